/- Part 10 of a proof: rules, plain facts, and functions walked. -/
import Derived.Test.YteimogfidbkpnaaGreatM9
import Derived.Test.YteimogfidbkpnaaGreatM7
import Derived.LoopNIn
set_option linter.all false
namespace Go.Fid
open Go.RowKit (Below)
theorem publish_core{C:eP}{a:Act}{w:World}{st:PS}{D:qE}{β:qD}{k s m:Nat}{T:TypeId}{cs:List SV}{es:List jQ}(h:SimAt C a w st D β)(hb:kD st.bs k=some cs)(hes:∀ e∈es,e.cells.length=s)(hl:es.length=m)(hc:cs.take (m*s)=(qA es).map .d) :
  ∃ D',SimAt C a w ⟨st.sl,(k,none)::st.bs⟩ D' β∧∀ v D2,qG w D2 β v (.own k T s m)→uT w D' v (.sl T s es):=by
 have hfl:=uZ hes
 have hbs:∀ {j:Nat} {c:List SV},kD ((k,none)::st.bs) j=some c→j≠k∧kD st.bs j=some c:=fun {j c} hj=>by
  rw[jK] at hj
  split at hj
  ·cases hj
  ·rename_i e;exact ⟨fun e'=>e e'.symm,hj⟩
 rcases h.mem.ok k cs hb with ⟨g1,hcs⟩ | ⟨b,vs,T',g1,g2,g3,g4,g5⟩
 ·refine ⟨D,⟨h.base,⟨fun j c hj=>h.mem.ok j c (hbs hj).2,fun j1 j2 c1 c2 q1 q2=>h.mem.inj j1 j2 c1 c2 (hbs q1).2 (hbs q2).2⟩,fun j c hj=>h.high j c (hbs hj).2,h.slots⟩,fun v D2 hv=>?_⟩
  rcases hv with ⟨_,e2,e3⟩ | ⟨b,cap,vs,h1,_⟩
  ·rw[e2] at hl
   have hn:es=[]:=List.eq_nil_of_length_eq_zero hl
   subst hn
   rw[e3];exact fN w D T s
  ·rw[h1] at g1;cases g1
 ·have hlt:=uN g2
  have hmono:∀ t' g o,D t' g o→(D t' g o∨(t'=T∧g=b∧o<m*s))∧w.cell? ⟨g,o,none⟩=w.cell? ⟨g,o,none⟩:=fun t' g o hd=>⟨.inl hd,rfl⟩
  have hS:∀ {v x},qG w D β v x→qG w (fun t' g o=>D t' g o∨(t'=T∧g=b∧o<m*s)) β v x:=fun {v x} hr=>by
   cases x with
   |d x=>exact uT.mono hmono hr
   |ref k o=>exact hr
   |own k t s n=>exact hr
   |clo f ks=>exact hr
   |emp=>exact hr
   |view k o n=>exact hr
   |hob u b ob=>exact hr
   |pr k t s n x=>obtain ⟨v1,v2,e,h1,h2⟩:=hr;exact ⟨v1,v2,e,h1,uT.mono hmono h2⟩
   |refx k o b=>exact hr
   |bnd f k o=>exact hr
   |ownx k t s n u=>exact hr
   |junk=>trivial
  refine ⟨fun t' g o=>D t' g o∨(t'=T∧g=b∧o<m*s),⟨⟨h.base.defers,h.base.size,h.base.keep,h.base.oth,h.base.pin,h.base.below,fun t' g o hd=>.inl (h.base.dmono _ _ _ hd),fun t' g o hd=>?_,fun t' g o hd=>?_⟩,⟨fun j c hj=>?_,fun j1 j2 c1 c2 q1 q2=>h.mem.inj j1 j2 c1 c2 (hbs q1).2 (hbs q2).2⟩,fun j c hj=>h.high j c (hbs hj).2,fun u=>hS (h.slots u)⟩,fun v D2 hv=>?_⟩
  ·rcases hd with hd | ⟨_,e,_⟩
   ·exact h.base.dnew _ _ _ hd
   ·subst e;exact .inr (h.high k cs hb g g1)
  ·rcases hd with hd | ⟨_,e,_⟩
   ·exact h.base.dok _ _ _ hd
   ·subst e;exact hlt
  ·obtain ⟨hne,hj'⟩:=hbs hj
   rcases h.mem.ok j c hj' with q | ⟨b2,vs2,T2,q1,q2,q3,q4,q5⟩
   ·exact .inl q
   ·refine .inr ⟨b2,vs2,T2,q1,q2,q3,fun i x hx=>?_,fun t' o hd=>?_⟩
    ·obtain ⟨u,e1,e2,e3⟩:=q4 i x hx
     exact ⟨u,e1,e2,hS e3⟩
    ·rcases hd with hd | ⟨_,e,_⟩
     ·exact q5 _ _ hd
     ·subst e;exact hne (h.mem.inj j k _ _ hj' hb b2 q1 g1)
  ·rcases hv with ⟨e1,_,_⟩ | ⟨b2,cap,vs2,h1,h2,h3,h4,h5,h6⟩
   ·rw[e1] at g1;cases g1
   ·obtain rfl:b=b2:=by rw[h1] at g1;injection g1 with g1;exact g1.symm
    rw[h3] at g2
    injection g2 with g2
    injection g2 with g2 gT
    subst g2;subst gT
    rw[h2]
    have key:∀ (i:Nat) d,(qA es)[i]?=some d→∃ u,vs2[i]?=some u∧u.oneCell'=true∧uT w D u d:=fun i d hd=>by
     have hi:i<m*s:=by
      have:=(List.getElem?_eq_some_iff.1 hd).1
      rw[hfl,hl] at this;exact this
     have e1:cs[i]?=some (.d d):=by
      have:(cs.take (m*s))[i]?=some (.d d):=by rw[hc];simp [hd]
      rwa [List.getElem?_take_of_lt hi] at this
     exact g4 i _ e1
    have hcell:∀ i,w.cell? ⟨b,i,none⟩=vs2[i]?:=fun i=>cell_of_row w b i vs2 T (0,0) h3
    refine uT.sl b 0 (fun i=>vs2.getD i undef) hl.symm h5 h6 hes (fun _=>rfl) (fun i hi=>.inr ⟨rfl,rfl,by rw[Nat.zero_add,← hl,← hfl];exact hi⟩) (fun i hi=>?_) (fun i hi=>?_) (fun i d hd=>?_)
    ·obtain ⟨x,q1,q2,q3⟩:=key i _ (List.getElem?_eq_getElem hi)
     rw[Nat.zero_add,hcell,Array.getD_eq_getD_getElem?,q1];rfl
    ·obtain ⟨x,q1,q2,q3⟩:=key i _ (List.getElem?_eq_getElem hi)
     rw[Array.getD_eq_getD_getElem?,q1];exact q2
    ·obtain ⟨x,q1,q2,q3⟩:=key i d hd
     rw[Array.getD_eq_getD_getElem?,q1]
     exact uT.mono hmono q3
theorem publishB{st:PS}{j k s m:Nat}{T:TypeId}{cs:List SV}{es:List jQ}(hj:kD st.bs j=some [.own k T s m])(hjk:Nat.beq k j=false)(hb:kD st.bs k=some cs)(hes:∀ e∈es,e.cells.length=s)(hl:es.length=m)(hc:cs.take (m*s)=(qA es).map .d) :
  kB st ⟨st.sl,(j,some [.d (.sl T s es)])::(k,none)::st.bs⟩:=fun C a w ⟨D,β,h⟩=>by
 obtain ⟨D',h',hown⟩:=publish_core (T:=T) h hb hes hl hc
 have hne:k≠j:=fP hjk
 have hj2:kD ((k,none)::st.bs) j=some [.own k T s m]:=by rw[jK,if_neg hne];exact hj
 refine ⟨D',β,h'.base,⟨fun i c hi=>?_,fun i1 i2 c1 c2 q1 q2=>?_⟩,fun i c hi=>?_,h'.slots⟩
 ·rw[jK] at hi
  split at hi
  ·rename_i e;subst e
   injection hi with hi;subst hi
   rcases h'.mem.ok j _ hj2 with ⟨_,q⟩ | ⟨b,vs,T2,q1,q2,q3,q4,q5⟩
   ·cases q
   ·refine .inr ⟨b,vs,T2,q1,q2,by simpa using q3,fun i x hx=>?_,q5⟩
    rcases i with _ | i
    ·obtain ⟨u,e1,e2,e3⟩:=q4 0 _ rfl
     simp at hx;subst hx
     exact ⟨u,e1,e2,hown u D' e3⟩
    ·simp at hx
  ·exact h'.mem.ok i c hi
 ·have conv:∀ {i c},kD ((j,some [SV.d (.sl T s es)])::(k,none)::st.bs) i=some c→∃ c',kD ((k,none)::st.bs) i=some c':=fun {i c} hi=>by
   rw[jK] at hi
   split at hi
   ·rename_i e;subst e;exact ⟨_,hj2⟩
   ·exact ⟨c,hi⟩
  obtain ⟨c1',r1⟩:=conv q1
  obtain ⟨c2',r2⟩:=conv q2
  exact h'.mem.inj i1 i2 c1' c2' r1 r2
 ·rw[jK] at hi
  split at hi
  ·rename_i e;subst e;exact h'.high j _ hj2
  ·exact h'.high i c hi
section
variable {P:Program} {o:Oper} {S:Nat→SV}
theorem t_sto{T:TypeId}{x y:Operand}{k j E s n:Nat}{u:SV}(ho:o.op=.store T x y)(hx:ev S x=.ref k 0)(hy:ev S y=.own j E s n)(hs:kZ P T=some (false,1)):TOk P o S k [u] [.own j E s n] :=
 t_store (old:=[u]) ho hx hy hs (.inr ⟨⟨j,E,s,n,rfl⟩,rfl⟩) rfl (Nat.le_refl _)
inductive mG (k:Nat) (T:TypeId) (s m:Nat) (es:List jQ):List SV→List jQ→Prop
 |nil:mG k T s m es [] []
 |d {x:jQ} {zs:List SV} {ds:List jQ} (h:mG k T s m es zs ds):mG k T s m es (.d x::zs) (x::ds)
 |o {zs:List SV} {ds:List jQ} (h:mG k T s m es zs ds):mG k T s m es (.own k T s m::zs) (.sl T s es::ds)
theorem mG.len{k:Nat}{T:TypeId}{s m:Nat}{es:List jQ}{zs:List SV}{ds:List jQ}(h:mG k T s m es zs ds):zs.length=ds.length:=by
 induction h with
 |nil=>rfl
 |d h ih=>simp [ih]
 |o h ih=>simp [ih]
theorem mG.rep{k:Nat}{T:TypeId}{s m:Nat}{es:List jQ}{w:World}{D D':qE}{β:qD}(h1:∀ v x,uT w D v x→uT w D' v x)(h2:∀ v,qG w D β v (.own k T s m)→uT w D' v (.sl T s es)){zs:List SV}{ds:List jQ}(h:mG k T s m es zs ds) :
  ∀ {vs:List Value},vs.length=zs.length→(∀ (i:Nat) v x,vs[i]?=some v→zs[i]?=some x→qG w D β v x)→∀ (i:Nat) v d,vs[i]?=some v→ds[i]?=some d→uT w D' v d:=by
 induction h with
 |nil=>intro vs _ _ i v d _ hd;simp at hd
 |d h ih=>
  rename_i x zs ds
  intro vs hl hr i v d' hv hd
  rcases vs with _ | ⟨v0,vs⟩
  ·simp at hl
  ·rcases i with _ | i
   ·simp at hv hd;subst hv;subst hd;exact h1 _ _ (hr 0 _ _ rfl rfl)
   ·exact ih (by simpa using hl) (fun i v x h3 h4=>hr (i+1) v x (by simpa using h3) (by simpa using h4)) i v d' (by simpa using hv) (by simpa using hd)
 |o h ih=>
  intro vs hl hr i v d' hv hd
  rcases vs with _ | ⟨v0,vs⟩
  ·simp at hl
  ·rcases i with _ | i
   ·simp at hv hd;subst hv;subst hd;exact h2 _ (hr 0 _ _ rfl rfl)
   ·exact ih (by simpa using hl) (fun i v x h3 h4=>hr (i+1) v x (by simpa using h3) (by simpa using h4)) i v d' (by simpa using hv) (by simpa using hd)
theorem e_clo{y:Operand}{xs:List Operand}{ats:Array TypeId}{f:FuncId}{ds es:List jQ}{u:Value}{zs:List SV}{cs:List SV}{k T s m:Nat}(hf:jR P f ds (.val u))(ho:o.op=.call { callee:=.value y,args:=xs.toArray,argTypes:=ats })(hy:ev S y=.d (.val (.func (.func f) #[] #[])))(hx:xs.map (ev S)=zs)
  (hz:mG k T s m es zs ds) (hes:∀ e∈es,e.cells.length=s) (hl:es.length=m) (hc:cs.take (m*s)=(qA es).map .d):qX P o S [(k,cs)] (.d (.val u)) :=
 fun a w D β Q hop hrd hD=>by
  have hyv:=hop y (by simp [ho,Op.operands,Call.operands])
  rw[hy] at hyv
  have hyv':=uF hyv
  have hrep:∀ (i:Nat) v x,(xs.map a.eval)[i]?=some v→zs[i]?=some x→qG w D β v x:=fun i v x hv hz'=>by
   rw[List.getElem?_map,Option.map_eq_some_iff] at hv
   obtain ⟨q,hqi,rfl⟩:=hv
   have hm:=hop q (by simp [ho,Op.operands,Call.operands,List.mem_of_getElem? hqi])
   have hi:=congrArg (fun l:List SV=>l[i]?) hx
   simp only[List.getElem?_map,hqi,hz',Option.map_some,Option.some.injEq] at hi
   rw[hi] at hm
   exact hm
  have uB:(xs.map a.eval).length=zs.length:=by rw[← hx];simp
  have hrun:(execOp a.eval o).run P w=.ok (.enter f (xs.map a.eval).toArray) w:=by
   simp only[execOp,ho,resolve,Deferred.ofValue,hyv',Sem.run_bind,Sem.run_pure,Result.andThen_ok,invoke,Array.empty_append,Array.append_empty]
   rw[yQ hf.may]
   simp
  have hfl:=uZ hes
  have hblk:=hrd (k,cs) (by simp)
  have key:∃ D',DOk D' w∧(∀ v x,uT w D v x→uT w D' v x)∧(∀ v,qG w D β v (.own k T s m)→uT w D' v (.sl T s es)):=by
   rcases hblk with ⟨g1,hcs⟩ | ⟨b,vs,T',g1,g2,g3,g4,g5⟩
   ·refine ⟨D,hD,fun _ _ h=>h,fun v hv=>?_⟩
    rcases hv with ⟨_,e2,e3⟩ | ⟨b,cap,vs,h1,_⟩
    ·rw[e2] at hl
     have hn:es=[]:=List.eq_nil_of_length_eq_zero hl
     subst hn
     rw[e3];exact fN w D T s
    ·rw[h1] at g1;cases g1
   ·have hmono:∀ t' g o,D t' g o→(D t' g o∨(t'=T∧g=b∧o<m*s))∧w.cell? ⟨g,o,none⟩=w.cell? ⟨g,o,none⟩:=fun t' g o hd=>⟨.inl hd,rfl⟩
    refine ⟨fun t' g o=>D t' g o∨(t'=T∧g=b∧o<m*s),fun t' g o hd=>?_,fun v x hr=>uT.mono hmono hr,fun v hv=>?_⟩
    ·rcases hd with hd | ⟨_,e,_⟩
     ·exact hD _ _ _ hd
     ·subst e;exact uN g2
    ·rcases hv with ⟨e1,_,_⟩ | ⟨b2,cap,vs2,h1,h2,h3,h4,h5,h6⟩
     ·rw[e1] at g1;cases g1
     ·obtain rfl:b=b2:=by rw[h1] at g1;injection g1 with g1;exact g1.symm
      rw[h3] at g2
      injection g2 with g2
      injection g2 with g2 gT
      subst g2;subst gT
      rw[h2]
      have key:∀ (i:Nat) d,(qA es)[i]?=some d→∃ u,vs2[i]?=some u∧u.oneCell'=true∧uT w D u d:=fun i d hd=>by
       have hi:i<m*s:=by
        have:=(List.getElem?_eq_some_iff.1 hd).1
        rw[hfl,hl] at this;exact this
       have e1:cs[i]?=some (.d d):=by
        have:(cs.take (m*s))[i]?=some (.d d):=by rw[hc];simp [hd]
        rwa [List.getElem?_take_of_lt hi] at this
       exact g4 i _ e1
      have hcell:∀ i,w.cell? ⟨b,i,none⟩=vs2[i]?:=fun i=>cell_of_row w b i vs2 T (0,0) h3
      refine uT.sl b 0 (fun i=>vs2.getD i undef) hl.symm h5 h6 hes (fun _=>rfl) (fun i hi=>.inr ⟨rfl,rfl,by rw[Nat.zero_add,← hl,← hfl];exact hi⟩) (fun i hi=>?_) (fun i hi=>?_) (fun i d hd=>?_)
      ·obtain ⟨x,q1,q2,q3⟩:=key i _ (List.getElem?_eq_getElem hi)
       rw[Nat.zero_add,hcell,Array.getD_eq_getD_getElem?,q1];rfl
      ·obtain ⟨x,q1,q2,q3⟩:=key i _ (List.getElem?_eq_getElem hi)
       rw[Array.getD_eq_getD_getElem?,q1];exact q2
      ·obtain ⟨x,q1,q2,q3⟩:=key i d hd
       rw[Array.getD_eq_getD_getElem?,q1]
       exact uT.mono hmono q3
  obtain ⟨D',hD',hm1,hm2⟩:=key
  have hargs:Args w D' (xs.map a.eval) ds:=⟨uB.trans hz.len,hz.rep hm1 hm2 uB hrep⟩
  refine cD hrun ((hf.run w D' _ hD' hargs).mono fun e w' h=>?_)
  obtain ⟨v,D2,he,h1,h2,h3⟩:=h
  refine ⟨v,he,v,D,rfl,h1,⟨fun _ _ _ h=>h,fun _ _ _ h=>.inl h⟩,?_⟩
  rw[uF h3]
  exact .val u
def OPost(w:World)(D:qE)(T s n:Nat)(es:List jQ)(e:Ending)(w':World):Prop :=
 ∃ v D' b cap vs,e=.returned v∧Below w.heap.size w w'∧DUp D D' w w'∧w.heap.size≤b∧(∀ t o,¬ D' t b o)∧v=.slice (some ⟨b,0,none⟩) n cap∧w'.heap[b]?=some (.cells vs T (0,0))∧vs.size=cap*s∧n≤cap∧cap≤maxLen∧es.length≤vs.size ∧
  (∀ (i:Nat) d,es[i]?=some d→∃ u,vs[i]?=some u∧u.oneCell'=true∧uT w' D' u d)
structure TakesO (P:Program) (f:FuncId) (ds:List jQ) (T s n:Nat) (es:List jQ):Prop where
 may:callB P f=true
 run:∀ (w:World) (D:qE) (vs:List Value),DOk D w→Args w D vs ds→Calls P f vs.toArray w (OPost w D T s n es)
theorem n_own{y:Operand}{xs:List Operand}{ats:Array TypeId}{f:FuncId}{ds es:List jQ}{T s n:Nat}{cs:List SV}(k:Nat)(hf:TakesO P f ds T s n es)(ho:o.op=.call { callee:=.value y,args:=xs.toArray,argTypes:=ats })(hy:ev S y=.d (.val (.func (.func f) #[] #[])))(hx:xs.map (ev S)=ds.map .d)(hc:es.map .d=cs):NOk P o S k cs (.own k T s n) :=
 fun a w D β Q hop hD=>by
  subst hc
  have hyv:=hop y (by simp [ho,Op.operands,Call.operands])
  rw[hy] at hyv
  have hyv':=uF hyv
  have hargs:Args w D (xs.map a.eval) ds:=by
   have hl:xs.length=ds.length:=by simpa using congrArg List.length hx
   refine ⟨by simpa using hl,fun i v d hv hd=>?_⟩
   rw[List.getElem?_map,Option.map_eq_some_iff] at hv
   obtain ⟨x,hxi,rfl⟩:=hv
   have hm:=hop x (by simp [ho,Op.operands,Call.operands,List.mem_of_getElem? hxi])
   have hi:=congrArg (fun l:List SV=>l[i]?) hx
   simp only[List.getElem?_map,hxi,hd,Option.map_some,Option.some.injEq] at hi
   rw[hi] at hm
   exact hm
  have hrun:(execOp a.eval o).run P w=.ok (.enter f (xs.map a.eval).toArray) w:=by
   simp only[execOp,ho,resolve,Deferred.ofValue,hyv',Sem.run_bind,Sem.run_pure,Result.andThen_ok,invoke,Array.empty_append,Array.append_empty]
   rw[yQ hf.may]
   simp
  refine cD hrun ((hf.run w D _ hD hargs).mono fun e w' h=>?_)
  obtain ⟨v,D',b,cap,vs,he,h1,h2,h3,h4,h5,h6,h7,h8,h9,h10,h11⟩:=h
  have hβ:β.set k b k=some b:=by simp [qD.set]
  refine ⟨v,he,v,D',b,rfl,h1,h2,h3,uN h6,h4,.inr ⟨b,vs,T,hβ,h6,by simpa using h10,fun i x hx=>?_,h4⟩,.inr ⟨b,cap,vs,hβ,h5,h6,h7,h8,h9⟩⟩
  rw[List.getElem?_map,Option.map_eq_some_iff] at hx
  obtain ⟨d,hd,rfl⟩:=hx
  exact h11 i d hd
theorem leaves_own{a:Act}{v:Value}{w w0:World}{fn:Func}{D D':qE}{T s n b cap:Nat}{es:List jQ}{vs:Array Value}{ds:List Deferred}(hd:DfOk w0.heap.size w ds)(hres:∀ w',(results fn a.tmps).run P w'=.ok v w')
  (gV:Below w0.heap.size w0 w) (hup:∀ t g o,D t g o→D' t g o) (hnew:∀ t g o,D' t g o→D t g o∨w0.heap.size≤g) (hdok:DOk D' w) (h3:w0.heap.size≤b) (h4:∀ t o,¬ D' t b o) (h5:v=.slice (some ⟨b,0,none⟩) n cap)
  (h6:w.heap[b]?=some (.cells vs T (0,0))) (h7:vs.size=cap*s) (h8:n≤cap) (h9:cap≤maxLen) (h10:es.length≤vs.size) (h11:∀ (i:Nat) d,es[i]?=some d→∃ u,vs[i]?=some u∧u.oneCell'=true∧uT w D' u d) :
  LeavesInM Fence.wide 0 P fn a.tmps (OPost w0 D T s n es) ds .returning w:=by
 induction ds generalizing w with
 |nil=>
  refine ⟨v,hres w,v,D',b,cap,vs,rfl,gV,⟨hup,fun t g o hd=>?_⟩,h3,h4,h5,h6,h7,h8,h9,h10,h11⟩
  rcases hnew t g o hd with q | q
  ·exact .inl q
  ·exact .inr ⟨q,hdok _ _ _ hd⟩
 |cons d ds ih=>
  cases hd with
  |cons hqb hqh h3' hr=>
   rename_i q
   have hne:b≠q:=fun e=>by subst e;rw[h6] at hqh;cases hqh
   refine ⟨by simp,.inl ⟨q,_,rfl,run_takeDeferred hqh,ih (hr.keep fun q' hq' ⟨d,hd,e⟩=>?_) (turned_below gV hqb) (fun t g o hd=>by simpa [World.putObj] using hdok t g o hd) ((World.putObj_heap_other hne).trans h6) (fun i d hd=>?_)⟩⟩
   ·have hne:q'≠q:=fun e'=>h3' d hd (e'▸e)
    exact (World.putObj_heap_other hne).trans hq'
   ·obtain ⟨u,e1,e2,e3⟩:=h11 i d hd
    exact ⟨u,e1,e2,eR (β:=fun _=>none) (x:=.d d) hqh rfl rfl rfl e3⟩
def RetO(rs:List ResultVar)(T s n:Nat)(es:List jQ):Exit→PS→Prop
 |.ret,st=>∃ t k,rs=[.tmp t]∧jW st.sl t=.own k T s n∧∃ cs,kD st.bs k=some cs∧es.length≤cs.length∧∀ (i:Nat) d,es[i]?=some d→cs[i]?=some (.d d)
 |.normal,st=>∃ t k,rs=[.tmp t]∧jW st.sl t=.own k T s n∧∃ cs,kD st.bs k=some cs∧es.length≤cs.length∧∀ (i:Nat) d,es[i]?=some d→cs[i]?=some (.d d)
 |_,_=>False
theorem own_prefix{α:Type}(F:α→jQ){L L':List α}{j:Nat}(h:L=L'.take j):(L.map F).length≤(L'.map (fun g=>SV.d (F g))).length∧∀ (i:Nat) d,(L.map F)[i]?=some d→(L'.map (fun g=>SV.d (F g)))[i]?=some (.d d):=by
 subst h
 refine ⟨by simp;omega,fun i d hd=>?_⟩
 rw[List.getElem?_map,Option.map_eq_some_iff] at hd
 obtain ⟨g,hg,rfl⟩:=hd
 have hi:i<(L'.take j).length:=(List.getElem?_eq_some_iff.1 hg).1
 rw[List.length_take] at hi
 rw[List.getElem?_take_of_lt (by omega)] at hg
 rw[List.getElem?_map,hg]
 rfl
theorem fn_introO{f:FuncId}{fn:Func}{c:Code}{ds:List jQ}{T s n:Nat}{es:List jQ}(hf:P.funcs[f]?=some fn)(hb:fn.body=some c)(hc:callB P f=true)(hn:Nat.ble ds.length fn.ntmps=true)(hpos:0<n)
  (h:qS P ⟨0,fn.ntmps,none⟩ c (RetO fn.results.toList T s n es) ⟨dS ds 0,[]⟩):TakesO P f ds T s n es :=
 ⟨hc,fun w D vs hD hargs=>by
  refine (callsIn_wide (n:=0)).1 (callsIn_of_wp_marks hf hb trivial ?_)
  have hle:ds.length≤fn.ntmps:=Nat.le_of_ble_eq_true hn
  have hvl:=hargs.1
  have hsim:nR ⟨w,D,w,#[],⟨0,fn.ntmps,none⟩,fun _=>False⟩ { tmps:=vs.toArray++Array.replicate (fn.ntmps-vs.toArray.size) undef,defers:=[] } w ⟨dS ds 0,[]⟩:=by
   refine ⟨D,fun _=>none,⟨.nil,by simp;omega,fun _ _ _ _=>rfl,fun _ _ h _=>h,fun t ht=>absurd ht (Nat.not_lt_zero t),.of (Below.refl _ _),fun _ _ _ h=>h,fun _ _ _ h=>.inl h,hD⟩,⟨fun k cs hk=>by simp [kD] at hk,fun k1 k2 c1 c2 h1=>by simp [kD] at h1⟩,fun k c hk=>by simp [kD] at hk,fun t=>?_⟩
   show qG w D _ _ (jW (dS ds 0) t)
   rw[sget_init]
   simp only[Nat.zero_le,if_true,Nat.sub_zero]
   cases hd:ds[t]? with
   |none=>trivial
   |some d=>
    have ht:t<vs.length:=by rw[hvl];exact (List.getElem?_eq_some_iff.1 hd).1
    refine hargs.2 t _ d ?_ hd
    rw[Array.getD_eq_getD_getElem?,Array.getElem?_append_left (by simpa using ht)]
    simp [ht]
  refine wpIn_mono (h _ _ w 0 rfl hsim) fun e a w' ⟨st,⟨D',β,hs⟩,hq⟩=>?_
  have fin:(∃ t k,fn.results.toList=[.tmp t]∧jW st.sl t=.own k T s n∧∃ cs,kD st.bs k=some cs∧es.length≤cs.length∧∀ (i:Nat) d,es[i]?=some d→cs[i]?=some (.d d))→LeavesInM Fence.wide 0 P fn a.tmps (OPost w D T s n es) a.defers .returning w':=fun ⟨t,k,h1,h2,cs,h3,h3l,h3c⟩=>by
   have ht:=hs.slots t
   rw[h2] at ht
   rcases ht with ⟨_,q,_⟩ | ⟨b,cap,vs',g1,g2,g3,g4,g5,g6⟩
   ·omega
   ·rcases hs.mem.ok k _ h3 with ⟨q,_⟩ | ⟨b',vs2,T2,q1,q2,q3,q4,q5⟩
    ·rw[g1] at q;cases q
    ·obtain rfl:b=b':=by rw[g1] at q1;injection q1
     rw[g3] at q2
     injection q2 with q2
     injection q2 with q2 qT
     subst q2;subst qT
     have hr:fn.results=#[.tmp t]:=by rw[← Array.toList_inj,h1]
     refine leaves_own (a:=a) hs.base.defers (fun w2=>?_) hs.base.below.plain hs.base.dmono (fun t g o hd=>(hs.base.dnew t g o hd).imp id (fun h=>h.elim id False.elim)) hs.base.dok ((hs.high k _ h3 b g1).elim id False.elim) q5 g2 g3 g4 g5 g6 (by omega) (fun i d hd=>q4 i (.d d) (h3c i d hd))
     rw[results_eq,hr]
     simp [resF]
  cases e with
  |normal=>exact fin hq
  |ret=>exact fin hq
  |exit id=>exact hq.elim
  |goto l=>exact hq.elim
  |panic ch=>exact hq.elim
  |outgrown=>exact hq.elim⟩
end
def FrB(k:Nat)(B:BS):Prop:=(B.all fun p=>(!(Nat.beq p.1 k))&&match p.2 with
  |some cs=>!(qM k cs)
  |none=>true)=true
theorem frb_nil(k:Nat):FrB k []:=rfl
theorem frb_none{k j:Nat}{B:BS}(h:Nat.beq j k=false)(hB:FrB k B):FrB k ((j,none)::B):=by
 unfold FrB at *
 rw[List.all_cons,hB,h];rfl
theorem frb_cs{k j:Nat}{cs:List SV}{B:BS}(h:Nat.beq j k=false)(hc:qM k cs=false)(hB:FrB k B):FrB k ((j,some cs)::B):=by
 unfold FrB at *
 rw[List.all_cons,hB,h];simp [hc]
theorem frb_map{α:Type}{k j:Nat}{f:α→jQ}{l:List α}{B:BS}(h:Nat.beq j k=false)(hB:FrB k B):FrB k ((j,some (l.map (fun g=>SV.d (f g))))::B):=frb_cs h (yT k f l) hB
theorem frb_d{k j:Nat}{l:List jQ}{B:BS}(h:Nat.beq j k=false)(hB:FrB k B):FrB k ((j,some (l.map SV.d))::B):=frb_cs h (yT k id l) hB
theorem cT{α:Type}(news:List Nat)(f:α→jQ)(l:List α):clearL news (l.map (fun g=>SV.d (f g)))=true:=by
 unfold clearL
 rw[List.all_eq_true]
 intro k _
 rw[yT];rfl
theorem freshB_of{k:Nat}{S:SL}{B:BS}(h1:(S.all fun p=>!p.2.names k)=true)(h2:FrB k B):yD k ⟨S,B⟩=true:=by
 unfold yD
 unfold FrB at h2
 rw[h1]
 exact h2
def PJoin{α:Type}(id:Nat)(St:α→PS)(I:α→Prop)(Q:Exit→PS→Prop):Exit→PS→Prop
 |.normal,s=>∃ y,kB s (St y)∧I y
 |.exit i,s=>if i=id then ∃ y,kB s (St y)∧I y else Q (.exit i) s
 |e,s=>Q e s
theorem pjoin_exit{α:Type}{id:Nat}{St:α→PS}{I:α→Prop}{Q:Exit→PS→Prop}{s:PS}(h:∃ y,kB s (St y)∧I y):PJoin id St I Q (.exit id) s:=by
 show (if id=id then _ else _)
 rw[if_pos rfl];exact h
theorem pwp_seqjoin{P:Program}{n:Fr}{Q:Exit→PS→Prop}{st:PS}{α:Type}{id:Nat}{c d:Code}(St:α→PS)(I:α→Prop)(h1:qS P n c (PJoin id St I Q) st)(h2:∀ y,I y→qS P n d Q (St y)):qS P n (.seq (.block id c) d) Q st:=by
 refine jA (jD (pwp_mono h1 ?_))
 rintro e s h
 cases e with
 |normal=>
  obtain ⟨y,q1,q2⟩:=h
  exact kE q1 (h2 y q2)
 |exit i=>
  have h':if i=id then ∃ y,kB s (St y)∧I y else Q (.exit i) s:=h
  show if i=id then _ else _
  split
  ·rename_i e;rw[if_pos e] at h'
   obtain ⟨y,q1,q2⟩:=h'
   exact kE q1 (h2 y q2)
  ·rename_i e;rw[if_neg e] at h';exact h'
 |ret=>exact h
 |goto l=>exact h
 |panic ch=>exact h
 |outgrown=>exact h
theorem e_pkfo{P:Program}{o:Oper}{S:Nat→SV}{c x y:Operand}{q:Bool}(ho:o.op=.pick c x y)(hc:ev S c=.d (.val (.bool false)))(hy:ev S y=.d (.val (.bool q))):qX P o S [] (.d (.val (.bool (false||q)))):=by
 rw[Bool.false_or];exact e_pkf ho hc hy
theorem e_pkta{P:Program}{o:Oper}{S:Nat→SV}{c x y:Operand}{q:Bool}(ho:o.op=.pick c x y)(hc:ev S c=.d (.val (.bool true)))(hx:ev S x=.d (.val (.bool q))):qX P o S [] (.d (.val (.bool (true&&q)))):=by
 rw[Bool.true_and];exact e_pkt ho hc hx
section
variable {P:Program} {o:Oper} {S:Nat→SV}
theorem e_bse{T E:TypeId}{s:Nat}(ho:o.op=.buildSlice T 0 #[])(hT:uW P T=some (E,s)):qX P o S [] .emp :=
 fun a w D β Q hop _ hD=>by
  obtain ⟨j,e1,e2,e3⟩:=gZ hT
  have hrun:(execOp a.eval o).run P w=.ok (.value (.slice (some ⟨w.heap.size,0,none⟩) 0 0)) (w.alloc (.cells #[] E)):=by
   simp only[execOp,ho,Instr.buildSlice,Sem.run_bind,run_underlying e1,Result.andThen_ok,vE e2,Nat.zero_mul,if_true,Sem.run_pure]
   rw[if_neg (by omega)]
   simp [newRow,run_newObj,Array.range_zero',Instr.fill]
  exact mM hrun ⟨_,D,rfl,⟨rfl,rfl,rfl,by simp,fun q hq=>heap_alloc_old w _ hq⟩,DUp.of_same D,⟨_,rfl⟩⟩
theorem e_appe{T E t':TypeId}{x y:Operand}{s bytes:Nat}{zv:List Value}{es':List jQ}(ho:o.op=.call { callee:=.builtin .append,args:=#[x,y],argTypes:=#[T,T] })
  (hT:uW P T=some (E,s)) (hz:uL P E=some zv) (hzl:zv.length=s) (hby:xK P E=some bytes) (hx:ev S x=.emp) (hy:ev S y=.d (.sl t' s es')) (hbig:es'.length≤maxLen) (hbig':es'.length*bytes≤140737488355328) :
  qX P o S [] (.d (.sl t' s es')):=fun a w D β Q hop _ hD=>by
 have h1:=hop x (by simp [ho,Op.operands,Call.operands])
 have h2:=hop y (by simp [ho,Op.operands,Call.operands])
 rw[hx] at h1
 rw[hy] at h2
 obtain ⟨ao0,hv⟩:=h1
 obtain ⟨ao,c,us,hyv,hcc,hul,hfl',dV,hrep,had⟩:=fF h2
 obtain ⟨i,z,z1,z2,z3⟩:=mY hz
 obtain ⟨j,f1,f2,f3⟩:=gZ hT
 have hij:i=j:=by rw[z1] at f2;injection f2
 subst hij
 have hbi:i.bytes=bytes:=by
  unfold xK at hby
  rw[z1] at hby
  simpa using hby
 subst hbi
 have hzs:z.cells.size=s:=by rw[z3];simpa using hzl
 have hml:(maxLen:Int)≤9223372036854775807:=by decide
 have hsl:∀ e∈es',e.cells.length=s:=(fun v (h:uT w D v (.sl t' s es'))=>by
  cases h with
  |sl g off u hn hc hm hs ha hD hu h1 hr=>exact hs:∀ v,uT w D v (.sl t' s es')→∀ e∈es',e.cells.length=s) _ h2
 by_cases hm0:es'.length=0
 ·have hnil:es'=[]:=List.eq_nil_of_length_eq_zero hm0
  subst hnil
  have hrun:(Builtin.append_ #[T,T] o.type #[a.eval x,a.eval y]).run P w=.ok (a.eval x) w:=by
   rw[hyv]
   have e0:([]:List jQ).length=0:=rfl
   have hu0:us=[]:=List.eq_nil_of_length_eq_zero (by simpa using hul)
   rw[hv,e0]
   cases ao0<;>cases ao with
   |none=>simp [Builtin.append_,run_underlying f1,sizeOf,typeInfo,z1,Builtin.lenOf,Builtin.firstCells,storeCells]
   |some ad=>simp [Builtin.append_,run_underlying f1,sizeOf,typeInfo,z1,Builtin.lenOf,Builtin.firstCells,loadCells,loadCellsFrom,storeCells]
  have hR:qG w D β (a.eval x) (.d (.sl t' s [])):=by
   rw[hv]
   exact uT.sl 0 0 (fun _=>undef) rfl (Nat.le_refl _) (Nat.zero_le _) (by simp) (fun h=>absurd h (Nat.lt_irrefl 0)) (by simp [qA]) (by simp [qA]) (by simp [qA]) (by simp [qA])
  unfold Oper.wp execOp
  simp only[ho,resolve,invoke,builtin,Sem.run_bind,Sem.run_pure,Result.andThen_ok,List.map_toArray,List.map_cons,List.map_nil,hrun]
  exact ⟨_,D,rfl,Below.refl _ _,DUp.of_same D,hR⟩
 ·obtain ⟨ad,rfl,hcell⟩:=had (by omega)
  have key:∃ (G:Nat) (arr:List Value) (w':World),(Builtin.append_ #[T,T] o.type #[a.eval x,a.eval y]).run P w=.ok (.slice (some ⟨w.heap.size,0,none⟩) es'.length G) w'∧w'=w.drew.alloc (.cells (us++arr).toArray E)∧es'.length≤G∧G≤maxLen:=by
   cases ao0 with
   |none=>
    have hbytes:es'.length*i.bytes≤281474976710656:=by omega
    have hr:=run_append_nil (P:=P) w T o.type E i z f1 z1 z2 ad es'.length c us (by rw[hul,f3]) hcell (by omega) (by omega) hbytes
    have hge:=grownCap_ge w es'.length 0 E
    have hcm:=grownCap_le_maxLen w es'.length 0 E (by omega)
    generalize grownCap w es'.length 0 E=G at hr hge hcm
    exact ⟨G,(Builtin.zeroCells z.cells (G-es'.length)).toList,_,by rw[hv,hyv];exact hr,by congr 2;apply Array.ext';simp,hge,hcm⟩
   |some b0=>
    have hr:=run_append_grow (P:=P) w T o.type E i z f1 z1 z2 b0 0 0 [] (by simp) (by simp) ad es'.length c us (by rw[hul,f3]) hcell (by omega) (by omega) (growslice_fits (by omega) (by rw[Nat.zero_add];exact hbig'))
    rw[Nat.zero_add] at hr
    have hge:=grownCap_ge w es'.length 0 E
    have hcm:=grownCap_le_maxLen w es'.length 0 E (by omega)
    generalize grownCap w es'.length 0 E=G at hr hge hcm
    exact ⟨G,(Builtin.zeroCells z.cells (G-es'.length)).toList,_,by rw[hv,hyv];exact hr,by congr 2;apply Array.ext';simp,hge,hcm⟩
  obtain ⟨G,arr,w',hrun,hw',hge,hcm⟩:=key
  have hfl:=uZ hsl
  have gV:Below w.heap.size w w':=by subst hw';exact ⟨rfl,rfl,rfl,by simp,fun q hq=>heap_alloc_old w.drew _ hq⟩
  have hrow:w'.heap[w.heap.size]?=some (.cells (us++arr).toArray E (0,0)):=by subst hw';exact heap_alloc_new w.drew _
  have hcells:∀ q,w'.cell? ⟨w.heap.size,q,none⟩=(us++arr)[q]?:=fun q=>by rw[cell_of_row w' w.heap.size q _ E (0,0) hrow];simp
  have hsz:w'.heap.size=w.heap.size+1:=by subst hw';simp
  have hmono:∀ t g q,D t g q→(D t g q∨(t=t'∧g=w.heap.size∧q<us.length))∧w'.cell? ⟨g,q,none⟩=w.cell? ⟨g,q,none⟩:=fun t g q hd=>⟨.inl hd,nX gV (hD t g q hd)⟩
  have hul2:us.length=(qA es').length:=by rw[hul,hfl]
  unfold Oper.wp execOp
  simp only[ho,resolve,invoke,builtin,Sem.run_bind,Sem.run_pure,Result.andThen_ok,List.map_toArray,List.map_cons,List.map_nil,hrun]
  refine ⟨_,fun t g q=>D t g q∨(t=t'∧g=w.heap.size∧q<us.length),rfl,gV,⟨fun t g q h=>.inl h,fun t g q h=>?_⟩,?_⟩
  ·rcases h with h | ⟨_,h,_⟩
   ·exact .inl h
   ·exact .inr ⟨by omega,by omega⟩
  ·refine uT.sl w.heap.size 0 (fun q=>(us++arr).getD q undef) rfl hge hcm hsl (fun _=>rfl) (fun q hq=>.inr ⟨rfl,rfl,by omega⟩) (fun q hq=>?_) (fun q hq=>?_) (fun q d hq=>?_)
   ·rw[Nat.zero_add,hcells,List.getElem?_append_left (by omega)]
    simp [List.getD,List.getElem?_append_left (by omega:q<us.length),List.getElem?_eq_getElem (by omega:q<us.length)]
   ·rw[List.getD,List.getElem?_append_left (by omega),List.getElem?_eq_getElem (by omega:q<us.length)]
    exact dV _ (by simp)
   ·have hq':=(List.getElem?_eq_some_iff.1 hq).1
    rw[List.getD,List.getElem?_append_left (by omega),List.getElem?_eq_getElem (by omega:q<us.length)]
    exact uT.mono hmono (hrep q _ d (List.getElem?_eq_getElem (by omega)) hq)
end
abbrev mV {α:Type} (F:α→jQ) (L:List α):List SV:=(qA (L.map F)).map SV.d
theorem dJ{α:Type}(F:α→jQ){s:Nat}(hF:∀ g,(F g).cells.length=s)(L:List α):(qA (L.map F)).length=L.length*s:=by
 rw[uZ (s:=s) (fun e he=>by
  rw[List.mem_map] at he
  obtain ⟨g,_,rfl⟩:=he
  exact hF g),List.length_map]
theorem map_celllen{α:Type}(F:α→jQ){s:Nat}(hF:∀ g,(F g).cells.length=s)(L:List α):∀ e∈L.map F,e.cells.length=s:=fun e he=>by
 rw[List.mem_map] at he
 obtain ⟨g,_,rfl⟩:=he
 exact hF g
section
variable {P:Program} {n:Fr} {ops:Array Oper} {S S':SL} {B B':BS} {l:List Oper} {o:Oper}
theorem appP_sem{α:Type}{d:Tmp}{T E t':TypeId}{x y:Operand}{k s m bytes:Nat}{zv:List Value}(F:α→jQ)(L L':List α)(hF:∀ g,(F g).cells.length=s)(ho:o.op=.call { callee:=.builtin .append,args:=#[x,y],argTypes:=#[T,T] })(hdst:o.dst=some d)(hd:yX n (some d)=true)
  (hT:uW P T=some (E,s)) (hz:uL P E=some zv) (hzl:zv.length=s) (hby:xK P E=some bytes) (hx:ev (jW S) x=.own k E s m) (hb:kD B k=some (mV F L)) (hL:L.length=m) (hy:ev (jW S) y=.d (.sl t' s (L'.map F)))
  (hbig:m+L'.length≤maxLen) (hbig':(m+L'.length)*bytes≤140737488355328) (hB:Clr k B) (C:eP) (a:Act) (w:World) (Q:Exit→Act→World→Prop) (hn:C.n=n) (hs:nR C a w ⟨S,B⟩):o.wp P a w (fun a' w'=>nR C a' w' ⟨(d,.d (.sl E s ((L++L').map F)))::gE k S,(k,none)::B⟩) Q:=by
 have h0:=app_sound (st:=⟨S,B⟩) (N:=n) (es:=L.map F) (es':=L'.map F) ho (by rw[hdst];exact hd) hT hz hzl hby hx hb rfl (by rw[dJ F hF,hL]) hy (by simpa using hbig) (by simpa using hbig') hB C a w Q hn hs
 rw[hdst] at h0
 refine Oper.wp_mono (fun a' w' h1=>?_) h0
 have h2:=vP (st:=⟨(d,.own k E s (m+(L'.map F).length))::gE k S,(k,some ((qA (L.map F++L'.map F)).map .d))::B⟩) (t:=d) (k:=k) (s:=s) (m:=m+(L'.map F).length) (T:=E) (cs:=(qA (L.map F++L'.map F)).map .d) (es:=(L++L').map F)
  (by simp [qO]) (by simp [jK]) (map_celllen F hF _) (by simp [hL]) (by rw[← List.map_append];rw[List.take_of_length_le];rw[List.length_map,dJ F hF,List.length_append,hL,List.length_map];exact Nat.le_refl _)
 obtain ⟨D,β,h3⟩:=h2 C a' w' h1
 refine ⟨D,β,h3.base,⟨fun j c hj=>?_,fun j1 j2 c1 c2 q1 q2=>?_⟩,fun j c hj=>?_,fun t=>?_⟩
 ·rw[jK] at hj
  split at hj
  ·cases hj
  ·rename_i e;exact h3.mem.ok j c (by rw[jK,if_neg e,jK,if_neg e];exact hj)
 ·have conv:∀ {j:Nat} {c:List SV},kD ((k,none)::B) j=some c→kD ((k,none)::(k,some ((qA (L.map F++L'.map F)).map .d))::B) j=some c:=fun {j c} hj=>by
   rw[jK] at hj
   split at hj
   ·cases hj
   ·rename_i e;rw[jK,if_neg e,jK,if_neg e];exact hj
  exact h3.mem.inj j1 j2 c1 c2 (conv q1) (conv q2)
 ·rw[jK] at hj
  split at hj
  ·cases hj
  ·rename_i e;exact h3.high j c (by rw[jK,if_neg e,jK,if_neg e];exact hj)
 ·have h4:=h3.slots t
  have e1:jW ((d,SV.d (.sl E s ((L++L').map F)))::gE k S) t=jW ((d,SV.d (.sl E s ((L++L').map F)))::(d,.own k E s (m+(L'.map F).length))::gE k S) t:=by
   rw[qO,qO,qO]
   split
   ·rfl
   ·rfl
  show qG w' D β _ (jW ((d,SV.d (.sl E s ((L++L').map F)))::gE k S) t)
  rw[e1]
  exact h4
theorem bxs_one{α:Type}(F:α→jQ)(hF:∀ g,(F g).cells=[F g])(L:List α):mV F L=L.map (fun g=>SV.d (F g)):=by
 unfold mV;rw[flat_one F hF,List.map_map];rfl
end
theorem cmpQ_gt{a b:Rat}:0<dN a b↔b<a:=by
 unfold dN
 by_cases h:a<b
 ·rw[if_pos h];exact ⟨fun h3=>by omega,fun h3=>absurd (Rat.le_of_lt h3) (Rat.not_le.2 h)⟩
 ·rw[if_neg h]
  by_cases h2:b<a
  ·rw[if_pos h2];exact ⟨fun _=>h2,fun _=>by decide⟩
  ·rw[if_neg h2];exact ⟨fun h3=>by omega,fun h3=>absurd h3 h2⟩
theorem cmpQ_eq{a b:Rat}:dN a b=0↔a=b:=by
 unfold dN
 by_cases h:a<b
 ·rw[if_pos h];exact ⟨fun h3=>by omega,fun h3=>absurd h (h3▸Rat.lt_irrefl)⟩
 ·rw[if_neg h]
  by_cases h2:b<a
  ·rw[if_pos h2];exact ⟨fun h3=>by omega,fun h3=>absurd h2 (h3▸Rat.lt_irrefl)⟩
  ·rw[if_neg h2];exact ⟨fun _=>Rat.le_antisymm (Rat.not_lt.1 h2) (Rat.not_lt.1 h),fun _=>rfl⟩
theorem sameR_eq(x y:qK):((vD x&&vD y)&&(dN (toQ x) (toQ y) == 0))=(vD x&&(vD y&&decide (toQ x=toQ y))):=by
 rw[Bool.and_assoc]
 congr 2
 rw[Bool.eq_iff_iff,beq_iff_eq,decide_eq_true_eq,cmpQ_eq]
def sameR(x y:qK):Bool:=vD x&&(vD y&&decide (toQ x=toQ y))
theorem sameR_of(p q:Rat):sameR (jF p) (jF q)=decide (p=q):=by
 unfold sameR;simp only[fJ,toQ_ofQ,Bool.true_and]
def Bd(n:Int)(l:List Int):Prop:=∀ x∈l,-n≤x∧x≤n
theorem Bd.get{n:Int}{l:List Int}(h:Bd n l)(hn:0≤n)(i:Nat):-n≤l.getD i 0∧l.getD i 0≤n:=by
 rw[List.getD_eq_getElem?_getD]
 cases e:l[i]? with
 |none=>simp;omega
 |some x=>exact h x (List.mem_of_getElem? e)
theorem Bd.up{m n:Int}{l:List Int}(h:Bd m l)(hm:m≤n):Bd n l:=fun x hx=>by have:=h x hx;omega
theorem take_one{l:List Int}{i:Nat}(h:i<l.length):l.take (i+1)=l.take i++[l.getD i 0]:=by
 rw[List.take_add_one,List.getD_eq_getElem?_getD,List.getElem?_eq_getElem h]
 rfl
def yO(f:Int→Bool):List Int→Nat→Int
 |[],_=>-1
 |x::r,i=>bif f x then ((i:Nat):Int) else yO f r (i+1)
theorem firstIx_step(f:Int→Bool)(l:List Int)(k:Nat)(h:k<l.length)(hf:f (l.getD k 0)=false):yO f (l.drop k) k=yO f (l.drop (k+1)) (k+1):=by
 rw[List.drop_eq_getElem_cons h,yO,show f l[k]=false by rw[← hf,List.getD_eq_getElem?_getD,List.getElem?_eq_getElem h];rfl];rfl
theorem firstIx_at(f:Int→Bool)(l:List Int)(k:Nat)(h:k<l.length)(hf:f (l.getD k 0)=true):yO f (l.drop k) k=((k:Nat):Int):=by
 rw[List.drop_eq_getElem_cons h,yO,show f l[k]=true by rw[← hf,List.getD_eq_getElem?_getD,List.getElem?_eq_getElem h];rfl];rfl
theorem firstIx_end(f:Int→Bool)(l:List Int)(k:Nat)(h:l.length≤k):yO f (l.drop k) k=-1:=by rw[List.drop_eq_nil_of_le h];rfl
theorem firstIx_any(f:Int→Bool):∀ (l:List Int) (i:Nat),decide (0≤yO f l i)=l.any f
 |[],i=>by simp [yO]
 |x::r,i=>by
  rw[yO,List.any_cons]
  cases hx:f x with
  |true=>simp
  |false=>simp only[cond_false,Bool.false_or];exact firstIx_any f r (i+1)
def gB(mx n:Int):Bool:=decide (n<0)||decide (mx<n)
theorem wh_bd{w h:Int}(w1:1≤w)(w2:w≤64)(w3:1≤h)(w4:h≤64):-4096≤w*h∧w*h≤4096:=by
 have h1:w*h≤64*64:=Int.mul_le_mul w2 w4 (by omega) (by decide)
 have h2:0≤w*h:=Int.mul_nonneg (by omega) (by omega)
 omega
def chkB(w h mx:Int)(px:List Int):Bool:=((decide ((min (min w h) mx)<1)||decide (64<(max w h)))||decide (65535<mx))||(((px.length:Nat):Int) != (w*h))
def gG(w h mx:Int)(px:List Int):Int:=bif chkB w h mx px||px.any (gB mx) then 1 else 0
theorem chk_1{w h mx:Int}{px:List Int}(hc:chkB w h mx px=true):gG w h mx px=1:=by simp [gG,hc]
theorem chk_2{w h mx:Int}{px:List Int}(hc:px.any (gB mx)=true):gG w h mx px=1:=by simp [gG,hc]
theorem chk_3{w h mx:Int}{px:List Int}(h1:chkB w h mx px=false)(h2:px.any (gB mx)=false):gG w h mx px=0:=by simp [gG,h1,h2]
theorem chk_ok{w h mx:Int}{px:List Int}(hc:gG w h mx px=0):∃ a b:Nat,w=a∧h=b∧1≤a∧a≤64∧1≤b∧b≤64∧1≤mx∧mx≤65535∧px.length=a*b∧∀ x∈px,0≤x∧x≤mx:=by
 have h1:chkB w h mx px=false:=by
  cases h:chkB w h mx px with
  |false=>rfl
  |true=>rw[chk_1 h] at hc;cases hc
 have h2:px.any (gB mx)=false:=by
  cases h:px.any (gB mx) with
  |false=>rfl
  |true=>rw[chk_2 h] at hc;cases hc
 simp only[chkB,Bool.or_eq_false_iff,decide_eq_false_iff_not,bne_eq_false_iff_eq] at h1
 obtain ⟨⟨⟨q1,q2⟩,q3⟩,q4⟩:=h1
 refine ⟨w.toNat,h.toNat,by omega,by omega,by omega,by omega,by omega,by omega,by omega,by omega,?_,fun x hx=>?_⟩
 ·have e1:w=((w.toNat:Nat):Int):=by omega
  have e2:h=((h.toNat:Nat):Int):=by omega
  rw[e1,e2,← Int.natCast_mul] at q4
  exact Int.ofNat.inj q4
 ·have:=List.any_eq_false.1 h2 x hx
  simp only[gB,Bool.or_eq_true,decide_eq_true_eq,not_or] at this
  omega
def RstOk(w h:Nat)(px:List Int):Prop:=1≤w∧w≤64∧1≤h∧h≤64∧px.length=w*h∧Bd 65535 px
def chkB2(w h mx:Int)(px:List Int):Bool:=(((((decide (w<1)||decide (64<w))||decide (h<1))||decide (64<h))||decide (mx<1))||decide (65535<mx))||(((px.length:Nat):Int) != (w*h))
theorem chkB2_eq(w h mx:Int)(px:List Int):chkB2 w h mx px=chkB w h mx px:=by
 unfold chkB2 chkB
 rw[Bool.eq_iff_iff]
 simp only[Bool.or_eq_true,decide_eq_true_eq,bne_iff_ne]
 constructor<;>intro hq<;>omega
theorem py_any_at{f:Int→Bool}{l:List Int}{k:Nat}(h:k<l.length)(hf:f (l.getD k 0)=true):l.any f=true:=by
 rw[List.getD_eq_getElem?_getD,List.getElem?_eq_getElem h] at hf
 exact List.any_eq_true.2 ⟨l[k],List.getElem_mem h,hf⟩
theorem py_any_step{f:Int→Bool}{l:List Int}{k:Nat}(hv:(l.take k).any f=false)(h:k<l.length)(hf:f (l.getD k 0)=false):(l.take (k+1)).any f=false:=by
 rw[take_one h,List.any_append,hv,List.any_cons,hf];rfl
theorem py_any_end{f:Int→Bool}{l:List Int}{k:Nat}(hv:(l.take k).any f=false)(h:l.length≤k):l.any f=false:=by rw[List.take_of_length_le h] at hv;exact hv
theorem chk_rst{w h mx:Int}{px:List Int}(hc:gG w h mx px=0):∃ a b:Nat,w=a∧h=b∧RstOk a b px∧1≤mx∧mx≤65535∧∀ x∈px,0≤x∧x≤mx:=by
 obtain ⟨a,b,h1,h2,h3,h4,h5,h6,h7,h8,h9,h10⟩:=chk_ok hc
 exact ⟨a,b,h1,h2,⟨h3,h4,h5,h6,h9,fun x hx=>by have:=h10 x hx;omega⟩,h7,h8,h10⟩
abbrev vi (z:Int):SV:=.d (.val (.int .i64 z))
abbrev jL (n:Nat):SV:=.d (.val (.int .i64 (n:Int)))
abbrev zG (n:Nat):SV:=.d (.val (.int .u64 (n:Int)))
abbrev cV (n:Nat):SV:=.d (.val (.int .u32 (n:Int)))
abbrev vyn (n:Nat):SV:=.d (.val (.int .u8 (n:Int)))
abbrev vb (b:Bool):SV:=.d (.val (.bool b))
abbrev vl {α:Type} (E z:Nat) (F:α→jQ) (L:List α):SV:=.d (.sl E z (L.map F))
abbrev bm {α:Type} (F:α→jQ) (L:List α):List SV:=L.map (fun g=>SV.d (F g))
section
variable {P:Program} {n:Fr} {ops:Array Oper} {S S':SL} {B B':BS} {l:List Oper} {o:Oper} {news:List Nat} {acc0:List (List Nat × List Nat)}
end
theorem fillL_all{s:Nat}:∀ (ds:List jQ) (k:Nat) (a z:List jQ),a.length=k*s→z.length=ds.length*s→(∀ d∈ds,d.cells.length=s) →
  dD (fun i=>some (i*s,s)) (a++z) ((ds.zipIdx k).map fun p=>(p.2,p.1.cells))=some (a++qA ds)
 |[],k,a,z,ha,hz,_=>by
  have:z=[]:=List.eq_nil_of_length_eq_zero (by simpa using hz)
  subst this;simp [dD,qA]
 |d::ds,k,a,z,ha,hz,hs=>by
  have hd:=hs d (by simp)
  have hz':z.length=s+ds.length*s:=by rw[hz,List.length_cons,Nat.add_mul];omega
  rw[List.zipIdx_cons,List.map_cons]
  simp only[dD]
  have h1:(Nat.beq d.cells.length s&&Nat.ble (k*s+d.cells.length) (a++z).length)=true:=by
   rw[Bool.and_eq_true]
   refine ⟨by rw[hd];exact Nat.beq_refl s,Nat.ble_eq_true_of_le ?_⟩
   rw[List.length_append,ha,hd];omega
  rw[h1,cond_true]
  have h2:patch (a++z) (k*s) d.cells=(a++d.cells)++z.drop s:=by
   unfold patch
   rw[← ha,List.take_left,hd]
   congr 1
   rw[List.drop_append,List.drop_of_length_le (by omega),List.nil_append]
   congr 1;omega
  rw[h2,fillL_all ds (k+1) (a++d.cells) (z.drop s) (by rw[List.length_append,ha,hd,Nat.add_mul];omega) (by rw[List.length_drop];omega) (fun x hx=>hs x (by simp [hx])),gN,List.append_assoc]
theorem e_bldF{P:Program}{o:Oper}{S:Nat→SV}{T E:TypeId}{n s:Nat}{ps:List (Nat × Operand)}{ds:List jQ}{zv:List Value}{zd:List jQ}{y:jQ}(ho:o.op=.build T ps.toArray)(hT:dM P T=some (n,E,s))(hz:uL P T=some zv)(hzd:gD zv zd)
  (hps:ps.map (fun p=>(p.1,ev S p.2))=ds.zipIdx.map (fun p=>(p.2,.d p.1))) (hok:ds.all (fun d=>d.ok1)=true) (hs:ds.all (fun d=>Nat.beq d.cells.length s)=true) (hl:Nat.beq zd.length (ds.length*s)=true) (hy:jQ.agg (qA ds)=y):qX P o S [] (.d y):=by
 subst hy
 refine e_build_arr (pd:=ds.zipIdx.map fun p=>(p.2,p.1)) ho hT hz hzd (by rw[hps,List.map_map];rfl) ?_ ?_
 ·rw[List.all_eq_true] at hok ⊢
  intro p hp
  obtain ⟨q,hq,rfl⟩:=List.mem_map.1 hp
  exact hok _ (List.fst_mem_of_mem_zipIdx hq)
 ·have:=fillL_all ds 0 [] zd (by simp) (Nat.eq_of_beq_eq_true hl) (fun d hd=>Nat.eq_of_beq_eq_true (List.all_eq_true.1 hs d hd))
  rw[List.map_map]
  rw[List.nil_append,List.nil_append] at this
  exact this
theorem nC{α:Type}{s:Nat}(F:α→jQ)(L:List α)(hF:∀ g,(F g).cells.length=s):∀ e∈L.map F,e.cells.length=s:=by
 intro e he
 obtain ⟨g,_,rfl⟩:=List.mem_map.1 he
 exact hF g
theorem dX{α:Type}{s:Nat}(F:α→jQ)(L:List α)(hF:∀ g,(F g).cells.length=s){m:Nat}(h:L.length=m):(mV F L).take (m*s)=(qA (L.map F)).map .d:=by
 refine List.take_of_length_le ?_
 rw[List.length_map,dJ F hF,h]
 exact Nat.le_refl _
def dA(P:Program)(n:Fr)(c:Code)(Q:Exit→PS→Prop):Nat→PS→Prop
 |0,_=>False
 |m+1,st=>qS P n c (PThen (dA P n c Q m) Q) st
theorem uD{P:Program}{n:Fr}{c:Code}{Q:Exit→PS→Prop}{st:PS}(m:Nat)(h:dA P n c Q m st):qS P n (.loop c) Q st:=fun C a w N hn hs=>by
 refine wpIn_loop_rounds m ?_
 have key:∀ m st a w,nR C a w st→dA P n c Q m st→Code.roundsIn (fen n) N P c (fun e a' w'=>∃ st',nR C a' w' st'∧Q e st') m a w:=by
  intro m
  induction m with
  |zero=>intro st a w _ h;exact h.elim
  |succ m ih=>
   intro st a w hs h
   refine wpIn_mono (h C a w N hn hs) fun e a' w' ⟨s,h1,h2⟩=>?_
   cases e with
   |normal=>exact ih s a' w' h1 h2
   |_=>exact ⟨s,h1,h2⟩
 exact key m st a w hs h
theorem uU{P:Program}{n:Fr}{c:Code}{Q:Exit→PS→Prop}{st:PS}{m:Nat}(h:qS P n c (PThen (dA P n c Q m) Q) st):dA P n c Q (m+1) st:=h
theorem kA{P:Program}{n:Fr}{c:Code}{Q:Exit→PS→Prop}{s st:PS}{m:Nat}(hw:kB s st)(h:qS P n c (PThen (dA P n c Q m) Q) st):PThen (dA P n c Q (m+1)) Q .normal s :=
 show qS P n c (PThen (dA P n c Q m) Q) s from fun C a w N hn hs=>h C a w N hn (hw C a w hs)
section
variable {P:Program} {o:Oper} {S:Nat→SV}
theorem run_sliceArr{T E:TypeId}{n s:Nat}(hT:dM P T=some (n,E,s))(hn:0<n)(w:World)(b q:Nat):(Instr.sliceAt T (.pointer (some ⟨b,q,none⟩)) none none none).run P w=.ok (.slice (some ⟨b,q,none⟩) n n) w:=by
 obtain ⟨j,e1,e2,e3⟩:=arr_of hT
 have hne:¬ n=0:=by omega
 simp [Instr.sliceAt,run_underlying e1,Instr.sliceBounds,vE e2,Instr.sureAddr,Addr.add_lit,hne]
theorem e_slv{T E:TypeId}{x:Operand}{k q n s:Nat}(ho:o.op=.slice T x none none none)(hT:dM P T=some (n,E,s))(hx:ev S x=.ref k q)(hn:Nat.blt 0 n=true)(hm:Nat.ble n maxLen=true):qX P o S [] (.view k q n) :=
 qX.same fun a w D β hop _=>by
  have hp:=hop x (by simp [ho,Op.operands])
  rw[hx] at hp
  obtain ⟨b,h1,h2⟩:=hp
  have hn':0<n:=Nat.le_of_ble_eq_true hn
  refine ⟨.slice (some ⟨b,q,none⟩) n n,?_,b,n,h1,rfl,Nat.le_refl _,Nat.le_of_ble_eq_true hm⟩
  simp [execOp,ho,h2,run_sliceArr hT hn']
theorem e_nckr{x:Operand}{k q:Nat}(ho:o.op=.nilCheck x)(hx:ev S x=.ref k q):qX P o S [] (.ref k q) :=
 qX.same fun a' w D β hop _=>by
  have hp:=hop x (by simp [ho,Op.operands])
  rw[hx] at hp
  obtain ⟨b,h1,h2⟩:=hp
  exact ⟨.pointer (some ⟨b,q,none⟩),by simp [execOp,ho,h2],b,h1,rfl⟩
theorem e_ixa{T E:TypeId}{x ix:Operand}{n s sz:Nat}{agg:Bool}{k:IntKind}{i:Int}{j:Nat}{cs:List jQ}{y:SV}(ho:o.op=.index T x ix)(hx:ev S x=.d (.agg cs))(hT:dM P T=some (n,E,s))(hs:kZ P E=some (agg,sz))(h1:agg=false→sz=1)
  (hi:ev S ix=.d (.val (.int k i))) (hj:i=(j:Int)) (hn:Nat.blt j n=true) (hle:Nat.ble (j*s+sz) cs.length=true) (hy:yC agg (((cs.drop (j*s)).take sz).map .d)=y):qX P o S [] y:=by
 subst hj
 have hn':j<n:=Nat.le_of_ble_eq_true hn
 have h:=e_index_arr (P:=P) (i:=(j:Int)) (k:=k) ho hx hT hs h1 hi (by omega) (by omega) (by simpa using Nat.le_of_ble_eq_true hle)
 rw[show ((j:Int)).toNat=j from rfl] at h
 exact hy▸h
inductive zP (E:TypeId):jQ→Prop
 |val (v:Value):zP E (.val v)
 |sl {t:TypeId} {s:Nat} {es:List jQ} (h:t≠E) (hs:∀ (i:Nat) d,(qA es)[i]?=some d→zP E d):zP E (.sl t s es)
 |agg {cs:List jQ} (hs:∀ (i:Nat) d,cs[i]?=some d→zP E d):zP E (.agg cs)
 |tup {cs:List jQ} (hs:∀ (i:Nat) d,cs[i]?=some d→zP E d):zP E (.tup cs)
 |cptr {t:TypeId} {cs:List jQ} {off:Nat} (h:t≠E) (hs:∀ (i:Nat) d,cs[i]?=some d→zP E d):zP E (.cptr t cs off)
 |clo {f:FuncId} {caps:List jQ} (hs:∀ (i:Nat) d,caps[i]?=some d→zP E d):zP E (.clo f caps)
theorem avo_nil{E:TypeId}:∀ (i:Nat) d,([]:List jQ)[i]?=some d→zP E d:=fun i d h=>by simp at h
theorem gW{E:TypeId}{x:jQ}{l:List jQ}(h:zP E x)(hl:∀ (i:Nat) d,l[i]?=some d→zP E d):∀ (i:Nat) d,(x::l)[i]?=some d→zP E d:=fun i d hd=>by
 rcases i with _ | i
 ·simp at hd;subst hd;exact h
 ·exact hl i d (by simpa using hd)
theorem avo_vals{α:Type}{E t:TypeId}{s:Nat}{F:α→Value}(h:t≠E)(l:List α):zP E (.sl t s (l.map fun x=>jQ.val (F x))) :=
 .sl h (fun i d hd=>by
  have:d∈qA (l.map fun x=>jQ.val (F x)):=List.mem_of_getElem? hd
  simp only[qA,List.mem_flatMap,List.mem_map] at this
  obtain ⟨x,⟨y,_,rfl⟩,hx⟩:=this
  simp only[jQ.cells,List.mem_singleton] at hx
  subst hx;exact .val _)
theorem zP.rep{E:TypeId}{w:World}{D D':qE}(hk:∀ t g o,t≠E→D t g o→D' t g o){v:Value}{r:jQ}(ha:zP E r)(h:uT w D v r):uT w D' v r:=by
 induction h with
 |val v=>exact .val v
 |sl g off u hn hc hm hs hao hD hu h1 hr ih=>
  cases ha with
  |sl hne has=>exact .sl g off u hn hc hm hs hao (fun i hi=>hk _ _ _ hne (hD i hi)) hu h1 (fun i d hd=>ih i d hd (has i d hd))
 |agg vs hl h1 hr ih=>
  cases ha with
  |agg has=>exact .agg vs hl h1 (fun i v d hv hd=>ih i v d hv hd (has i d hd))
 |tup vs hl hr ih=>
  cases ha with
  |tup has=>exact .tup vs hl (fun i v d hv hd=>ih i v d hv hd (has i d hd))
 |cptr g o u hD hu h1 hr ih=>
  cases ha with
  |cptr hne has=>exact .cptr g o u (fun i hi=>hk _ _ _ hne (hD i hi)) hu h1 (fun i d hd=>ih i d hd (has i d hd))
 |clo vs hl hr ih=>
  cases ha with
  |clo has=>exact .clo vs hl (fun i v d hv hd=>ih i v d hv hd (has i d hd))
inductive nJ (k:Nat) (E:TypeId) (s q m:Nat) (es:List jQ):List SV→List jQ→Prop
 |nil:nJ k E s q m es [] []
 |d {x:jQ} {zs:List SV} {ds:List jQ} (h:nJ k E s q m es zs ds):nJ k E s q m es (.d x::zs) (x::ds)
 |v {zs:List SV} {ds:List jQ} (h:nJ k E s q m es zs ds):nJ k E s q m es (.view k q m::zs) (.sl E s es::ds)
theorem nJ.len{k E s q m:Nat}{es:List jQ}{zs:List SV}{ds:List jQ}(h:nJ k E s q m es zs ds):zs.length=ds.length:=by
 induction h with
 |nil=>rfl
 |d h ih=>simp [ih]
 |v h ih=>simp [ih]
theorem nJ.rep{k E s q m:Nat}{es:List jQ}{w:World}{D D':qE}{β:qD}(h1:∀ v x,uT w D v x→uT w D' v x)(h2:∀ v,qG w D β v (.view k q m)→uT w D' v (.sl E s es)){zs:List SV}{ds:List jQ}(h:nJ k E s q m es zs ds) :
  ∀ {vs:List Value},vs.length=zs.length→(∀ (i:Nat) v x,vs[i]?=some v→zs[i]?=some x→qG w D β v x)→∀ (i:Nat) v d,vs[i]?=some v→ds[i]?=some d→uT w D' v d:=by
 induction h with
 |nil=>intro vs _ _ i v d _ hd;simp at hd
 |d h ih=>
  intro vs hl hr i v d' hv hd
  rcases vs with _ | ⟨v0,vs⟩
  ·simp at hl
  ·rcases i with _ | i
   ·simp at hv hd;subst hv;subst hd;exact h1 _ _ (hr 0 _ _ rfl rfl)
   ·exact ih (by simpa using hl) (fun i v x h3 h4=>hr (i+1) v x (by simpa using h3) (by simpa using h4)) i v d' (by simpa using hv) (by simpa using hd)
 |v h ih=>
  intro vs hl hr i v d' hv hd
  rcases vs with _ | ⟨v0,vs⟩
  ·simp at hl
  ·rcases i with _ | i
   ·simp at hv hd;subst hv;subst hd;exact h2 _ (hr 0 _ _ rfl rfl)
   ·exact ih (by simpa using hl) (fun i v x h3 h4=>hr (i+1) v x (by simpa using h3) (by simpa using h4)) i v d' (by simpa using hv) (by simpa using hd)
end
end Go.Fid
