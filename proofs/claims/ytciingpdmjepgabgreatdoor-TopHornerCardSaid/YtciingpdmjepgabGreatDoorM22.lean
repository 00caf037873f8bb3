/- Part 22 of a proof: rules, plain facts, and functions walked. -/
import Derived.Test.YtciingpdmjepgabGreatDoorM21
import Derived.MapKept
set_option linter.all false
namespace Go.Fid
open Go.RowKit (Below)
abbrev bM:=Nat × List SV × List jT
inductive VArgs (bl:List bM):List Nat->List (List jT)->Prop
 |nil:VArgs bl [] []
 |cons {k:Nat} {c:List SV} {cs:List jT} {ks:List Nat} {css:List (List jT)} (hk:(k,c,cs)∈bl) (h:VArgs bl ks css):VArgs bl (k::ks) (cs::css)
theorem VArgs.len{bl:List bM}{ks:List Nat}{css:List (List jT)}(h:VArgs bl ks css):ks.length=css.length:=by
 induction h with
 |nil=>rfl
 |cons hk h ih=>simp [ih]
theorem VArgs.get{bl:List bM}{ks:List Nat}{css:List (List jT)}(h:VArgs bl ks css):∀ (i:Nat) k cs,ks[i]?=some k->css[i]?=some cs->∃ c,(k,c,cs)∈bl:=by
 induction h with
 |nil=>intro i k cs h;simp at h
 |cons hk h ih=>
  intro i k cs h1 h2
  rcases i with _ | i
  ·simp at h1 h2;subst h1;subst h2;exact ⟨_,hk⟩
  ·exact ih i k cs (by simpa using h1) (by simpa using h2)
inductive See (bl:List bM) (E:TypeId):SV->jT->Prop
 |d {x:jT}:See bl E (.d x) x
 |r {k o:Nat} {c:List SV} {cs:List jT} (hk:(k,c,cs)∈bl):See bl E (.ref k o) (.cptr E cs o)
 |s {k n s:Nat} {t:TypeId} {c:List SV} {cs es:List jT} (hk:(k,c,cs)∈bl) (hes:∀ e∈es,e.cells.length=s) (hl:es.length=n) (hc:cs.take (n*s)=kR es):See bl E (.own k t s n) (.sl E s es)
 |x {k o b:Nat} {c:List SV} {cs:List jT} (hk:(k,c,cs)∈bl):See bl E (.refx k o b) (.cptr E cs o)
 |f {g:FuncId} {ks:List Nat} {css:List (List jT)} (hk:VArgs bl ks css):See bl E (.clo g ks) (.clo g (css.map fun cs=>.cptr E cs 0))
inductive Sees (bl:List bM) (E:TypeId):List SV->List jT->Prop
 |nil:Sees bl E [] []
 |cons {x:SV} {d:jT} {c:List SV} {cs:List jT} (h:See bl E x d) (hr:Sees bl E c cs):Sees bl E (x::c) (d::cs)
 |all {c:List SV} {cs:List jT} (h:c=cs.map SV.d):Sees bl E c cs
theorem Sees.len{bl:List bM}{E:TypeId}{c:List SV}{cs:List jT}(h:Sees bl E c cs):c.length=cs.length:=by
 induction h with
 |nil=>rfl
 |cons h hr ih=>simp [ih]
 |all h=>subst h;simp
theorem Sees.get{bl:List bM}{E:TypeId}{c:List SV}{cs:List jT}(h:Sees bl E c cs):∀ (i:Nat) x d,c[i]?=some x->cs[i]?=some d->See bl E x d:=by
 induction h with
 |nil=>intro i x d h;simp at h
 |cons h hr ih=>
  intro i x d h1 h2
  rcases i with _ | i
  ·simp at h1 h2;subst h1;subst h2;exact h
  ·exact ih i x d (by simpa using h1) (by simpa using h2)
 |all h=>
  intro i x d h1 h2
  subst h
  rw[List.getElem?_map,h2] at h1
  simp at h1;subst h1;exact .d
theorem vF{α:Type}{bl:List bM}{E k s n:Nat}{t:TypeId}{c:List SV}{F:α->jT}{L:List α}(hk:(k,c,kR (L.map F))∈bl)(hF:∀ x,(F x).cells.length=s)(hl:L.length=n):See bl E (.own k t s n) (.sl E s (L.map F)) :=
 .s hk (map_celllen F hF L) (by simpa using hl) (by
  refine List.take_of_length_le ?_
  rw[nR F hF,hl]
  exact Nat.le_refl _)
theorem eY{α:Type}{bl:List bM}{E:TypeId}{F:α->jT}{L:List α}(hF:∀ x,(F x).cells=[F x]):Sees bl E (L.map fun g=>SV.d (F g)) (kR (L.map F)):=by
 refine .all ?_
 induction L with
 |nil=>rfl
 |cons x L ih=>simp only[List.map_cons,nZ,hF,List.singleton_append,ih]
inductive VBlks (E:TypeId):List bM->Prop
 |nil:VBlks E []
 |cons {k:Nat} {c:List SV} {cs:List jT} {bl:List bM} (h:Sees bl E c cs) (hr:VBlks E bl):VBlks E ((k,c,cs)::bl)
theorem Sees.cells{bl:List bM}{E:TypeId}{c:List SV}{cs:List jT}(h:Sees bl E c cs):yQ c=false:=by
 have hl:=h.len
 rcases c with _ | ⟨x,_ | ⟨y,l⟩⟩
 ·rfl
 ·match cs,hl with
  |[d],_=>
   refine mapCs_at (i:=0) rfl ?_
   cases h.get 0 x d rfl rfl<;>rfl
 ·cases x<;>rfl
theorem VBlks.cells{E:TypeId}{bl:List bM}(h:VBlks E bl):∀ p∈bl,yQ p.2.1=false:=by
 induction h with
 |nil=>intro p hp;cases hp
 |cons h hr ih=>
  intro p hp
  rcases List.mem_cons.1 hp with rfl | hp
  ·exact h.cells
  ·exact ih p hp
def SeenB(w:World)(D':kV)(β:kY)(E:TypeId)(p:bM):Prop :=
 (β p.1=none->p.2.2=[])/\∀ b,β p.1=some b->(∀ i,D' E b i)/\∃ us T',w.heap[b]?=some (.cells us T' (0,0))/\∀ (j:Nat) d,p.2.2[j]?=some d->∃ u,us[j]?=some u/\u.oneCell'=true/\uN w D' u d
section
variable {w:World} {D D':kV} {β:kY} {bl:List bM} {E:TypeId}
theorem seen_ptr{k o:Nat}{c:List SV}{cs:List jT}{v:Value}(hb:SeenB w D' β E (k,c,cs))(hv:qC w D β v (.ref k o)):uN w D' v (.cptr E cs o):=by
 obtain ⟨b,h1,h2⟩:=hv
 obtain ⟨hD,us,T',g2,g4⟩:=hb.2 b h1
 rw[h2]
 have hcell:∀ i,w.cell? ⟨b,i,none⟩=us[i]?:=fun i=>cell_of_row w b i us T' (0,0) g2
 have hp:=uN.cptr (w:=w) (D:=D') (t:=E) (cs:=cs) (off:=o) b 0 (fun i=>us.getD i undef) (fun i hi=>hD _) (fun i hi=>by
  obtain ⟨x,q1,q2,q3⟩:=g4 i _ (List.getElem?_eq_getElem hi)
  rw[Nat.zero_add,hcell,Array.getD_eq_getD_getElem?,q1];rfl) (fun i hi=>by
  obtain ⟨x,q1,q2,q3⟩:=g4 i _ (List.getElem?_eq_getElem hi)
  rw[Array.getD_eq_getD_getElem?,q1];exact q2) (fun i d hd=>by
  obtain ⟨x,q1,q2,q3⟩:=g4 i d hd
  rw[Array.getD_eq_getD_getElem?,q1]
  exact q3)
 rw[Nat.zero_add] at hp
 exact hp
theorem see_rep(hm:∀ t g i,D t g i->D' t g i)(hB:∀ p∈bl,SeenB w D' β E p){x:SV}{d:jT}(h:See bl E x d){v:Value}(hv:qC w D β v x):uN w D' v d:=by
 cases h with
 |d=>exact uN.mono (fun t g i hd=>⟨hm _ _ _ hd,rfl⟩) hv
 |r hk=>exact seen_ptr (hB _ hk) hv
 |x hk=>exact seen_ptr (D:=D) (hB _ hk) ⟨_,hv.1,hv.2⟩
 |s hk hes hl hc=>
  rename_i k n s t c cs es
  rcases hv with ⟨h1,h2,h3⟩ | ⟨b,cap,vs,h1,h2,h3,h4,h5,h6⟩
  ·have hn:es=[]:=List.eq_nil_of_length_eq_zero (by rw[hl,h2])
   subst hn
   rw[h3];exact eX w D' E s
  ·obtain ⟨hD,us,T',g2,g4⟩:=(hB _ hk).2 b h1
   rw[h2]
   have hfl:=uQ hes
   have hcell:∀ i,w.cell? ⟨b,i,none⟩=us[i]?:=fun i=>cell_of_row w b i us T' (0,0) g2
   have key:∀ (i:Nat) d,(kR es)[i]?=some d->∃ u,us[0+i]?=some u/\u.oneCell'=true/\uN w D' u d:=fun i d hd=>by
    have hi:i<n*s:=by
     have:=(List.getElem?_eq_some_iff.1 hd).1
     rw[hfl,hl] at this;exact this
    have e1:cs[i]?=some d:=by
     rw[<- hc,List.getElem?_take_of_lt hi] at hd
     exact hd
    rw[Nat.zero_add]
    exact g4 _ d e1
   refine uN.sl b 0 (fun i=>us.getD (0+i) undef) hl.symm h5 h6 hes (fun _=>rfl) (fun i hi=>hD _) (fun i hi=>?_) (fun i hi=>?_) (fun i d hd=>?_)
   ·obtain ⟨x,q1,q2,q3⟩:=key i _ (List.getElem?_eq_getElem hi)
    rw[hcell,Array.getD_eq_getD_getElem?,q1];rfl
   ·obtain ⟨x,q1,q2,q3⟩:=key i _ (List.getElem?_eq_getElem hi)
    rw[Array.getD_eq_getD_getElem?,q1];exact q2
   ·obtain ⟨x,q1,q2,q3⟩:=key i d hd
    rw[Array.getD_eq_getD_getElem?,q1]
    exact q3
 |f hk=>
  obtain ⟨us,e1,e2,e3⟩:=hv
  rw[e1]
  refine .clo us (by rw[e2,hk.len,List.length_map]) fun j u d hu hd=>?_
  rw[List.getElem?_map,Option.map_eq_some_iff] at hd
  obtain ⟨cs,hcs,rfl⟩:=hd
  have hlt:j<_:=(List.getElem?_eq_some_iff.1 hcs).1
  rw[<- hk.len] at hlt
  obtain ⟨b,g1,g2⟩:=e3 j _ (List.getElem?_eq_getElem hlt)
  rw[hu] at g2
  injection g2 with g2
  obtain ⟨c,hc⟩:=hk.get j _ cs (List.getElem?_eq_getElem hlt) hcs
  exact seen_ptr (D:=D) (o:=0) (hB _ hc) ⟨b,g1,g2⟩
theorem blks_seen(hm:∀ t g i,D t g i->D' t g i)(hX:∀ p∈bl,∀ b,β p.1=some b->∀ i,D' E b i)(hbl:∀ p∈bl,uA w D β p.1 p.2.1)(h:VBlks E bl):∀ p∈bl,SeenB w D' β E p:=by
 induction h with
 |nil=>intro p hp;simp at hp
 |@cons k c cs bl h hr ih=>
  have ih':=ih (fun p hp=>hX p (.tail _ hp)) (fun p hp=>hbl p (.tail _ hp))
  intro p hp
  rcases List.mem_cons.1 hp with rfl | hp
  ·rcases hbl (k,c,cs) (.head _) with g0 | ⟨b,us,T',g1,g2,g3,g4,g5⟩
   ·obtain ⟨g1,g2⟩:=g0.cells h.cells
    refine ⟨fun _=>?_,fun b hb=>?_⟩
    ·have:=h.len
     have g2:c=[]:=g2
     rw[g2] at this
     exact List.eq_nil_of_length_eq_zero this.symm
    ·rw[show β k=none from g1] at hb;cases hb
   ·refine ⟨fun hn=>absurd hn (by rw[show β k=some b from g1];simp),fun b' hb=>?_⟩
    obtain rfl:b=b':=by rw[show β k=some b from g1] at hb;injection hb
    refine ⟨hX _ (.head _) _ hb,us,T',g2,fun j d hd=>?_⟩
    have hlt:j<c.length:=by rw[h.len];exact (List.getElem?_eq_some_iff.1 hd).1
    obtain ⟨u,e1,e2,e3⟩:=g4 j _ (List.getElem?_eq_getElem hlt)
    exact ⟨u,e1,e2,see_rep hm ih' (h.get j _ d (List.getElem?_eq_getElem hlt) hd) e3⟩
  ·exact ih' p hp
end
section
variable {P:Program} {o:Oper} {S:Nat->SV}
theorem fnv_run{w:World}{D:kV}{β:kY}{a:Act}{y:Operand}{args:List Operand}{ats:Array TypeId}{ex:List SV}{f:FuncId}(hop:∀ q∈o.op.operands,qC w D β (a.eval q) (ev S q))(ho:o.op=.call { callee:=.value y,args:=args.toArray,argTypes:=ats })
  (hm:callB P f=true) (hy:FnV S y f ex):∃ us:List Value,(execOp a.eval o).run P w=.ok (.enter f (args.map a.eval++us).toArray) w/\us.length=ex.length/\∀ (i:Nat) v x,us[i]?=some v->ex[i]?=some x->qC w D β v x:=by
 have hyv:=hop y (by simp [ho,Op.operands,Call.operands])
 cases hy with
 |fn h=>
  rw[h] at hyv
  have hv:=uO hyv
  refine ⟨[],?_,rfl,fun i v x h=>by simp at h⟩
  simp only[execOp,ho,resolve,Deferred.ofValue,hv,Sem.run_bind,Sem.run_pure,Result.andThen_ok,invoke,Array.empty_append,Array.append_empty]
  rw[uY hm]
  simp
 |@clo kk _ h he=>
  rw[h] at hyv
  obtain ⟨vs,hv1,hv2,hv3⟩:=hyv
  refine ⟨vs,?_,by rw[<- he];simpa using hv2,fun i v x hvi hxi=>?_⟩
  ·simp only[execOp,ho,resolve,Deferred.ofValue,hv1,Sem.run_bind,Sem.run_pure,Result.andThen_ok,invoke,Array.empty_append]
   rw[uY hm]
   simp
  ·rw[<- he,List.getElem?_map,Option.map_eq_some_iff] at hxi
   obtain ⟨k,hk,rfl⟩:=hxi
   obtain ⟨b,g1,g2⟩:=hv3 i k hk
   rw[hvi] at g2
   injection g2 with g2
   exact ⟨b,g1,g2⟩
 |@dat aD _ h he=>
  rw[h] at hyv
  generalize hq:a.eval y=q at hyv
  cases hyv with
  |clo vs hl hr=>
   refine ⟨vs,?_,by rw[<- he];simpa using hl,fun i v x hvi hxi=>?_⟩
   ·simp only[execOp,ho,resolve,Deferred.ofValue,hq,Sem.run_bind,Sem.run_pure,Result.andThen_ok,invoke,Array.empty_append]
    rw[uY hm]
    simp
   ·rw[<- he,List.getElem?_map,Option.map_eq_some_iff] at hxi
    obtain ⟨k,hk,rfl⟩:=hxi
    exact hr i v k hvi hk
theorem e_clh{y:Operand}{xs:List Operand}{ats:Array TypeId}{f:FuncId}{ds:List jT}{r:jT}{zs ex:List SV}{E:TypeId}{bl:List bM}(hf:jW P f ds r)(ho:o.op=.call { callee:=.value y,args:=xs.toArray,argTypes:=ats })(hy:FnV S y f ex)
  (hx:xs.map (ev S)++ex=zs) (hz:Sees bl E zs ds) (hb:VBlks E bl) (ha:xM E r):uC P o S (bl.map fun p=>(p.1,p.2.1)) (.d r) :=
 fun a w D β Q hop hrd hD=>by
  have hVB:=hb
  obtain ⟨us,hrun,hul,hur⟩:=fnv_run hop ho hf.may hy
  have qL:(xs.map a.eval++us).length=zs.length:=by
   rw[<- hx];simp [hul]
  have hrep:∀ (i:Nat) v x,(xs.map a.eval++us)[i]?=some v->zs[i]?=some x->qC w D β v x:=fun i v x hv hz'=>by
   rw[<- hx] at hz'
   by_cases hlt:i<xs.length
   ·rw[List.getElem?_append_left (by simpa using hlt)] at hv hz'
    rw[List.getElem?_map,Option.map_eq_some_iff] at hv
    obtain ⟨p,hqi,rfl⟩:=hv
    have hm:=hop p (by simp [ho,Op.operands,Call.operands,List.mem_of_getElem? hqi])
    rw[List.getElem?_map,hqi,Option.map_some,Option.some.injEq] at hz'
    rw[<- hz'];exact hm
   ·rw[List.getElem?_append_right (by simpa using hlt)] at hv hz'
    simp only[List.length_map] at hv hz'
    exact hur _ v _ hv hz'
  have hbl:∀ p∈bl,uA w D β p.1 p.2.1:=fun p hp=>hrd (p.1,p.2.1) (List.mem_map_of_mem (f:=fun p:bM=>(p.1,p.2.1)) hp)
  let X:TypeId->Nat->Nat->Prop:=fun t g _=>t=E/\∃ p∈bl,β p.1=some g
  have hXp:∀ t g i,X t g i->t=E/\∀ t' i',¬ D t' g i':=fun t g i ⟨h1,p,hp,hb⟩=>by
   rcases hbl p hp with g0 | ⟨b',us,T',g1,g2,g3,g4,g5⟩
   ·have g1:=(g0.cells (hVB.cells p hp)).1;rw[hb] at g1;cases g1
   ·obtain rfl:g=b':=by rw[hb] at g1;injection g1
    exact ⟨h1,g5⟩
  have hD':DOk (fun t g i=>D t g i\/X t g i) w:=hD.more (fun _ _ _ hd=>.inl hd) fun t g i hd=>by
   rcases hd with hd | ⟨_,p,hp,hb⟩
   ·exact hD.lt _ _ _ hd
   ·exact (hbl p hp).lt hb
  have hm:∀ t g i,D t g i->(D t g i\/X t g i):=fun t g i hd=>.inl hd
  have hseen:=blks_seen (D':=fun t g i=>D t g i\/X t g i) hm (fun p hp b hb i=>.inr ⟨rfl,p,hp,hb⟩) hbl hb
  have hargs:Args w (fun t g i=>D t g i\/X t g i) (xs.map a.eval++us) ds:=⟨qL.trans hz.len,fun i v d hv hd=>by
   have hlt:i<zs.length:=by rw[hz.len];exact (List.getElem?_eq_some_iff.1 hd).1
   exact see_rep hm hseen (hz.get i _ d (List.getElem?_eq_getElem hlt) hd) (hrep i v _ hv (List.getElem?_eq_getElem hlt))⟩
  refine cW hrun ((hf.run w _ _ hD' hargs).mono fun e w' h=>?_)
  obtain ⟨v,D2,he,h1,h2,h3⟩:=h
  refine ⟨v,he,v,fun t g i=>D2 t g i/\¬ X t g i,rfl,h1,⟨fun t g i hd=>⟨h2.up _ _ _ (.inl hd),fun hx'=>(hXp t g i hx').2 t i hd⟩,fun t g i hd=>?_⟩,?_⟩
  ·rcases h2.new t g i hd.1 with h | h
   ·rcases h with h | h
    ·exact .inl h
    ·exact absurd h hd.2
   ·exact .inr h
  ·exact ha.rep (fun t g i hne hd=>⟨hd,fun hx'=>hne (hXp t g i hx').1⟩) h3
end
theorem oCh{P:Program}{o:Oper}{S:SL}{B:BS}{y:Operand}{xs:List Operand}{ats:Array TypeId}{f:FuncId}{ds:List jT}{r:jT}{ex:List SV}(bl:List bM)(zs:List SV)(hf:jW P f ds r)(hz:Sees bl 1000000 zs ds)(hv:VBlks 1000000 bl)(ha:xM 1000000 r)
  (ho:o.op=.call { callee:=.value y,args:=xs.toArray,argTypes:=ats }:=by exact rfl) (hy:FnV (kA S) y f ex:=by first | exact .fn (by kernel_rfl) | exact .clo (by kernel_rfl) (by kernel_rfl) | exact .dat (by kernel_rfl) (by kernel_rfl)) (hx:xs.map (ev (kA S))++ex=zs:=by kernel_rfl)
  (hb:bl.map (fun p=>jY B p.1)=bl.map (fun p=>some p.2.1):=by kernel_rfl) {ks:List Nat} (hks:bl.map (·.1)=ks:=by exact rfl):RKs P o S B ks (.d r):=by
 refine ⟨bl.map fun p=>(p.1,p.2.1),by rw[List.map_map];exact hks,e_clh hf ho hy hx hz hv ha,fun p hp=>?_⟩
 obtain ⟨q,hq,rfl⟩:=List.mem_map.1 hp
 exact List.map_inj_left.1 hb q hq
section
variable {P:Program} {n:Fr} {ops:Array Oper} {K:SL->BS->Prop} {S:SL} {B:BS} {l:List Oper} {o:Oper} {news:List Nat} {acc0:List (List Nat × List Nat)}
end
theorem pwp_fix{P:Program}{n:Fr}{c:Code}{Q:Exit->PS->Prop}{S:SL}{B:BS}(j:Nat){k o:Nat}(hj:jY B j=some [.ref k o]:=by kernel_rfl)(h:∀ b,dR P n c Q ⟨S,(j,some [.refx k o b])::B⟩):dR P n c Q ⟨S,B⟩:=fun C a w N hn ⟨D,β,hs⟩=>by
 obtain ⟨b,hb⟩:∃ b,β k=some b:=by
  rcases hs.mem.ok _ _ hj with (⟨_,e⟩ | ⟨_,_,_,_,_,e,_⟩) | ⟨_,vs,T,_,_,_,g4,_⟩
  ·cases e
  ·cases e
  ·obtain ⟨u,_,_,b,e3,_⟩:=g4 0 _ rfl
   exact ⟨b,e3⟩
 have conv:∀ {i c},jY ((j,some [SV.refx k o b])::B) i=some c->∃ c',jY B i=some c':=fun {i c} hi=>by
  rw[jI] at hi
  split at hi
  ·rename_i e;subst e;exact ⟨_,hj⟩
  ·exact ⟨_,hi⟩
 refine h b C a w N hn ⟨D,β,hs.base,⟨fun i c hi=>?_,fun i1 i2 c1 c2 q1 q2=>?_⟩,fun i c hi=>?_,hs.slots⟩
 ·rw[jI] at hi
  split at hi
  ·rename_i e;subst e
   injection hi with hi;subst hi
   rcases hs.mem.ok _ _ hj with (⟨_,e⟩ | ⟨_,_,_,_,_,e,_⟩) | ⟨b2,vs,T,g1,g2,g3,g4,g5⟩
   ·cases e
   ·cases e
   ·refine .inr ⟨b2,vs,T,g1,g2,g3,fun q x hx=>?_,g5⟩
    cases q with
    |zero=>
     simp only[List.getElem?_cons_zero,Option.some.injEq] at hx
     subst hx
     obtain ⟨u,e1,e2,b3,e3,e4⟩:=g4 0 _ rfl
     rw[hb] at e3
     injection e3 with e3
     subst e3
     exact ⟨u,e1,e2,hb,e4⟩
    |succ q=>simp at hx
  ·exact hs.mem.ok i c hi
 ·obtain ⟨d1,g1⟩:=conv q1
  obtain ⟨d2,g2⟩:=conv q2
  exact hs.mem.inj i1 i2 d1 d2 g1 g2
 ·obtain ⟨d1,g1⟩:=conv hi
  exact hs.high i d1 g1
theorem oLx{P:Program}{o:Oper}{S:SL}{B:BS}{T:TypeId}{x:Operand}{k j q b:Nat}(hs:qD P T=some (false,1))(ho:o.op=.load T x:=by exact rfl)(hx:ev (kA S) x=.ref k 0:=by exact rfl)(hb:jY B k=some [.refx j q b]:=by exact rfl):ROk P o S B k (.ref j q):=by
 obtain ⟨cs,h,e⟩:=qR (P:=P) (o:=o) (S:=S) (B:=B) (off:=0) (k:=k) (cs:=[.refx j q b]) hs ho hx hb (by rfl)
 exact ⟨cs,h.weaken fun w D β v hv=>⟨b,hv.1,hv.2⟩,e⟩
section
variable {P:Program} {n:Fr} {ops:Array Oper} {K:SL->BS->Prop} {S:SL} {B:BS} {l:List Oper} {o:Oper} {α:Type} {T E t':TypeId} {x y:Operand} {k s m bytes:Nat} {zv:List Value}
variable {news:List Nat} {acc0:List (List Nat × List Nat)}
theorem wAS(k':Nat)(F:α->jT)(L L':List α)(hL:L.length=m)(hT:uB P T=some (E,s))(hz:vP P E=some zv)(hby:vJ P E=some bytes)(r:DK P n ops K (k'::news) (acc0++[([k],[k',k])]) ((dO o,.own k' E s (L++L').length)::S) ((k',some (qP F (L++L')))::(k,none)::B) l)
  (ho:o.op=.call { callee:=.builtin .append,args:=#[x,y],argTypes:=#[T,T] }:=by exact rfl) (g:goK n ops S o=true:=by kernel_rfl) (hx:ev (kA S) x=.own k E s m:=by exact rfl) (hb:jY B k=some (qP F L):=by kernel_rfl) (hy:ev (kA S) y=.d (.sl t' s (L'.map F)):=by exact rfl) (hF:∀ g,(F g).cells.length=s:=by intro g;kernel_rfl) (hzl:zv.length=s:=by kernel_rfl)
  (hpos:Nat.blt 0 L'.length=true:=by kernel_rfl) (hbig:m+L'.length<=maxLen:=by first | (simp only[List.length_cons,List.length_nil,maxLen];omega) | (simp [maxLen];omega)) (hbig':(m+L'.length)*bytes<=140737488355328:=by first | omega | (simp only[List.length_cons,List.length_nil];omega) | (simp;omega))
  (hne:Nat.beq k k'=false:=by kernel_rfl) (h1:(S.all fun p=>!p.2.names k')=true:=by kernel_rfl)
  (h2:FrB k' B:=by repeat first | exact frb_nil _ | refine frb_map rfl ?_ | refine frb_d rfl ?_ | refine frb_cs rfl rfl ?_ | refine frb_none rfl ?_) (hn:clear1 news (.own k' E s 0)=true:=by kernel_rfl):DK P n ops K news acc0 S B (o::l):=by
 obtain ⟨st1,acc,r1,r0,r2⟩:=r
 obtain ⟨hd,hg,hdB⟩:=zI g
 have h:=app_local (P:=P) (o:=o) (S:=kA S) (k:=k) (k':=k') (cs:=qP F L) (es':=L'.map F) ho hT hz hzl hby hx (zD k' id _) (by rw[List.length_map,nR F hF,hL]) hy (by rw[List.length_map];exact Nat.le_of_ble_eq_true hpos) (by simpa using hbig) (by simpa using hbig')
 have e1:qP F L++(kR (L'.map F)).map .d=qP F (L++L'):=by
  show (kR (L.map F)).map SV.d++(kR (L'.map F)).map SV.d=(kR ((L++L').map F)).map SV.d
  rw[List.map_append,eR,List.map_append]
 have e2:m+(L'.map F).length=(L++L').length:=by rw[List.length_map,List.length_append,hL]
 rw[e1,e2] at h
 have hs:=hH.a (P:=P) (n:=n) (ops:=ops) (news:=news) (st:=⟨S,B⟩) (o:=o) h hg (by rw[hd];exact hdB) hb (freshB_of h1 h2) (dL hne) hn (clearL_map _ id _)
 rw[hd] at hs
 exact ⟨st1,([k],[k',k])::acc,.cons hs r1,by simpa using r0,r2⟩
end
section
variable {P:Program} {N:Fr} {c:Code} {Q:Exit->PS->Prop} {S:SL} {B:BS}
end
section
variable {P:Program} {n:Fr} {ops:Array Oper} {K:SL->BS->Prop} {S:SL} {l:List Oper} {o:Oper}
def SV.isD:SV->Bool
 |.d _=>true
 |_=>false
end
section
variable {P:Program} {n:Fr} {ops:Array Oper} {K:SL->BS->Prop} {S S0 S1:SL} {B B0 B1:BS} {l:List Oper} {o:Oper} {news:List Nat} {acc0:List (List Nat × List Nat)}
end
def rn(ks:List Nat):SV->Option SV
 |.ref k o=>(ks[k]?).map fun j=>.ref j o
 |.own k t s n=>(ks[k]?).map fun j=>.own j t s n
 |.clo f l=>(l.mapM fun k=>ks[k]?).map fun l'=>.clo f l'
 |.view k o n=>(ks[k]?).map fun j=>.view j o n
 |.pr k t s n x=>(ks[k]?).map fun j=>.pr j t s n x
 |.refx k o b=>(ks[k]?).map fun j=>.refx j o b
 |.mpx k b=>(ks[k]?).map fun j=>.mpx j b
 |.bnd f k o=>(ks[k]?).map fun j=>.bnd f j o
 |.ownx k t s n u=>(ks[k]?).map fun j=>.ownx j t s n u
 |.mp k=>(ks[k]?).map fun j=>.mp j
 |x=>some x
def rnL(ks:List Nat):List SV->Option (List SV)
 |[]=>some []
 |x::l=>match rn ks x,rnL ks l with
  |some y,some l'=>some (y::l')
  |_,_=>none
inductive RBi (ks:List Nat):BS->BS->Prop
 |nil:RBi ks [] []
 |cons {k j:Nat} {c c2:List SV} {B B2:BS} (hk:ks[k]?=some j) (hc:rnL ks c=some c2) (h:RBi ks B B2):RBi ks ((k,some c)::B) ((j,some c2)::B2)
def ndI:List Nat->Bool
 |[]=>true
 |k::ks=>!(mmB ks k)&&ndI ks
theorem ndI_inj:∀ {ks:List Nat},ndI ks=true->∀ {k q j:Nat},ks[k]?=some j->ks[q]?=some j->k=q
 |[],_,k,q,j,h1,_=>by simp at h1
 |p::ks,h,k,q,j,h1,h2=>by
  simp only[ndI,Bool.and_eq_true,Bool.not_eq_true'] at h
  have hno:∀ i:Nat,ks[i]?≠some p:=fun i e=>by
   have:=mN.2 (List.mem_of_getElem? e);rw[h.1] at this;cases this
  cases k with
  |zero=>
   cases q with
   |zero=>rfl
   |succ q=>simp at h1 h2;subst h1;exact absurd h2 (hno q)
  |succ k=>
   cases q with
   |zero=>simp at h1 h2;subst h2;exact absurd h1 (hno k)
   |succ q=>simp at h1 h2;rw[ndI_inj h.2 h1 h2]
theorem RBi.to{ks:List Nat}(hn:ndI ks=true){B B2:BS}(h:RBi ks B B2):∀ {k:Nat} {c:List SV},jY B k=some c->∃ j c2,ks[k]?=some j/\jY B2 j=some c2/\rnL ks c=some c2:=by
 induction h with
 |nil=>intro k c hk;simp [jY] at hk
 |@cons q j c1 c2 B B2 hk hc h ih=>
  intro k c hg
  rw[jI] at hg
  split at hg
  ·rename_i e;subst e
   injection hg with hg;subst hg
   exact ⟨j,c2,hk,by rw[jI,if_pos rfl],hc⟩
  ·rename_i hne
   obtain ⟨j',d,h1,h2,h3⟩:=ih hg
   exact ⟨j',d,h1,by rw[jI,if_neg (fun e=>by subst e;exact hne (ndI_inj hn hk h1)),h2],h3⟩
theorem RBi.back{ks:List Nat}(hn:ndI ks=true){B B2:BS}(h:RBi ks B B2):∀ {j:Nat} {c2:List SV},jY B2 j=some c2->∃ k c,ks[k]?=some j/\jY B k=some c/\rnL ks c=some c2:=by
 induction h with
 |nil=>intro k c hk;simp [jY] at hk
 |@cons q j c1 c2 B B2 hk hc h ih=>
  intro i d hg
  rw[jI] at hg
  split at hg
  ·rename_i e;subst e
   injection hg with hg;subst hg
   exact ⟨q,c1,hk,by rw[jI,if_pos rfl],hc⟩
  ·rename_i hne
   obtain ⟨k,c,h1,h2,h3⟩:=ih hg
   exact ⟨k,c,h1,by rw[jI,if_neg (fun e=>by subst e;rw[hk] at h1;injection h1 with h1;exact hne h1),h2],h3⟩
theorem RBi.some{ks:List Nat}{B B2:BS}(h:RBi ks B B2):∀ p∈B2,∃ c,p.2=.some c:=by
 induction h with
 |nil=>intro p hp;cases hp
 |cons hk hc h ih=>
  intro p hp
  rcases List.mem_cons.1 hp with e | e
  ·subst e;exact ⟨_,rfl⟩
  ·exact ih p e
inductive FixI (ks:List Nat) (B B':BS):List Nat->Prop
 |nil:FixI ks B B' []
 |cons {k q o b j:Nat} {G:List Nat} (hj:ks[k]?=some j) (h1:jY B q=some [.refx k o b]) (h2:jY B' q=some [.refx k o b]) (h:FixI ks B B' G):FixI ks B B' (j::G)
theorem FixI.at{ks:List Nat}{B B':BS}{G:List Nat}(h:FixI ks B B' G){j:Nat}(hj:j∈G):∃ k q o b,ks[k]?=some j/\jY B q=some [.refx k o b]/\jY B' q=some [.refx k o b]:=by
 induction h with
 |nil=>cases hj
 |cons e h1 h2 h ih=>
  rcases List.mem_cons.1 hj with rfl | hj
  ·exact ⟨_,_,_,_,e,h1,h2⟩
  ·exact ih hj
section
variable {P:Program}
end
inductive FrM (ks mv:List Nat):BS->Prop
 |nil:FrM ks mv []
 |hid {k:Nat} {x:Option (List SV)} {B:BS} (hk:mmB ks k=true) (h:FrM ks mv B):FrM ks mv ((k,x)::B)
 |none {k:Nat} {B:BS} (h:FrM ks mv B):FrM ks mv ((k,.none)::B)
 |dat {k:Nat} {ds:List jT} {B:BS} (h:FrM ks mv B):FrM ks mv ((k,some (ds.map SV.d))::B)
 |map {α:Type} {k:Nat} {G:α->jT} {L:List α} {B:BS} (h:FrM ks mv B):FrM ks mv ((k,some (L.map fun g=>SV.d (G g)))::B)
 |cells {k:Nat} {c:List SV} {B:BS} (hc:(mv.all fun q=>!(kZ q c))=true) (h:FrM ks mv B):FrM ks mv ((k,some c)::B)
theorem namesAny_dat(k:Nat)(ds:List jT):kZ k (ds.map SV.d)=false:=by
 unfold kZ
 rw[List.any_eq_false]
 intro x hx
 obtain ⟨d,_,rfl⟩:=List.mem_map.1 hx
 simp [SV.names]
theorem namesAny_mapd{α:Type}(k:Nat)(G:α->jT)(L:List α):kZ k (L.map fun g=>SV.d (G g))=false:=by
 unfold kZ
 rw[List.any_eq_false]
 intro x hx
 obtain ⟨d,_,rfl⟩:=List.mem_map.1 hx
 simp [SV.names]
theorem FrM.ok{ks mv:List Nat}{B:BS}(h:FrM ks mv B){k:Nat}(hk:k∈mv):∀ p∈B,p.1∈ks\/∀ c,p.2=some c->kZ k c=false:=by
 induction h with
 |nil=>intro p hp;cases hp
 |hid hk' h ih=>
  intro p hp;rcases List.mem_cons.1 hp with e | e
  ·subst e;exact .inl (mN.1 hk')
  ·exact ih p e
 |none h ih=>
  intro p hp;rcases List.mem_cons.1 hp with e | e
  ·subst e;exact .inr fun c hc=>by cases hc
  ·exact ih p e
 |dat h ih=>
  intro p hp;rcases List.mem_cons.1 hp with e | e
  ·subst e;exact .inr fun c hc=>by injection hc with hc;subst hc;exact namesAny_dat _ _
  ·exact ih p e
 |map h ih=>
  intro p hp;rcases List.mem_cons.1 hp with e | e
  ·subst e;exact .inr fun c hc=>by injection hc with hc;subst hc;exact namesAny_mapd _ _ _
  ·exact ih p e
 |cells hc h ih=>
  intro p hp;rcases List.mem_cons.1 hp with e | e
  ·subst e;exact .inr fun c hc'=>by injection hc' with hc';subst hc';simpa using List.all_eq_true.1 hc k hk
  ·exact ih p e
inductive NmM (news mv:List Nat):BS->Prop
 |nil:NmM news mv []
 |dat {k:Nat} {ds:List jT} {B:BS} (h:NmM news mv B):NmM news mv ((k,some (ds.map SV.d))::B)
 |map {α:Type} {k:Nat} {G:α->jT} {L:List α} {B:BS} (h:NmM news mv B):NmM news mv ((k,some (L.map fun g=>SV.d (G g)))::B)
 |cells {k:Nat} {c:List SV} {B:BS} (hc:(news.all fun q=>!(kZ q c)||mmB mv q)=true) (h:NmM news mv B):NmM news mv ((k,some c)::B)
theorem NmM.ok{news mv:List Nat}{B:BS}(h:NmM news mv B):∀ p∈B,∀ c,p.2=some c->∀ k∈news,kZ k c=true->k∈mv:=by
 induction h with
 |nil=>intro p hp;cases hp
 |dat h ih=>
  intro p hp;rcases List.mem_cons.1 hp with e | e
  ·subst e;exact fun c hc k _ hn=>by injection hc with hc;subst hc;rw[namesAny_dat] at hn;cases hn
  ·exact ih p e
 |map h ih=>
  intro p hp;rcases List.mem_cons.1 hp with e | e
  ·subst e;exact fun c hc k _ hn=>by injection hc with hc;subst hc;rw[namesAny_mapd] at hn;cases hn
  ·exact ih p e
 |cells hc h ih=>
  intro p hp;rcases List.mem_cons.1 hp with e | e
  ·subst e;exact fun c hc' k hk hn=>by
                                      injection hc' with hc';subst hc'
                                      have:=List.all_eq_true.1 hc k hk
                                      rw[hn] at this
                                      exact mN.1 this
  ·exact ih p e
section
variable {P:Program} {n:Fr} {ops:Array Oper} {K:SL->BS->Prop} {S:SL} {B:BS} {l:List Oper} {o:Oper} {news:List Nat} {acc0:List (List Nat × List Nat)}
end
section
variable {P:Program} {n:Fr} {ops:Array Oper} {K:SL->BS->Prop} {S:SL} {B:BS} {l:List Oper} {o:Oper}
end
section
variable {P:Program}
end
def ixN:List Nat->Nat->Nat->Option Nat
 |[],_,_=>none
 |k::ks,i,j=>bif Nat.beq k j then some i else ixN ks (i+1) j
def rawS(ks:List Nat):SV->Bool
 |.own k _ _ _=>(ixN ks 0 k).isNone
 |_=>false
def bkc(ks:List Nat)(u:Value):SV->Option SV
 |.d x=>some (.d x)
 |.own k t s n=>match ixN ks 0 k with
  |some i=>some (.own i t s n)
  |none=>some (.d (.val u))
 |.ref k o=>(ixN ks 0 k).map fun i=>.ref i o
 |.refx k o b=>(ixN ks 0 k).map fun i=>.refx i o b
 |.mpx k b=>(ixN ks 0 k).map fun i=>.mpx i b
 |_=>none
def bkL(ks:List Nat)(U:Nat->Value):Nat->List SV->Option (List SV)
 |_,[]=>some []
 |i,y::c=>match bkc ks (U i) y,bkL ks U (i+1) c with
  |some x,some l=>some (x::l)
  |_,_=>none
inductive RBu (ks:List Nat) (U:Nat->Nat->Value):BS->BS->Prop
 |nil:RBu ks U [] []
 |cons {k j:Nat} {c c2:List SV} {B B2:BS} (hk:ks[k]?=some j) (hc:bkL ks (U j) 0 c2=some c) (h:RBu ks U B B2):RBu ks U ((k,some c)::B) ((j,some c2)::B2)
theorem RBu.to{ks:List Nat}{U:Nat->Nat->Value}(hn:ndI ks=true){B B2:BS}(h:RBu ks U B B2):∀ {k:Nat} {c:List SV},jY B k=some c->∃ j c2,ks[k]?=some j/\jY B2 j=some c2/\bkL ks (U j) 0 c2=some c:=by
 induction h with
 |nil=>intro k c hk;simp [jY] at hk
 |@cons q j c1 c2 B B2 hk hc h ih=>
  intro k c hg
  rw[jI] at hg
  split at hg
  ·rename_i e;subst e
   injection hg with hg;subst hg
   exact ⟨j,c2,hk,by rw[jI,if_pos rfl],hc⟩
  ·rename_i hne
   obtain ⟨j',d,h1,h2,h3⟩:=ih hg
   exact ⟨j',d,h1,by rw[jI,if_neg (fun e=>by subst e;exact hne (ndI_inj hn hk h1)),h2],h3⟩
theorem RBu.back{ks:List Nat}{U:Nat->Nat->Value}(hn:ndI ks=true){B B2:BS}(h:RBu ks U B B2):∀ {j:Nat} {c2:List SV},jY B2 j=some c2->∃ k c,ks[k]?=some j/\jY B k=some c/\bkL ks (U j) 0 c2=some c:=by
 induction h with
 |nil=>intro k c hk;simp [jY] at hk
 |@cons q j c1 c2 B B2 hk hc h ih=>
  intro i d hg
  rw[jI] at hg
  split at hg
  ·rename_i e;subst e
   injection hg with hg;subst hg
   exact ⟨q,c1,hk,by rw[jI,if_pos rfl],hc⟩
  ·rename_i hne
   obtain ⟨k,c,h1,h2,h3⟩:=ih hg
   exact ⟨k,c,h1,by rw[jI,if_neg (fun e=>by subst e;rw[hk] at h1;injection h1 with h1;exact hne h1),h2],h3⟩
theorem RBu.some{ks:List Nat}{U:Nat->Nat->Value}{B B2:BS}(h:RBu ks U B B2):∀ p∈B2,∃ c,p.2=.some c:=by
 induction h with
 |nil=>intro p hp;cases hp
 |cons hk hc h ih=>
  intro p hp
  rcases List.mem_cons.1 hp with e | e
  ·subst e;exact ⟨_,rfl⟩
  ·exact ih p e
def unm(ks:List Nat)(c:List SV):List (Option SV):=c.map fun y=>bif rawS ks y then some y else none
inductive OwS (ks:List Nat):BS->BS->Prop
 |nil:OwS ks [] []
 |dat {j:Nat} {ds ds':List jT} {B B':BS} (h:OwS ks B B'):OwS ks ((j,some (ds.map SV.d))::B) ((j,some (ds'.map SV.d))::B')
 |map {α:Type} {j:Nat} {G G':α->jT} {L L':List α} {B B':BS} (h:OwS ks B B'):OwS ks ((j,some (L.map fun g=>SV.d (G g)))::B) ((j,some (L'.map fun g=>SV.d (G' g)))::B')
 |cells {j:Nat} {c c':List SV} {B B':BS} (hc:unm ks c'=unm ks c) (h:OwS ks B B'):OwS ks ((j,some c)::B) ((j,some c')::B')
theorem unm_get{ks:List Nat}{c c':List SV}(h:unm ks c'=unm ks c){i:Nat}{y:SV}(hy:c'[i]?=some y)(hr:rawS ks y=true):c[i]?=some y:=by
 have h1:=congrArg (fun l:List (Option SV)=>l[i]?) h
 simp only[unm,List.getElem?_map,hy,Option.map_some,hr,cond_true] at h1
 cases hc:c[i]? with
 |none=>rw[hc] at h1;cases h1
 |some z=>
  rw[hc] at h1
  simp only[Option.map_some,Option.some.injEq] at h1
  cases hz:rawS ks z with
  |true=>rw[hz] at h1;injection h1 with h1;rw[h1]
  |false=>rw[hz] at h1;cases h1
theorem OwS.at{ks:List Nat}{B B':BS}(h:OwS ks B B'):∀ {j:Nat} {c':List SV},jY B' j=some c'->∃ c,jY B j=some c/\∀ (i:Nat) y,c'[i]?=some y->rawS ks y=true->c[i]?=some y:=by
 have no:∀ (ds:List jT) (i:Nat) (y:SV),(ds.map SV.d)[i]?=some y->rawS ks y=true->False:=fun ds i y hy hr=>by
  rw[List.getElem?_map,Option.map_eq_some_iff] at hy
  obtain ⟨d,_,rfl⟩:=hy
  cases hr
 induction h with
 |nil=>intro j c' hj;simp [jY] at hj
 |@dat q ds ds' B B' h ih=>
  intro j c' hj
  rw[jI] at hj
  split at hj
  ·rename_i e;subst e
   injection hj with hj;subst hj
   exact ⟨_,by rw[jI,if_pos rfl],fun i y hy hr=>(no _ _ _ hy hr).elim⟩
  ·rename_i hne
   obtain ⟨c,h1,h2⟩:=ih hj
   exact ⟨c,by rw[jI,if_neg hne,h1],h2⟩
 |@map α q G G' L L' B B' h ih=>
  intro j c' hj
  rw[jI] at hj
  split at hj
  ·rename_i e;subst e
   injection hj with hj;subst hj
   exact ⟨_,by rw[jI,if_pos rfl],fun i y hy hr=>by
    rw[List.getElem?_map,Option.map_eq_some_iff] at hy
    obtain ⟨d,_,rfl⟩:=hy
    cases hr⟩
  ·rename_i hne
   obtain ⟨c,h1,h2⟩:=ih hj
   exact ⟨c,by rw[jI,if_neg hne,h1],h2⟩
 |@cells q c c' B B' hc h ih=>
  intro j d hj
  rw[jI] at hj
  split at hj
  ·rename_i e;subst e
   injection hj with hj;subst hj
   exact ⟨c,by rw[jI,if_pos rfl],fun i y hy hr=>unm_get hc hy hr⟩
  ·rename_i hne
   obtain ⟨c,h1,h2⟩:=ih hj
   exact ⟨c,by rw[jI,if_neg hne,h1],h2⟩
section
variable {P:Program}
end
section
variable {P:Program} {n:Fr} {ops:Array Oper} {K:SL->BS->Prop} {S:SL} {B:BS} {l:List Oper} {o:Oper} {news:List Nat} {acc0:List (List Nat × List Nat)}
end
section
variable {P:Program} {S:SL} {B:BS} {o:Oper} {T:TypeId} {x:Operand} {k:Nat}
end
section
variable {κ ν:Type} [DecidableEq κ]
def ixK(a:κ):List (κ × ν)->Nat->Option (Nat × ν)
 |[],_=>none
 |(b,v)::l,i=>if a=b then some (i,v) else ixK a l (i+1)
def getK(l:List (κ × ν))(a:κ):Option ν:=(ixK a l 0).map (·.2)
section
variable {P:Program} {T K E:TypeId} {w:World} {b:Nat} {ke:κ->Value} {ve:ν->Value} {l:List (κ × ν)}
end
end
section
variable {P:Program} {o:Oper} {S:Nat->SV} {κ ν:Type} [DecidableEq κ] {ke:κ->Value} {ve:ν->Value} {l:List (κ × ν)} {T K E:TypeId} {k:Nat}
end
section
variable {P:Program} {S:SL} {B:BS} {o:Oper} {x y z:Operand} {k:Nat} {T K E:TypeId} {κ ν:Type} [DecidableEq κ] {ke:κ->Value} {ve:ν->Value} {l:List (κ × ν)}
end
section
variable {P:Program} {S:SL} {B:BS} {o:Oper} {x y:Operand} {k:Nat} {T:TypeId}
end
def SV.low:SV->Bool
 |.d _=>true
 |.own j _ _ _=>Nat.beq j 0
 |.ref j _=>Nat.beq j 0
 |.junk=>true
 |_=>false
theorem qC.low{w:World}{D:kV}{β β':kY}{v:Value}{x:SV}(h0:β' 0=β 0)(hx:x.low=true)(h:qC w D β v x):qC w D β' v x:=by
 cases x with
 |d x=>exact h
 |own j t s n=>
  have e:j=0:=Nat.eq_of_beq_eq_true hx
  subst e
  rcases h with ⟨k1,k2⟩ | ⟨b,cap,vs,k1,k2⟩
  ·exact .inl ⟨h0.trans k1,k2⟩
  ·exact .inr ⟨b,cap,vs,h0.trans k1,k2⟩
 |ref j o=>
  have e:j=0:=Nat.eq_of_beq_eq_true hx
  subst e
  obtain ⟨b,k1,k2⟩:=h
  exact ⟨b,h0.trans k1,k2⟩
 |junk=>trivial
 |_=>cases hx
section
variable {P:Program} {S S':SL} {B:BS}
end
section
variable {α:Type} {F:α->jT}
variable {P:Program} {S S':SL} {B:BS}
end
theorem uA.take{w:World}{D:kV}{β:kY}{k n:Nat}{cs:List SV}(h:uA w D β k cs)(hm:yQ cs=false):uA w D β k (cs.take n):=by
 rcases h with h | ⟨b,vs,T,g1,g2,g3,g4,g5⟩
 ·obtain ⟨h1,h2⟩:=h.cells hm
  subst h2;exact .inl (.inl ⟨h1,by simp⟩)
 ·refine .inr ⟨b,vs,T,g1,g2,by rw[List.length_take];omega,fun i x hx=>?_,g5⟩
  rw[List.getElem?_take] at hx
  split at hx
  ·exact g4 i x hx
  ·cases hx
theorem NOk.take{P:Program}{o:Oper}{S:Nat->SV}{k:Nat}{cs:List SV}{x:SV}(n:Nat)(h:NOk P o S k cs x)(hm:yQ cs=false):NOk P o S k (cs.take n) x:=fun a w D β Q hop hD=>
 Oper.wp_mono (fun a' w' ⟨v,D',b,h1,h2,h3,h4,h5,h6,h7,h8⟩=>⟨v,D',b,h1,h2,h3,h4,h5,h6,h7.take hm,h8⟩) (h a w D β Q hop hD)
theorem oMk0{P:Program}{o:Oper}{T:TypeId}{S:Nat->SV}{E:TypeId}{s bytes:Nat}{kl kc:IntKind}{n:Int}{zv:List Value}{zd:List jT}{x y:Operand}(b:Nat)(M:Nat)(hT:uB P T=some (E,s))(hz:vP P E=some zv)(hzd:dV zv zd)(hby:vJ P E=some bytes)(ho:o.op=.makeSlice T x y:=by exact rfl)
  (hl:ev S x=.d (.val (.int kl ((0:Nat):Int))):=by exact rfl) (hc:ev S y=.d (.val (.int kc n)):=by exact rfl) (hcM:n=((M:Nat):Int):=by omega) (hzl:Nat.beq zd.length s=true:=by kernel_rfl) (hb:bytes*M<=281474976710656:=by omega) (hm:M<=maxLen:=by unfold maxLen;omega) :
  NOk P o S b [] (.own b E s 0):=by
 subst hcM
 exact (n_mks b ho hT hz hzd (Nat.eq_of_beq_eq_true hzl) hby hl hc (Nat.zero_le _) hb hm rfl).take 0 (gR _)
section
variable {P:Program} {n:Fr} {ops:Array Oper} {C:Ctx}
end
section
variable {P:Program} {n:Fr} {S0:SL} {B0:BS}
end
section
variable {P:Program} {S S':SL} {B B':BS} {o:Oper}
end
section
variable {P:Program} {n:Fr} {S0:SL} {B0:BS}
end
section
variable {P:Program} {S S':SL} {B B':BS} {o:Oper}
end
instance:DecidableEq ByteArray:=fun a b=>if h:a.data=b.data then isTrue (by cases a;cases b;cases h;rfl) else isFalse (fun e=>h (by rw[e]))
section
variable {P:Program} {S:SL} {B:BS} {o:Oper} {x y z:Operand} {k:Nat} {T K E:TypeId} {κ:Type} [DecidableEq κ] {ke:κ->Value} {l:List (κ × Int)}
end
end Go.Fid
