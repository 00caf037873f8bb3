/- Part 11 of a proof: rules, plain facts, and functions walked. -/
import Derived.Test.YtckccjhflbljgaaGreatDoorM10
import Derived.MapKept
set_option linter.all false
namespace Go.Fid
open List
open Go.RowKit (Below)
abbrev bL:=Nat × List SV × List jY
inductive VArgs (bl:List bL):List Nat->List (List jY)->Prop
 |nil:VArgs bl [] []
 |cons {k:Nat} {c:List SV} {cs:List jY} {ks:List Nat} {css:List (List jY)} (hk:(k,c,cs)∈bl) (h:VArgs bl ks css):VArgs bl (k::ks) (cs::css)
theorem VArgs.len{bl:List bL}{ks:List Nat}{css:List (List jY)}(h:VArgs bl ks css):ks.length=css.length:=by
 induction h with
 |nil=>rfl
 |cons hk h ih=>simp [ih]
theorem VArgs.get{bl:List bL}{ks:List Nat}{css:List (List jY)}(h:VArgs bl ks css):∀ (i:Nat) k cs,ks[i]?=some k->css[i]?=some cs->∃ c,(k,c,cs)∈bl:=by
 induction h with
 |nil=>intro i k cs h;simp at h
 |cons hk h ih=>
  intro i k cs h1 h2
  rcases i with _ | i
  ·simp at h1 h2;subst h1;subst h2;exact ⟨_,hk⟩
  ·exact ih i k cs (by simpa using h1) (by simpa using h2)
inductive See (bl:List bL) (E:TypeId):SV->jY->Prop
 |d {x:jY}:See bl E (.d x) x
 |r {k o:Nat} {c:List SV} {cs:List jY} (hk:(k,c,cs)∈bl):See bl E (.ref k o) (.cptr E cs o)
 |s {k n s:Nat} {t:TypeId} {c:List SV} {cs es:List jY} (hk:(k,c,cs)∈bl) (hes:∀ e∈es,e.cells.length=s) (hl:es.length=n) (hc:cs.take (n*s)=qK es):See bl E (.own k t s n) (.sl E s es)
 |x {k o b:Nat} {c:List SV} {cs:List jY} (hk:(k,c,cs)∈bl):See bl E (.refx k o b) (.cptr E cs o)
 |f {g:FuncId} {ks:List Nat} {css:List (List jY)} (hk:VArgs bl ks css):See bl E (.clo g ks) (.clo g (css.map λcs=>.cptr E cs 0))
inductive Sees (bl:List bL) (E:TypeId):List SV->List jY->Prop
 |nil:Sees bl E [] []
 |cons {x:SV} {d:jY} {c:List SV} {cs:List jY} (h:See bl E x d) (hr:Sees bl E c cs):Sees bl E (x::c) (d::cs)
 |all {c:List SV} {cs:List jY} (h:c=cs.map SV.d):Sees bl E c cs
theorem Sees.len{bl:List bL}{E:TypeId}{c:List SV}{cs:List jY}(h:Sees bl E c cs):c.length=cs.length:=by
 induction h with
 |nil=>rfl
 |cons h hr ih=>simp [ih]
 |all h=>subst h;simp
theorem Sees.get{bl:List bL}{E:TypeId}{c:List SV}{cs:List jY}(h:Sees bl E c cs):∀ (i:Nat) x d,c[i]?=some x->cs[i]?=some d->See bl E x d:=by
 induction h with
 |nil=>intro i x d h;simp at h
 |cons h hr ih=>
  intro i x d h1 h2
  rcases i with _ | i
  ·simp at h1 h2;subst h1;subst h2;exact h
  ·exact ih i x d (by simpa using h1) (by simpa using h2)
 |all h=>
  intro i x d h1 h2
  subst h
  rw[getElem?_map,h2] at h1
  simp at h1;subst h1;exact .d
theorem see_own{α:Type}{bl:List bL}{E k s n:Nat}{t:TypeId}{c:List SV}{F:α->jY}{L:List α}(hk:(k,c,qK (L.map F))∈bl)(hF:∀ x,(F x).cells.length=s)(hl:L.length=n):See bl E (.own k t s n) (.sl E s (L.map F)) :=
 .s hk (map_celllen F hF L) (by simpa using hl) (by
  refine take_of_length_le ?_
  rw[cS F hF,hl]
  exact Nat.le_refl _)
theorem sees_bm{α:Type}{bl:List bL}{E:TypeId}{F:α->jY}{L:List α}(hF:∀ x,(F x).cells=[F x]):Sees bl E (L.map λg=>SV.d (F g)) (qK (L.map F)):=by
 refine .all ?_
 induction L with
 |nil=>rfl
 |cons x L ih=>simp only[map_cons,mO,hF,singleton_append,ih]
inductive VBlks (E:TypeId):List bL->Prop
 |nil:VBlks E []
 |cons {k:Nat} {c:List SV} {cs:List jY} {bl:List bL} (h:Sees bl E c cs) (hr:VBlks E bl):VBlks E ((k,c,cs)::bl)
theorem Sees.cells{bl:List bL}{E:TypeId}{c:List SV}{cs:List jY}(h:Sees bl E c cs):yC c=false:=by
 have hl:=h.len
 rcases c with _ | ⟨x,_ | ⟨y,l⟩⟩
 ·rfl
 ·match cs,hl with
  |[d],_=>
   refine mapCs_at (i:=0) rfl ?_
   cases h.get 0 x d rfl rfl<;>rfl
 ·cases x<;>rfl
theorem VBlks.cells{E:TypeId}{bl:List bL}(h:VBlks E bl):∀ p∈bl,yC p.2.1=false:=by
 induction h with
 |nil=>intro p hp;cases hp
 |cons h hr ih=>
  intro p hp
  rcases mem_cons.1 hp with rfl | hp
  ·exact h.cells
  ·exact ih p hp
def SeenB(w:World)(D':kV)(β:kX)(E:TypeId)(p:bL):Prop :=
 (β p.1=none->p.2.2=[])/\∀ b,β p.1=some b->(∀ i,D' E b i)/\∃ us T',w.heap[b]?=some (.cells us T' (0,0))/\∀ (j:Nat) d,p.2.2[j]?=some d->∃ u,us[j]?=some u/\u.oneCell'=true/\uS w D' u d
section
variable {w:World} {D D':kV} {β:kX} {bl:List bL} {E:TypeId}
theorem seen_ptr{k o:Nat}{c:List SV}{cs:List jY}{v:Value}(hb:SeenB w D' β E (k,c,cs))(hv:kZ w D β v (.ref k o)):uS w D' v (.cptr E cs o):=by
 obtain ⟨b,h1,h2⟩:=hv
 obtain ⟨hD,us,T',g2,g4⟩:=hb.2 b h1
 rw[h2]
 have hcell:∀ i,w.cell? ⟨b,i,none⟩=us[i]?:=λi=>cell_of_row w b i us T' (0,0) g2
 have hp:=uS.cptr (w:=w) (D:=D') (t:=E) (cs:=cs) (off:=o) b 0 (λi=>us.getD i undef) (λi hi=>hD _) (λi hi=>by
  obtain ⟨x,q1,q2,q3⟩:=g4 i _ (getElem?_eq_getElem hi)
  rw[Nat.zero_add,hcell,Array.getD_eq_getD_getElem?,q1];rfl) (λi hi=>by
  obtain ⟨x,q1,q2,q3⟩:=g4 i _ (getElem?_eq_getElem hi)
  rw[Array.getD_eq_getD_getElem?,q1];exact q2) (λi d hd=>by
  obtain ⟨x,q1,q2,q3⟩:=g4 i d hd
  rw[Array.getD_eq_getD_getElem?,q1]
  exact q3)
 rw[Nat.zero_add] at hp
 exact hp
theorem see_rep(hm:∀ t g i,D t g i->D' t g i)(hB:∀ p∈bl,SeenB w D' β E p){x:SV}{d:jY}(h:See bl E x d){v:Value}(hv:kZ w D β v x):uS w D' v d:=by
 cases h with
 |d=>exact uS.mono (λt g i hd=>⟨hm _ _ _ hd,rfl⟩) hv
 |r hk=>exact seen_ptr (hB _ hk) hv
 |x hk=>exact seen_ptr (D:=D) (hB _ hk) ⟨_,hv.1,hv.2⟩
 |s hk hes hl hc=>
  rename_i k n s t c cs es
  rcases hv with ⟨h1,h2,h3⟩ | ⟨b,cap,vs,h1,h2,h3,h4,h5,h6⟩
  ·have hn:es=[]:=eq_nil_of_length_eq_zero (by rw[hl,h2])
   subst hn
   rw[h3];exact bB w D' E s
  ·obtain ⟨hD,us,T',g2,g4⟩:=(hB _ hk).2 b h1
   rw[h2]
   have hfl:=vQ hes
   have hcell:∀ i,w.cell? ⟨b,i,none⟩=us[i]?:=λi=>cell_of_row w b i us T' (0,0) g2
   have key:∀ (i:Nat) d,(qK es)[i]?=some d->∃ u,us[0+i]?=some u/\u.oneCell'=true/\uS w D' u d:=λi d hd=>by
    have hi:i<n*s:=by
     have:=(List.getElem?_eq_some_iff.1 hd).1
     rw[hfl,hl] at this;exact this
    have e1:cs[i]?=some d:=by
     rw[<- hc,getElem?_take_of_lt hi] at hd
     exact hd
    rw[Nat.zero_add]
    exact g4 _ d e1
   refine uS.sl b 0 (λi=>us.getD (0+i) undef) hl.symm h5 h6 hes (λ_=>rfl) (λi hi=>hD _) (λi hi=>?_) (λi hi=>?_) (λi d hd=>?_)
   ·obtain ⟨x,q1,q2,q3⟩:=key i _ (getElem?_eq_getElem hi)
    rw[hcell,Array.getD_eq_getD_getElem?,q1];rfl
   ·obtain ⟨x,q1,q2,q3⟩:=key i _ (getElem?_eq_getElem hi)
    rw[Array.getD_eq_getD_getElem?,q1];exact q2
   ·obtain ⟨x,q1,q2,q3⟩:=key i d hd
    rw[Array.getD_eq_getD_getElem?,q1]
    exact q3
 |f hk=>
  obtain ⟨us,e1,e2,e3⟩:=hv
  rw[e1]
  refine .clo us (by rw[e2,hk.len,length_map]) λj u d hu hd=>?_
  rw[getElem?_map,Option.map_eq_some_iff] at hd
  obtain ⟨cs,hcs,rfl⟩:=hd
  have hlt:j<_:=(List.getElem?_eq_some_iff.1 hcs).1
  rw[<- hk.len] at hlt
  obtain ⟨b,g1,g2⟩:=e3 j _ (getElem?_eq_getElem hlt)
  rw[hu] at g2
  injection g2 with g2
  obtain ⟨c,hc⟩:=hk.get j _ cs (getElem?_eq_getElem hlt) hcs
  exact seen_ptr (D:=D) (o:=0) (hB _ hc) ⟨b,g1,g2⟩
theorem blks_seen(hm:∀ t g i,D t g i->D' t g i)(hX:∀ p∈bl,∀ b,β p.1=some b->∀ i,D' E b i)(hbl:∀ p∈bl,uE w D β p.1 p.2.1)(h:VBlks E bl):∀ p∈bl,SeenB w D' β E p:=by
 induction h with
 |nil=>intro p hp;simp at hp
 |@cons k c cs bl h hr ih=>
  have ih':=ih (λp hp=>hX p (.tail _ hp)) (λp hp=>hbl p (.tail _ hp))
  intro p hp
  rcases mem_cons.1 hp with rfl | hp
  ·rcases hbl (k,c,cs) (.head _) with g0 | ⟨b,us,T',g1,g2,g3,g4,g5⟩
   ·obtain ⟨g1,g2⟩:=g0.cells h.cells
    refine ⟨λ_=>?_,λb hb=>?_⟩
    ·have:=h.len
     have g2:c=[]:=g2
     rw[g2] at this
     exact eq_nil_of_length_eq_zero this.symm
    ·rw[show β k=none from g1] at hb;cases hb
   ·refine ⟨λhn=>absurd hn (by rw[show β k=some b from g1];simp),λb' hb=>?_⟩
    obtain rfl:b=b':=by rw[show β k=some b from g1] at hb;injection hb
    refine ⟨hX _ (.head _) _ hb,us,T',g2,λj d hd=>?_⟩
    have hlt:j<c.length:=by rw[h.len];exact (List.getElem?_eq_some_iff.1 hd).1
    obtain ⟨u,e1,e2,e3⟩:=g4 j _ (getElem?_eq_getElem hlt)
    exact ⟨u,e1,e2,see_rep hm ih' (h.get j _ d (getElem?_eq_getElem hlt) hd) e3⟩
  ·exact ih' p hp
end
section
variable {P:Program} {o:Oper} {S:Nat->SV}
theorem fnv_run{w:World}{D:kV}{β:kX}{a:Act}{y:Operand}{args:List Operand}{ats:Array TypeId}{ex:List SV}{f:FuncId}(hop:∀ q∈o.op.operands,kZ w D β (a.eval q) (ev S q))(ho:o.op=.call { callee:=.value y,args:=args.toArray,argTypes:=ats })
  (hm:callB P f=true) (hy:FnV S y f ex):∃ us:List Value,(execOp a.eval o).run P w=.ok (.enter f (args.map a.eval++us).toArray) w/\us.length=ex.length/\∀ (i:Nat) v x,us[i]?=some v->ex[i]?=some x->kZ w D β v x:=by
 have hyv:=hop y (by simp [ho,Op.operands,Call.operands])
 cases hy with
 |fn h=>
  rw[h] at hyv
  have hv:=vA hyv
  refine ⟨[],?_,rfl,λi v x h=>by simp at h⟩
  simp only[execOp,ho,resolve,Deferred.ofValue,hv,Sem.run_bind,Sem.run_pure,Result.andThen_ok,invoke,Array.empty_append,Array.append_empty]
  rw[xJ hm]
  simp
 |@clo kk _ h he=>
  rw[h] at hyv
  obtain ⟨vs,hv1,hv2,hv3⟩:=hyv
  refine ⟨vs,?_,by rw[<- he];simpa using hv2,λi v x hvi hxi=>?_⟩
  ·simp only[execOp,ho,resolve,Deferred.ofValue,hv1,Sem.run_bind,Sem.run_pure,Result.andThen_ok,invoke,Array.empty_append]
   rw[xJ hm]
   simp
  ·rw[<- he,getElem?_map,Option.map_eq_some_iff] at hxi
   obtain ⟨k,hk,rfl⟩:=hxi
   obtain ⟨b,g1,g2⟩:=hv3 i k hk
   rw[hvi] at g2
   injection g2 with g2
   exact ⟨b,g1,g2⟩
 |@dat iR _ h he=>
  rw[h] at hyv
  generalize hq:a.eval y=q at hyv
  cases hyv with
  |clo vs hl hr=>
   refine ⟨vs,?_,by rw[<- he];simpa using hl,λi v x hvi hxi=>?_⟩
   ·simp only[execOp,ho,resolve,Deferred.ofValue,hq,Sem.run_bind,Sem.run_pure,Result.andThen_ok,invoke,Array.empty_append]
    rw[xJ hm]
    simp
   ·rw[<- he,getElem?_map,Option.map_eq_some_iff] at hxi
    obtain ⟨k,hk,rfl⟩:=hxi
    exact hr i v k hvi hk
theorem e_clh{y:Operand}{xs:List Operand}{ats:Array TypeId}{f:FuncId}{ds:List jY}{r:jY}{zs ex:List SV}{E:TypeId}{bl:List bL}(hf:jP P f ds r)(ho:o.op=.call { callee:=.value y,args:=xs.toArray,argTypes:=ats })(hy:FnV S y f ex)
  (hx:xs.map (ev S)++ex=zs) (hz:Sees bl E zs ds) (hb:VBlks E bl) (ha:yS E r):uP P o S (bl.map λp=>(p.1,p.2.1)) (.d r) :=
 λa w D β Q hop hrd hD=>by
  have hVB:=hb
  obtain ⟨us,hrun,hul,hur⟩:=fnv_run hop ho hf.may hy
  have qM:(xs.map a.eval++us).length=zs.length:=by
   rw[<- hx];simp [hul]
  have hrep:∀ (i:Nat) v x,(xs.map a.eval++us)[i]?=some v->zs[i]?=some x->kZ w D β v x:=λi v x hv hz'=>by
   rw[<- hx] at hz'
   by_cases hlt:i<xs.length
   ·rw[getElem?_append_left (by simpa using hlt)] at hv hz'
    rw[getElem?_map,Option.map_eq_some_iff] at hv
    obtain ⟨p,hqi,rfl⟩:=hv
    have hm:=hop p (by simp [ho,Op.operands,Call.operands,mem_of_getElem? hqi])
    rw[getElem?_map,hqi,Option.map_some,Option.some.injEq] at hz'
    rw[<- hz'];exact hm
   ·rw[getElem?_append_right (by simpa using hlt)] at hv hz'
    simp only[length_map] at hv hz'
    exact hur _ v _ hv hz'
  have hbl:∀ p∈bl,uE w D β p.1 p.2.1:=λp hp=>hrd (p.1,p.2.1) (mem_map_of_mem (f:=λp:bL=>(p.1,p.2.1)) hp)
  let X:TypeId->Nat->Nat->Prop:=λt g _=>t=E/\∃ p∈bl,β p.1=some g
  have hXp:∀ t g i,X t g i->t=E/\∀ t' i',¬ D t' g i':=λt g i ⟨h1,p,hp,hb⟩=>by
   rcases hbl p hp with g0 | ⟨b',us,T',g1,g2,g3,g4,g5⟩
   ·have g1:=(g0.cells (hVB.cells p hp)).1;rw[hb] at g1;cases g1
   ·obtain rfl:g=b':=by rw[hb] at g1;injection g1
    exact ⟨h1,g5⟩
  have hD':iU (λt g i=>D t g i\/X t g i) w:=hD.more (λ_ _ _ hd=>.inl hd) λt g i hd=>by
   rcases hd with hd | ⟨_,p,hp,hb⟩
   ·exact hD.lt _ _ _ hd
   ·exact (hbl p hp).lt hb
  have hm:∀ t g i,D t g i->(D t g i\/X t g i):=λt g i hd=>.inl hd
  have hseen:=blks_seen (D':=λt g i=>D t g i\/X t g i) hm (λp hp b hb i=>.inr ⟨rfl,p,hp,hb⟩) hbl hb
  have hargs:Args w (λt g i=>D t g i\/X t g i) (xs.map a.eval++us) ds:=⟨qM.trans hz.len,λi v d hv hd=>by
   have hlt:i<zs.length:=by rw[hz.len];exact (List.getElem?_eq_some_iff.1 hd).1
   exact see_rep hm hseen (hz.get i _ d (getElem?_eq_getElem hlt) hd) (hrep i v _ hv (getElem?_eq_getElem hlt))⟩
  refine dG hrun ((hf.run w _ _ hD' hargs).mono λe w' h=>?_)
  obtain ⟨v,D2,he,h1,h2,h3⟩:=h
  refine ⟨v,he,v,λt g i=>D2 t g i/\¬ X t g i,rfl,h1,⟨λt g i hd=>⟨h2.up _ _ _ (.inl hd),λhx'=>(hXp t g i hx').2 t i hd⟩,λt g i hd=>?_⟩,?_⟩
  ·rcases h2.new t g i hd.1 with h | h
   ·rcases h with h | h
    ·exact .inl h
    ·exact absurd h hd.2
   ·exact .inr h
  ·exact ha.rep (λt g i hne hd=>⟨hd,λhx'=>hne (hXp t g i hx').1⟩) h3
end
theorem oCh{P:Program}{o:Oper}{S:SL}{B:BS}{y:Operand}{xs:List Operand}{ats:Array TypeId}{f:FuncId}{ds:List jY}{r:jY}{ex:List SV}(bl:List bL)(zs:List SV)(hf:jP P f ds r)(hz:Sees bl 1000000 zs ds)(hv:VBlks 1000000 bl)(ha:yS 1000000 r)
  (ho:o.op=.call { callee:=.value y,args:=xs.toArray,argTypes:=ats }:=by exact rfl) (hy:FnV (kD S) y f ex:=by first | exact .fn (by kernel_rfl) | exact .clo (by kernel_rfl) (by kernel_rfl) | exact .dat (by kernel_rfl) (by kernel_rfl)) (hx:xs.map (ev (kD S))++ex=zs:=by kernel_rfl)
  (hb:bl.map (λp=>kC B p.1)=bl.map (λp=>some p.2.1):=by kernel_rfl) {ks:List Nat} (hks:bl.map (·.1)=ks:=by exact rfl):RKs P o S B ks (.d r):=by
 refine ⟨bl.map λp=>(p.1,p.2.1),by rw[map_map];exact hks,e_clh hf ho hy hx hz hv ha,λp hp=>?_⟩
 obtain ⟨q,hq,rfl⟩:=mem_map.1 hp
 exact map_inj_left.1 hb q hq
section
variable {P:Program} {n:Fr} {ops:Array Oper} {K:SL->BS->Prop} {S:SL} {B:BS} {l:List Oper} {o:Oper} {news:List Nat} {acc0:List (List Nat × List Nat)}
end
theorem pwp_fix{P:Program}{n:Fr}{c:Code}{Q:Exit->PS->Prop}{S:SL}{B:BS}(j:Nat){k o:Nat}(hj:kC B j=some [.ref k o]:=by kernel_rfl)(h:∀ b,eM P n c Q ⟨S,(j,some [.refx k o b])::B⟩):eM P n c Q ⟨S,B⟩:=λC a w N hn ⟨D,β,hs⟩=>by
 obtain ⟨b,hb⟩:∃ b,β k=some b:=by
  rcases hs.mem.ok _ _ hj with (⟨_,e⟩ | ⟨_,_,_,_,_,e,_⟩) | ⟨_,vs,T,_,_,_,g4,_⟩
  ·cases e
  ·cases e
  ·obtain ⟨u,_,_,b,e3,_⟩:=g4 0 _ rfl
   exact ⟨b,e3⟩
 have conv:∀ {i c},kC ((j,some [SV.refx k o b])::B) i=some c->∃ c',kC B i=some c':=fun {i c} hi=>by
  rw[jI] at hi
  split at hi
  ·rename_i e;subst e;exact ⟨_,hj⟩
  ·exact ⟨_,hi⟩
 refine h b C a w N hn ⟨D,β,hs.base,⟨λi c hi=>?_,λi1 i2 c1 c2 q1 q2=>?_⟩,λi c hi=>?_,hs.slots⟩
 ·rw[jI] at hi
  split at hi
  ·rename_i e;subst e
   injection hi with hi;subst hi
   rcases hs.mem.ok _ _ hj with (⟨_,e⟩ | ⟨_,_,_,_,_,e,_⟩) | ⟨b2,vs,T,g1,g2,g3,g4,g5⟩
   ·cases e
   ·cases e
   ·refine .inr ⟨b2,vs,T,g1,g2,g3,λq x hx=>?_,g5⟩
    cases q with
    |zero=>
     simp only[getElem?_cons_zero,Option.some.injEq] at hx
     subst hx
     obtain ⟨u,e1,e2,b3,e3,e4⟩:=g4 0 _ rfl
     rw[hb] at e3
     injection e3 with e3
     subst e3
     exact ⟨u,e1,e2,hb,e4⟩
    |succ q=>simp at hx
  ·exact hs.mem.ok i c hi
 ·obtain ⟨d1,g1⟩:=conv q1
  obtain ⟨d2,g2⟩:=conv q2
  exact hs.mem.inj i1 i2 d1 d2 g1 g2
 ·obtain ⟨d1,g1⟩:=conv hi
  exact hs.high i d1 g1
theorem oLx{P:Program}{o:Oper}{S:SL}{B:BS}{T:TypeId}{x:Operand}{k j q b:Nat}(hs:qD P T=some (false,1))(ho:o.op=.load T x:=by exact rfl)(hx:ev (kD S) x=.ref k 0:=by exact rfl)(hb:kC B k=some [.refx j q b]:=by exact rfl):ROk P o S B k (.ref j q):=by
 obtain ⟨cs,h,e⟩:=qH (P:=P) (o:=o) (S:=S) (B:=B) (off:=0) (k:=k) (cs:=[.refx j q b]) hs ho hx hb (by rfl)
 exact ⟨cs,h.weaken λw D β v hv=>⟨b,hv.1,hv.2⟩,e⟩
section
variable {P:Program} {n:Fr} {ops:Array Oper} {K:SL->BS->Prop} {S:SL} {B:BS} {l:List Oper} {o:Oper} {α:Type} {T E t':TypeId} {x y:Operand} {k s m bytes:Nat} {zv:List Value}
variable {news:List Nat} {acc0:List (List Nat × List Nat)}
theorem wAS(k':Nat)(F:α->jY)(L L':List α)(hL:L.length=m)(hT:uU P T=some (E,s))(hz:xH P E=some zv)(hby:zJ P E=some bytes)(r:DK P n ops K (k'::news) (acc0++[([k],[k',k])]) ((dO o,.own k' E s (L++L').length)::S) ((k',some (uD F (L++L')))::(k,none)::B) l)
  (ho:o.op=.call { callee:=.builtin .append,args:=#[x,y],argTypes:=#[T,T] }:=by exact rfl) (g:goK n ops S o=true:=by kernel_rfl) (hx:ev (kD S) x=.own k E s m:=by exact rfl) (hb:kC B k=some (uD F L):=by kernel_rfl) (hy:ev (kD S) y=.d (.sl t' s (L'.map F)):=by exact rfl) (hF:∀ g,(F g).cells.length=s:=by intro g;kernel_rfl) (hzl:zv.length=s:=by kernel_rfl)
  (hpos:Nat.blt 0 L'.length=true:=by kernel_rfl) (hbig:m+L'.length<=maxLen:=by first | (simp only[length_cons,length_nil,maxLen];omega) | (simp [maxLen];omega)) (hbig':(m+L'.length)*bytes<=140737488355328:=by first | omega | (simp only[length_cons,length_nil];omega) | (simp;omega))
  (hne:Nat.beq k k'=false:=by kernel_rfl) (h1:(S.all λp=>!p.2.names k')=true:=by kernel_rfl)
  (h2:FrB k' B:=by repeat first | exact frb_nil _ | refine frb_map rfl ?_ | refine frb_d rfl ?_ | refine frb_cs rfl rfl ?_ | refine frb_none rfl ?_) (hn:clear1 news (.own k' E s 0)=true:=by kernel_rfl):DK P n ops K news acc0 S B (o::l):=by
 obtain ⟨st1,acc,r1,r0,r2⟩:=r
 obtain ⟨hd,hg,hdB⟩:=yV g
 have h:=app_local (P:=P) (o:=o) (S:=kD S) (k:=k) (k':=k') (cs:=uD F L) (es':=L'.map F) ho hT hz hzl hby hx (gJ k' id _) (by rw[length_map,cS F hF,hL]) hy (by rw[length_map];exact Nat.le_of_ble_eq_true hpos) (by simpa using hbig) (by simpa using hbig')
 have e1:uD F L++(qK (L'.map F)).map .d=uD F (L++L'):=by
  show (qK (L.map F)).map SV.d++(qK (L'.map F)).map SV.d=(qK ((L++L').map F)).map SV.d
  rw[map_append,bA,map_append]
 have e2:m+(L'.map F).length=(L++L').length:=by rw[length_map,length_append,hL]
 rw[e1,e2] at h
 have hs:=mV.a (P:=P) (n:=n) (ops:=ops) (news:=news) (st:=⟨S,B⟩) (o:=o) h hg (by rw[hd];exact hdB) hb (bO h1 h2) (fH hne) hn (yE _ id _)
 rw[hd] at hs
 exact ⟨st1,([k],[k',k])::acc,.cons hs r1,by simpa using r0,r2⟩
end
section
variable {P:Program} {N:Fr} {c:Code} {Q:Exit->PS->Prop} {S:SL} {B:BS}
end
section
variable {P:Program} {n:Fr} {ops:Array Oper} {K:SL->BS->Prop} {S:SL} {l:List Oper} {o:Oper}
def SV.isD:SV->Bool
 |.d _=>true
 |_=>false
end
section
variable {P:Program} {n:Fr} {ops:Array Oper} {K:SL->BS->Prop} {S S0 S1:SL} {B B0 B1:BS} {l:List Oper} {o:Oper} {news:List Nat} {acc0:List (List Nat × List Nat)}
end
def rn(ks:List Nat):SV->Option SV
 |.ref k o=>(ks[k]?).map λj=>.ref j o
 |.own k t s n=>(ks[k]?).map λj=>.own j t s n
 |.clo f l=>(l.mapM λk=>ks[k]?).map λl'=>.clo f l'
 |.view k o n=>(ks[k]?).map λj=>.view j o n
 |.pr k t s n x=>(ks[k]?).map λj=>.pr j t s n x
 |.refx k o b=>(ks[k]?).map λj=>.refx j o b
 |.mpx k b=>(ks[k]?).map λj=>.mpx j b
 |.bnd f k o=>(ks[k]?).map λj=>.bnd f j o
 |.ownx k t s n u=>(ks[k]?).map λj=>.ownx j t s n u
 |.mp k=>(ks[k]?).map λj=>.mp j
 |x=>some x
def rnL(ks:List Nat):List SV->Option (List SV)
 |[]=>some []
 |x::l=>match rn ks x,rnL ks l with
  |some y,some l'=>some (y::l')
  |_,_=>none
theorem vI{α:Type}(ks:List Nat)(G:α->jY):∀ L:List α,rnL ks (L.map λg=>SV.d (G g))=some (L.map λg=>SV.d (G g))
 |[]=>rfl
 |x::L=>by rw[map_cons,rnL,vI ks G L];rfl
theorem vH(ks:List Nat):∀ ds:List jY,rnL ks (ds.map SV.d)=some (ds.map SV.d)
 |[]=>rfl
 |x::L=>by rw[map_cons,rnL,vH ks L];rfl
theorem rnL_get{ks:List Nat}:∀ {c c2:List SV},rnL ks c=some c2->c2.length=c.length/\∀ i:Nat,(∀ x,c[i]?=some x->∃ y,c2[i]?=some y/\rn ks x=some y)/\∀ y,c2[i]?=some y->∃ x,c[i]?=some x/\rn ks x=some y
 |[],c2,h=>by
  injection h with h;subst h
  exact ⟨rfl,λi=>⟨λx hx=>by simp at hx,λy hy=>by simp at hy⟩⟩
 |x::l,c2,h=>by
  unfold rnL at h
  split at h
  ·rename_i y l' hy hl
   injection h with h;subst h
   obtain ⟨h1,h2⟩:=rnL_get hl
   refine ⟨by simp [h1],λi=>?_⟩
   cases i with
   |zero=>exact ⟨λz hz=>by simp at hz;subst hz;exact ⟨y,rfl,hy⟩,λz hz=>by simp at hz;subst hz;exact ⟨x,rfl,hy⟩⟩
   |succ i=>exact ⟨λz hz=>(h2 i).1 z (by simpa using hz),λz hz=>(h2 i).2 z (by simpa using hz)⟩
  ·cases h
theorem mapM_get{ks:List Nat}:∀ {l l':List Nat},(l.mapM λk=>ks[k]?)=some l'->l'.length=l.length/\∀ (i k:Nat),l[i]?=some k->∃ j,l'[i]?=some j/\ks[k]?=some j
 |[],l',h=>by
  simp at h;subst h
  exact ⟨rfl,λi k hk=>by simp at hk⟩
 |k::l,l',h=>by
  rw[mapM_cons] at h
  cases h1:ks[k]? with
  |none=>rw[h1] at h;cases h
  |some j=>
   cases h2:l.mapM (λk=>ks[k]?) with
   |none=>rw[h1,h2] at h;cases h
   |some m=>
    rw[h1,h2] at h
    injection h with h;subst h
    obtain ⟨g1,g2⟩:=mapM_get h2
    refine ⟨by simp [g1],λi q hq=>?_⟩
    cases i with
    |zero=>simp at hq;subst hq;exact ⟨j,rfl,h1⟩
    |succ i=>exact g2 i q (by simpa using hq)
theorem rep_rn{w:World}{D:kV}{β γ:kX}{ks:List Nat}{v:Value}{x y:SV}(h:rn ks x=some y)(hg:∀ k j,ks[k]?=some j->γ k=β j):kZ w D γ v x↔kZ w D β v y:=by
 cases x with
 |d x=>injection h with h;subst h;exact Iff.rfl
 |emp=>injection h with h;subst h;exact Iff.rfl
 |junk=>injection h with h;subst h;exact Iff.rfl
 |mo ob=>injection h with h;subst h;exact Iff.rfl
 |clo f l=>
  unfold rn at h
  rw[Option.map_eq_some_iff] at h
  obtain ⟨l',hl,rfl⟩:=h
  obtain ⟨g1,g2⟩:=mapM_get hl
  constructor
  ·rintro ⟨vs,h1,h2,h3⟩
   refine ⟨vs,h1,h2.trans g1.symm,λi j hj=>?_⟩
   have hlt:i<l.length:=by rw[<- g1];exact (List.getElem?_eq_some_iff.1 hj).1
   obtain ⟨q,e1,e2⟩:=g2 i _ (getElem?_eq_getElem hlt)
   rw[hj] at e1
   injection e1 with e1;subst e1
   rw[<- hg _ _ e2]
   exact h3 i _ (getElem?_eq_getElem hlt)
  ·rintro ⟨vs,h1,h2,h3⟩
   refine ⟨vs,h1,h2.trans g1,λi k hk=>?_⟩
   obtain ⟨q,e1,e2⟩:=g2 i k hk
   rw[hg _ _ e2]
   exact h3 i q e1
 |ref k o | own k t s n | view k o n | pr k t s n x | refx k o b | mpx k b | bnd f k o | ownx k t s n u | mp k=>
  unfold rn at h
  rw[Option.map_eq_some_iff] at h
  obtain ⟨j,hj,rfl⟩:=h
  simp only[kZ,hg k j hj]
theorem rn_mo{ks:List Nat}{x:SV}{ob:Obj}(h:rn ks x=some (.mo ob)):x=.mo ob:=by
 cases x with
 |mo o=>injection h with h
 |d x=>cases h
 |emp=>cases h
 |junk=>cases h
 |ref k o | own k t s n | view k o n | pr k t s n x | refx k o b | mpx k b | bnd f k o | ownx k t s n u | mp k | clo f l=>
  unfold rn at h
  rw[Option.map_eq_some_iff] at h
  obtain ⟨_,_,h⟩:=h
  cases h
theorem rnL_mo{ks:List Nat}{c:List SV}{ob:Obj}(h:rnL ks c=some [.mo ob]):c=[.mo ob]:=by
 obtain ⟨h1,h2⟩:=rnL_get h
 match c,h1,h2 with
 |[x],_,h2=>
  obtain ⟨x',e1,e2⟩:=(h2 0).2 _ rfl
  simp at e1;subst e1
  rw[rn_mo e2]
theorem blk_rn{w:World}{D:kV}{β γ:kX}{ks:List Nat}{k j:Nat}{c c2:List SV}(h:rnL ks c=some c2)(hk:ks[k]?=some j)(hg:∀ k j,ks[k]?=some j->γ k=β j):uE w D γ k c↔uE w D β j c2:=by
 obtain ⟨h1,h2⟩:=rnL_get h
 have e:=hg k j hk
 constructor
 ·rintro ((⟨g1,g2⟩ | ⟨b,ob,g1,g2,g3,g4,g5⟩) | ⟨b,vs,T,g1,g2,g3,g4,g5⟩)
  ·subst g2
   exact .inl (.inl ⟨e.symm.trans g1,eq_nil_of_length_eq_zero (by simpa using h1)⟩)
  ·subst g4
   injection h with h;subst h
   exact .inl (.inr ⟨b,ob,e.symm.trans g1,g2,g3,rfl,g5⟩)
  ·refine .inr ⟨b,vs,T,e.symm.trans g1,g2,by omega,λi y hy=>?_,g5⟩
   obtain ⟨x,e1,e2⟩:=(h2 i).2 y hy
   obtain ⟨u,f1,f2,f3⟩:=g4 i x e1
   exact ⟨u,f1,f2,(rep_rn e2 hg).1 f3⟩
 ·rintro ((⟨g1,g2⟩ | ⟨b,ob,g1,g2,g3,g4,g5⟩) | ⟨b,vs,T,g1,g2,g3,g4,g5⟩)
  ·subst g2
   exact .inl (.inl ⟨e.trans g1,eq_nil_of_length_eq_zero (by simpa using h1.symm)⟩)
  ·subst g4
   exact .inl (.inr ⟨b,ob,e.trans g1,g2,g3,rnL_mo h,g5⟩)
  ·refine .inr ⟨b,vs,T,e.trans g1,g2,by omega,λi x hx=>?_,g5⟩
   obtain ⟨y,e1,e2⟩:=(h2 i).1 x hx
   obtain ⟨u,f1,f2,f3⟩:=g4 i y e1
   exact ⟨u,f1,f2,(rep_rn e2 hg).2 f3⟩
inductive RBi (ks:List Nat):BS->BS->Prop
 |nil:RBi ks [] []
 |cons {k j:Nat} {c c2:List SV} {B B2:BS} (hk:ks[k]?=some j) (hc:rnL ks c=some c2) (h:RBi ks B B2):RBi ks ((k,some c)::B) ((j,some c2)::B2)
def ndI:List Nat->Bool
 |[]=>true
 |k::ks=>!(mmB ks k)&&ndI ks
theorem ndI_inj:∀ {ks:List Nat},ndI ks=true->∀ {k q j:Nat},ks[k]?=some j->ks[q]?=some j->k=q
 |[],_,k,q,j,h1,_=>by simp at h1
 |p::ks,h,k,q,j,h1,h2=>by
  simp only[ndI,Bool.and_eq_true,Bool.not_eq_true'] at h
  have hno:∀ i:Nat,ks[i]?≠some p:=λi e=>by
   have:=mG.2 (mem_of_getElem? e);rw[h.1] at this;cases this
  cases k with
  |zero=>
   cases q with
   |zero=>rfl
   |succ q=>simp at h1 h2;subst h1;exact absurd h2 (hno q)
  |succ k=>
   cases q with
   |zero=>simp at h1 h2;subst h2;exact absurd h1 (hno k)
   |succ q=>simp at h1 h2;rw[ndI_inj h.2 h1 h2]
theorem RBi.to{ks:List Nat}(hn:ndI ks=true){B B2:BS}(h:RBi ks B B2):∀ {k:Nat} {c:List SV},kC B k=some c->∃ j c2,ks[k]?=some j/\kC B2 j=some c2/\rnL ks c=some c2:=by
 induction h with
 |nil=>intro k c hk;simp [kC] at hk
 |@cons q j c1 c2 B B2 hk hc h ih=>
  intro k c hg
  rw[jI] at hg
  split at hg
  ·rename_i e;subst e
   injection hg with hg;subst hg
   exact ⟨j,c2,hk,by rw[jI,if_pos rfl],hc⟩
  ·rename_i hne
   obtain ⟨j',d,h1,h2,h3⟩:=ih hg
   exact ⟨j',d,h1,by rw[jI,if_neg (λe=>by subst e;exact hne (ndI_inj hn hk h1)),h2],h3⟩
theorem RBi.back{ks:List Nat}(hn:ndI ks=true){B B2:BS}(h:RBi ks B B2):∀ {j:Nat} {c2:List SV},kC B2 j=some c2->∃ k c,ks[k]?=some j/\kC B k=some c/\rnL ks c=some c2:=by
 induction h with
 |nil=>intro k c hk;simp [kC] at hk
 |@cons q j c1 c2 B B2 hk hc h ih=>
  intro i d hg
  rw[jI] at hg
  split at hg
  ·rename_i e;subst e
   injection hg with hg;subst hg
   exact ⟨q,c1,hk,by rw[jI,if_pos rfl],hc⟩
  ·rename_i hne
   obtain ⟨k,c,h1,h2,h3⟩:=ih hg
   exact ⟨k,c,h1,by rw[jI,if_neg (λe=>by subst e;rw[hk] at h1;injection h1 with h1;exact hne h1),h2],h3⟩
theorem RBi.some{ks:List Nat}{B B2:BS}(h:RBi ks B B2):∀ p∈B2,∃ c,p.2=.some c:=by
 induction h with
 |nil=>intro p hp;cases hp
 |cons hk hc h ih=>
  intro p hp
  rcases mem_cons.1 hp with e | e
  ·subst e;exact ⟨_,rfl⟩
  ·exact ih p e
def pinI(ks:List Nat)(j:Nat):SV->Bool
 |.ref k _=>decide (ks[k]?=some j)
 |.clo _ l=>l.any λk=>decide (ks[k]?=some j)&&!Nat.beq k 9
 |_=>false
inductive FixI (ks:List Nat) (B B':BS):List Nat->Prop
 |nil:FixI ks B B' []
 |cons {k q o b j:Nat} {G:List Nat} (hj:ks[k]?=some j) (h1:kC B q=some [.refx k o b]) (h2:kC B' q=some [.refx k o b]) (h:FixI ks B B' G):FixI ks B B' (j::G)
theorem FixI.at{ks:List Nat}{B B':BS}{G:List Nat}(h:FixI ks B B' G){j:Nat}(hj:j∈G):∃ k q o b,ks[k]?=some j/\kC B q=some [.refx k o b]/\kC B' q=some [.refx k o b]:=by
 induction h with
 |nil=>cases hj
 |cons e h1 h2 h ih=>
  rcases mem_cons.1 hj with rfl | hj
  ·exact ⟨_,_,_,_,e,h1,h2⟩
  ·exact ih hj
section
variable {P:Program}
theorem effI{xs:List SV}{B B2:BS}{r x:SV}{B' B2':BS}{ks mv G:List Nat}{w w':World}{D D':kV}{β β':kX}{v:Value}(hn:ndI ks=true)(hB:RBi ks B B2)(hB':RBi ks B' B2')(hr:rn ks r=some x)
  (hG:FixI ks B B' G) (hmv:(ks.all λj=>mmB mv j||(xs.any (pinI ks j))||mmB G j)=true) (γ:kX) (hγ:∀ k j,ks[k]?=some j->γ k=β j) (hp:SPost w D γ xs B r B' v w' D' β') (hmem:Mem w D γ B):∃ βn,SEff w D β B2 B2' mv v x w' D' βn:=by
 obtain ⟨βn,hβ1,hβ2⟩:∃ βn:kX,(∀ k j,ks[k]?=some j->β' k=βn j)/\∀ j,j∉ks->βn j=β j:=by
  classical
  refine ⟨λj=>if h:∃ k,ks[k]?=some j then β' h.choose else β j,λk j hk=>?_,λj h1=>?_⟩
  ·have hx:∃ q,ks[q]?=some j:=⟨k,hk⟩
   show β' k=(if h:∃ q,ks[q]?=some j then β' h.choose else β j)
   rw[dif_pos hx,ndI_inj hn hx.choose_spec hk]
  ·show (if h:∃ q,ks[q]?=some j then β' h.choose else β j)=β j
   rw[dif_neg]
   rintro ⟨k,hk⟩
   exact h1 (mem_of_getElem? hk)
 have hmine:∀ b,gC γ B b->gC β B2 b:=λb ⟨k,c,h1,h2⟩=>by
  obtain ⟨j,c2,e1,e2,_⟩:=hB.to hn h1
  exact ⟨j,c2,e2,(hγ _ _ e1).symm.trans h2⟩
 refine ⟨βn,⟨⟨hp.below.os,hp.below.tape,hp.below.output,hp.below.size,λk hk hm=>hp.below.block k hk λh=>hm (hmine k h),hp.below.shape⟩,hp.keep,λk o hk ho hmp=>hp.oth k o hk ho λe hq=>hmp e (hmine k hq),hp.up,λt g o hd=>?_,hp.dok,⟨λj c hj=>?_,λj1 j2 c1 c2 q1 q2 b e1 e2=>?_⟩,λj c hj b hb=>?_,λj hj=>?_,(rep_rn hr hβ1).1 hp.res⟩⟩
 ·rcases hp.new t g o hd with h | h | h
  ·exact .inl h
  ·exact .inr (.inl h)
  ·exact .inr (.inr (hmine g h))
 ·obtain ⟨k,c0,e1,e2,e3⟩:=hB'.back hn hj
  exact (blk_rn e3 e1 hβ1).1 (hp.mem.ok k c0 e2)
 ·obtain ⟨k1,d1,f1,f2,_⟩:=hB'.back hn q1
  obtain ⟨k2,d2,g1,g2,_⟩:=hB'.back hn q2
  rw[<- hβ1 _ _ f1] at e1
  rw[<- hβ1 _ _ g1] at e2
  have:=hp.mem.inj k1 k2 d1 d2 f2 g2 b e1 e2
  subst this
  rw[f1] at g1
  injection g1
 ·obtain ⟨k,d,f1,f2,_⟩:=hB'.back hn hj
  rw[<- hβ1 _ _ f1] at hb
  rcases hp.high k d f2 b hb with h | h
  ·exact .inl h
  ·exact .inr (hmine b h)
 ·by_cases hjk:j∈ks
  ·have h1:=all_eq_true.1 hmv j hjk
   rw[Bool.or_eq_true,Bool.or_eq_true] at h1
   rcases h1 with (h1 | h1) | h1
   ·exact absurd (mG.1 h1) hj
   ·obtain ⟨y,hy,e⟩:=any_eq_true.1 h1
    obtain ⟨i,hi⟩:=getElem?_of_mem hy
    cases y with
    |ref q o=>
     have e:=of_decide_eq_true e
     rw[<- hβ1 _ _ e,<- hγ _ _ e]
     exact hp.same i _ hi q (by simp [SV.pins])
    |clo g js=>
     obtain ⟨q,hq,e⟩:=any_eq_true.1 e
     rw[Bool.and_eq_true] at e
     have e1:=of_decide_eq_true e.1
     rw[<- hβ1 _ _ e1,<- hγ _ _ e1]
     exact hp.same i _ hi q (any_eq_true.2 ⟨q,hq,by rw[e.2];simp⟩)
    |_=>cases e
   ·obtain ⟨k,q,o,b,e,g1,g2⟩:=hG.at (mG.1 h1)
    have e1:=refx_at hmem g1
    have e2:=refx_at hp.mem g2
    rw[<- hβ1 _ _ e,<- hγ _ _ e,e2]
    exact e1.symm
  ·exact hβ2 j hjk
def CallV(P:Program)(o:Oper)(S:Nat->SV)(f:FuncId)(ys:List SV):Prop :=
 callB P f=true->∀ (a:Act) (w:World) (D:kV) (β:kX),(∀ q∈o.op.operands,kZ w D β (a.eval q) (ev S q)) ->
  ∃ us:List Value,(execOp a.eval o).run P w=.ok (.enter f us.toArray) w/\us.length=ys.length/\∀ (i:Nat) v x,us[i]?=some v->ys[i]?=some x->kZ w D β v x
theorem callV_fn{o:Oper}{S:Nat->SV}{y:Operand}{args:List Operand}{ats:Array TypeId}{ex:List SV}{f:FuncId}{ys:List SV}(ho:o.op=.call { callee:=.value y,args:=args.toArray,argTypes:=ats })(hy:FnV S y f ex)(hx:args.map (ev S)++ex=ys):CallV P o S f ys:=λhm a w D β hop=>by
 obtain ⟨us,hrun,hul,hur⟩:=fnv_run hop ho hm hy
 refine ⟨args.map a.eval++us,hrun,by rw[<- hx];simp [hul],λi v z hv e1=>?_⟩
 rw[<- hx] at e1
 by_cases hlt:i<args.length
 ·rw[getElem?_append_left (by simpa using hlt)] at hv e1
  rw[getElem?_map,Option.map_eq_some_iff] at hv
  obtain ⟨p,hqi,rfl⟩:=hv
  have hm:=hop p (by simp [ho,Op.operands,Call.operands,mem_of_getElem? hqi])
  rw[getElem?_map,hqi,Option.map_some,Option.some.injEq] at e1
  rw[<- e1];exact hm
 ·rw[getElem?_append_right (by simpa using hlt)] at hv e1
  simp only[length_map] at hv e1
  exact hur _ v _ hv e1
theorem sok_of{o:Oper}{S:Nat->SV}{f:FuncId}{xs ys:List SV}{B B2:BS}{r x:SV}{B' B2':BS}{ks mv G:List Nat}
  (hf:yG P f xs B r B') (hc:CallV P o S f ys) (hxs:rnL ks xs=some ys) (hn:ndI ks=true)
  (hB:RBi ks B B2) (hB':RBi ks B' B2') (hr:rn ks r=some x) (hG:FixI ks B B' G) (hmv:(ks.all λj=>mmB mv j||(xs.any (pinI ks j))||mmB G j)=true):SOk P o S B2 B2' mv x:=λa w D β Q hop hmem2 hD=>by
 obtain ⟨us,hrun,hul,hur⟩:=hc hf.may a w D β hop
 obtain ⟨γ,hγ⟩:∃ γ:kX,∀ k j,ks[k]?=some j->γ k=β j:=⟨λk=>(ks[k]?).bind β,λk j hk=>by show (ks[k]?).bind β=β j;rw[hk];rfl⟩
 have hmem:Mem w D γ B:=⟨λk c hk=>by
  obtain ⟨j,c2,e1,e2,e3⟩:=hB.to hn hk
  exact (blk_rn e3 e1 hγ).2 (hmem2.ok j c2 e2),λk1 k2 c1 c2 q1 q2 b e1 e2=>by
  obtain ⟨j1,d1,f1,f2,_⟩:=hB.to hn q1
  obtain ⟨j2,d2,g1,g2,_⟩:=hB.to hn q2
  rw[hγ _ _ f1] at e1
  rw[hγ _ _ g1] at e2
  have:=hmem2.inj j1 j2 d1 d2 f2 g2 b e1 e2
  subst this
  exact ndI_inj hn f1 g1⟩
 obtain ⟨hl1,hl2⟩:=rnL_get hxs
 have qM:us.length=xs.length:=hul.trans hl1
 have hrep:∀ (i:Nat) v z,us[i]?=some v->xs[i]?=some z->kZ w D γ v z:=λi v z hv hz=>by
  obtain ⟨y',e1,e2⟩:=(hl2 i).1 z hz
  exact (rep_rn e2 hγ).2 (hur i v y' hv e1)
 refine dG hrun ((hf.run w D γ _ hD hmem qM hrep).mono λe w' h=>?_)
 obtain ⟨v,D',β',he,hp⟩:=h
 obtain ⟨βn,hE⟩:=effI hn hB hB' hr hG hmv γ hγ hp hmem
 exact ⟨v,he,v,D',βn,rfl,hE⟩
end
inductive FrM (ks mv:List Nat):BS->Prop
 |nil:FrM ks mv []
 |hid {k:Nat} {x:Option (List SV)} {B:BS} (hk:mmB ks k=true) (h:FrM ks mv B):FrM ks mv ((k,x)::B)
 |none {k:Nat} {B:BS} (h:FrM ks mv B):FrM ks mv ((k,.none)::B)
 |dat {k:Nat} {ds:List jY} {B:BS} (h:FrM ks mv B):FrM ks mv ((k,some (ds.map SV.d))::B)
 |map {α:Type} {k:Nat} {G:α->jY} {L:List α} {B:BS} (h:FrM ks mv B):FrM ks mv ((k,some (L.map λg=>SV.d (G g)))::B)
 |cells {k:Nat} {c:List SV} {B:BS} (hc:(mv.all λq=>!(qI q c))=true) (h:FrM ks mv B):FrM ks mv ((k,some c)::B)
theorem namesAny_dat(k:Nat)(ds:List jY):qI k (ds.map SV.d)=false:=by
 unfold qI
 rw[any_eq_false]
 intro x hx
 obtain ⟨d,_,rfl⟩:=mem_map.1 hx
 simp [SV.names]
theorem namesAny_mapd{α:Type}(k:Nat)(G:α->jY)(L:List α):qI k (L.map λg=>SV.d (G g))=false:=by
 unfold qI
 rw[any_eq_false]
 intro x hx
 obtain ⟨d,_,rfl⟩:=mem_map.1 hx
 simp [SV.names]
theorem FrM.ok{ks mv:List Nat}{B:BS}(h:FrM ks mv B){k:Nat}(hk:k∈mv):∀ p∈B,p.1∈ks\/∀ c,p.2=some c->qI k c=false:=by
 induction h with
 |nil=>intro p hp;cases hp
 |hid hk' h ih=>
  intro p hp;rcases mem_cons.1 hp with e | e
  ·subst e;exact .inl (mG.1 hk')
  ·exact ih p e
 |none h ih=>
  intro p hp;rcases mem_cons.1 hp with e | e
  ·subst e;exact .inr λc hc=>by cases hc
  ·exact ih p e
 |dat h ih=>
  intro p hp;rcases mem_cons.1 hp with e | e
  ·subst e;exact .inr λc hc=>by injection hc with hc;subst hc;exact namesAny_dat _ _
  ·exact ih p e
 |map h ih=>
  intro p hp;rcases mem_cons.1 hp with e | e
  ·subst e;exact .inr λc hc=>by injection hc with hc;subst hc;exact namesAny_mapd _ _ _
  ·exact ih p e
 |cells hc h ih=>
  intro p hp;rcases mem_cons.1 hp with e | e
  ·subst e;exact .inr λc hc'=>by injection hc' with hc';subst hc';simpa using all_eq_true.1 hc k hk
  ·exact ih p e
inductive NmM (news mv:List Nat):BS->Prop
 |nil:NmM news mv []
 |dat {k:Nat} {ds:List jY} {B:BS} (h:NmM news mv B):NmM news mv ((k,some (ds.map SV.d))::B)
 |map {α:Type} {k:Nat} {G:α->jY} {L:List α} {B:BS} (h:NmM news mv B):NmM news mv ((k,some (L.map λg=>SV.d (G g)))::B)
 |cells {k:Nat} {c:List SV} {B:BS} (hc:(news.all λq=>!(qI q c)||mmB mv q)=true) (h:NmM news mv B):NmM news mv ((k,some c)::B)
theorem NmM.ok{news mv:List Nat}{B:BS}(h:NmM news mv B):∀ p∈B,∀ c,p.2=some c->∀ k∈news,qI k c=true->k∈mv:=by
 induction h with
 |nil=>intro p hp;cases hp
 |dat h ih=>
  intro p hp;rcases mem_cons.1 hp with e | e
  ·subst e;exact λc hc k _ hn=>by injection hc with hc;subst hc;rw[namesAny_dat] at hn;cases hn
  ·exact ih p e
 |map h ih=>
  intro p hp;rcases mem_cons.1 hp with e | e
  ·subst e;exact λc hc k _ hn=>by injection hc with hc;subst hc;rw[namesAny_mapd] at hn;cases hn
  ·exact ih p e
 |cells hc h ih=>
  intro p hp;rcases mem_cons.1 hp with e | e
  ·subst e;exact λc hc' k hk hn=>by
                                      injection hc' with hc';subst hc'
                                      have:=all_eq_true.1 hc k hk
                                      rw[hn] at this
                                      exact mG.1 this
  ·exact ih p e
section
variable {P:Program} {n:Fr} {ops:Array Oper} {K:SL->BS->Prop} {S:SL} {B:BS} {l:List Oper} {o:Oper} {news:List Nat} {acc0:List (List Nat × List Nat)}
theorem wS{f:FuncId}{xs:List SV}{B1:BS}{r:SV}{B1':BS}(ks mv:List Nat)(x:SV)(ys:List SV)(B2 B2':BS)(hf:yG P f xs B1 r B1')(hB:RBi ks B1 B2)(hB':RBi ks B1' B2')(hM:FrM (B2.map (·.1)) mv B)(hN:NmM news mv B2')
  (rr:DK P n ops K (mv++news) (acc0++[(B2.map (·.1),B2.map (·.1))]) ((dO o,x)::S) (B2'++B) l) (hc:CallV P o (kD S) f ys:=by exact callV_fn (ex:=[]) (by exact rfl) (.fn (by kernel_rfl)) (by kernel_rfl)) (g:goK n ops S o=true:=by kernel_rfl)
  (hxs:rnL ks xs=some ys:=by kernel_rfl) (hr:rn ks r=some x:=by kernel_rfl) (hn:ndI ks=true:=by kernel_rfl) (hb:B2.map (λp=>kC B p.1)=B2.map (·.2):=by kernel_rfl) (hks:B2'.map (·.1)=B2.map (·.1):=by kernel_rfl)
  (hsl:(S.all λp=>mv.all λk=>!p.2.names k)=true:=by kernel_rfl) (hin:(mv.all λk=>mmB (B2.map (·.1)) k)=true:=by kernel_rfl) (hcl:((mv++news).all λk=>!x.names k)=true:=by kernel_rfl)
  (G:List Nat:=[]) (hG:FixI ks B1 B1' G:=by exact .nil) (hmv:(ks.all λj=>mmB mv j||(xs.any (pinI ks j))||mmB G j)=true:=by kernel_rfl):DK P n ops K news acc0 S B (o::l):=by
 obtain ⟨st1,acc,r1,r0,r2⟩:=rr
 obtain ⟨hd,hg,hdB⟩:=yV g
 have hb':∀ p∈B2,∃ c,p.2=some c/\kC B p.1=some c:=λp hp=>by
  obtain ⟨c,e⟩:=hB.some p hp
  exact ⟨c,e,(map_inj_left.1 hb p hp).trans e⟩
 have hs:=mV.s (P:=P) (n:=n) (ops:=ops) (news:=news) (st:=⟨S,B⟩) (o:=o) (sok_of hf hc hxs hn hB hB' hr hG hmv) hg (by rw[hd];exact hdB) hb' hks (wk:=B2.map (·.1)) (λ_ h=>h) (λ_ h hn=>absurd h hn)
  (λk hk=>⟨mG.1 (all_eq_true.1 hin k hk),λp hp=>by simpa using all_eq_true.1 (all_eq_true.1 hsl p hp) k hk,hM.ok hk⟩)
  (λk hk=>by simpa using all_eq_true.1 hcl k (mem_append.2 hk)) hN.ok
 rw[hd] at hs
 exact ⟨st1,(B2.map (·.1),B2.map (·.1))::acc,.cons hs r1,by simpa using r0,r2⟩
end
section
variable {P:Program} {n:Fr} {ops:Array Oper} {K:SL->BS->Prop} {S:SL} {B:BS} {l:List Oper} {o:Oper}
end
section
variable {P:Program}
end
def ixN:List Nat->Nat->Nat->Option Nat
 |[],_,_=>none
 |k::ks,i,j=>bif Nat.beq k j then some i else ixN ks (i+1) j
def rawS(ks:List Nat):SV->Bool
 |.own k _ _ _=>(ixN ks 0 k).isNone
 |_=>false
def bkc(ks:List Nat)(u:Value):SV->Option SV
 |.d x=>some (.d x)
 |.own k t s n=>match ixN ks 0 k with
  |some i=>some (.own i t s n)
  |none=>some (.d (.val u))
 |.ref k o=>(ixN ks 0 k).map λi=>.ref i o
 |.refx k o b=>(ixN ks 0 k).map λi=>.refx i o b
 |.mpx k b=>(ixN ks 0 k).map λi=>.mpx i b
 |_=>none
def bkL(ks:List Nat)(U:Nat->Value):Nat->List SV->Option (List SV)
 |_,[]=>some []
 |i,y::c=>match bkc ks (U i) y,bkL ks U (i+1) c with
  |some x,some l=>some (x::l)
  |_,_=>none
inductive RBu (ks:List Nat) (U:Nat->Nat->Value):BS->BS->Prop
 |nil:RBu ks U [] []
 |cons {k j:Nat} {c c2:List SV} {B B2:BS} (hk:ks[k]?=some j) (hc:bkL ks (U j) 0 c2=some c) (h:RBu ks U B B2):RBu ks U ((k,some c)::B) ((j,some c2)::B2)
theorem RBu.to{ks:List Nat}{U:Nat->Nat->Value}(hn:ndI ks=true){B B2:BS}(h:RBu ks U B B2):∀ {k:Nat} {c:List SV},kC B k=some c->∃ j c2,ks[k]?=some j/\kC B2 j=some c2/\bkL ks (U j) 0 c2=some c:=by
 induction h with
 |nil=>intro k c hk;simp [kC] at hk
 |@cons q j c1 c2 B B2 hk hc h ih=>
  intro k c hg
  rw[jI] at hg
  split at hg
  ·rename_i e;subst e
   injection hg with hg;subst hg
   exact ⟨j,c2,hk,by rw[jI,if_pos rfl],hc⟩
  ·rename_i hne
   obtain ⟨j',d,h1,h2,h3⟩:=ih hg
   exact ⟨j',d,h1,by rw[jI,if_neg (λe=>by subst e;exact hne (ndI_inj hn hk h1)),h2],h3⟩
theorem RBu.back{ks:List Nat}{U:Nat->Nat->Value}(hn:ndI ks=true){B B2:BS}(h:RBu ks U B B2):∀ {j:Nat} {c2:List SV},kC B2 j=some c2->∃ k c,ks[k]?=some j/\kC B k=some c/\bkL ks (U j) 0 c2=some c:=by
 induction h with
 |nil=>intro k c hk;simp [kC] at hk
 |@cons q j c1 c2 B B2 hk hc h ih=>
  intro i d hg
  rw[jI] at hg
  split at hg
  ·rename_i e;subst e
   injection hg with hg;subst hg
   exact ⟨q,c1,hk,by rw[jI,if_pos rfl],hc⟩
  ·rename_i hne
   obtain ⟨k,c,h1,h2,h3⟩:=ih hg
   exact ⟨k,c,h1,by rw[jI,if_neg (λe=>by subst e;rw[hk] at h1;injection h1 with h1;exact hne h1),h2],h3⟩
theorem RBu.some{ks:List Nat}{U:Nat->Nat->Value}{B B2:BS}(h:RBu ks U B B2):∀ p∈B2,∃ c,p.2=.some c:=by
 induction h with
 |nil=>intro p hp;cases hp
 |cons hk hc h ih=>
  intro p hp
  rcases mem_cons.1 hp with e | e
  ·subst e;exact ⟨_,rfl⟩
  ·exact ih p e
def unm(ks:List Nat)(c:List SV):List (Option SV):=c.map λy=>bif rawS ks y then some y else none
inductive OwS (ks:List Nat):BS->BS->Prop
 |nil:OwS ks [] []
 |dat {j:Nat} {ds ds':List jY} {B B':BS} (h:OwS ks B B'):OwS ks ((j,some (ds.map SV.d))::B) ((j,some (ds'.map SV.d))::B')
 |map {α:Type} {j:Nat} {G G':α->jY} {L L':List α} {B B':BS} (h:OwS ks B B'):OwS ks ((j,some (L.map λg=>SV.d (G g)))::B) ((j,some (L'.map λg=>SV.d (G' g)))::B')
 |cells {j:Nat} {c c':List SV} {B B':BS} (hc:unm ks c'=unm ks c) (h:OwS ks B B'):OwS ks ((j,some c)::B) ((j,some c')::B')
theorem unm_get{ks:List Nat}{c c':List SV}(h:unm ks c'=unm ks c){i:Nat}{y:SV}(hy:c'[i]?=some y)(hr:rawS ks y=true):c[i]?=some y:=by
 have h1:=congrArg (λl:List (Option SV)=>l[i]?) h
 simp only[unm,getElem?_map,hy,Option.map_some,hr,cond_true] at h1
 cases hc:c[i]? with
 |none=>rw[hc] at h1;cases h1
 |some z=>
  rw[hc] at h1
  simp only[Option.map_some,Option.some.injEq] at h1
  cases hz:rawS ks z with
  |true=>rw[hz] at h1;injection h1 with h1;rw[h1]
  |false=>rw[hz] at h1;cases h1
theorem OwS.at{ks:List Nat}{B B':BS}(h:OwS ks B B'):∀ {j:Nat} {c':List SV},kC B' j=some c'->∃ c,kC B j=some c/\∀ (i:Nat) y,c'[i]?=some y->rawS ks y=true->c[i]?=some y:=by
 have no:∀ (ds:List jY) (i:Nat) (y:SV),(ds.map SV.d)[i]?=some y->rawS ks y=true->False:=λds i y hy hr=>by
  rw[getElem?_map,Option.map_eq_some_iff] at hy
  obtain ⟨d,_,rfl⟩:=hy
  cases hr
 induction h with
 |nil=>intro j c' hj;simp [kC] at hj
 |@dat q ds ds' B B' h ih=>
  intro j c' hj
  rw[jI] at hj
  split at hj
  ·rename_i e;subst e
   injection hj with hj;subst hj
   exact ⟨_,by rw[jI,if_pos rfl],λi y hy hr=>(no _ _ _ hy hr).elim⟩
  ·rename_i hne
   obtain ⟨c,h1,h2⟩:=ih hj
   exact ⟨c,by rw[jI,if_neg hne,h1],h2⟩
 |@map α q G G' L L' B B' h ih=>
  intro j c' hj
  rw[jI] at hj
  split at hj
  ·rename_i e;subst e
   injection hj with hj;subst hj
   exact ⟨_,by rw[jI,if_pos rfl],λi y hy hr=>by
    rw[getElem?_map,Option.map_eq_some_iff] at hy
    obtain ⟨d,_,rfl⟩:=hy
    cases hr⟩
  ·rename_i hne
   obtain ⟨c,h1,h2⟩:=ih hj
   exact ⟨c,by rw[jI,if_neg hne,h1],h2⟩
 |@cells q c c' B B' hc h ih=>
  intro j d hj
  rw[jI] at hj
  split at hj
  ·rename_i e;subst e
   injection hj with hj;subst hj
   exact ⟨c,by rw[jI,if_pos rfl],λi y hy hr=>unm_get hc hy hr⟩
  ·rename_i hne
   obtain ⟨c,h1,h2⟩:=ih hj
   exact ⟨c,by rw[jI,if_neg hne,h1],h2⟩
section
variable {P:Program}
end
section
variable {P:Program} {n:Fr} {ops:Array Oper} {K:SL->BS->Prop} {S:SL} {B:BS} {l:List Oper} {o:Oper} {news:List Nat} {acc0:List (List Nat × List Nat)}
end
section
variable {P:Program} {S:SL} {B:BS} {o:Oper} {T:TypeId} {x:Operand} {k:Nat}
end
section
variable {κ ν:Type} [DecidableEq κ]
def ixK(a:κ):List (κ × ν)->Nat->Option (Nat × ν)
 |[],_=>none
 |(b,v)::l,i=>if a=b then some (i,v) else ixK a l (i+1)
def xR(l:List (κ × ν))(a:κ):Option ν:=(ixK a l 0).map (·.2)
def bI(ke:κ->Value)(ve:ν->Value):List (κ × ν)->Nat->List MapEntry
 |[],_=>[]
 |(a,v)::l,i=>{ key:=ke a,val:=ve v,born:=i }::bI ke ve l (i+1)
theorem entK_app(ke:κ->Value)(ve:ν->Value):∀ (l m:List (κ × ν)) (i:Nat),bI ke ve (l++m) i=bI ke ve l i++bI ke ve m (i+l.length)
 |[],m,i=>rfl
 |(a,v)::l,m,i=>by
  rw[cons_append,bI,entK_app ke ve l m (i+1),bI,cons_append,length_cons,show i+1+l.length=i+(l.length+1) by omega]
def vG(ke:κ->Value)(ve:ν->Value)(l:List (κ × ν)):Obj:=.map (bI ke ve l 0).toArray l.length
theorem mpo_push(ke:κ->Value)(ve:ν->Value)(l:List (κ × ν))(a:κ)(v:ν):Obj.map ((bI ke ve l 0).toArray.push { key:=ke a,val:=ve v,born:=l.length }) (l.length+1)=vG ke ve (l++[(a,v)]):=by
 unfold vG
 rw[entK_app,length_append,Nat.zero_add]
 simp [bI]
theorem ixK_lt{a:κ}:∀ {l:List (κ × ν)} {i:Nat} {p:Nat × ν},ixK a l i=some p->i<=p.1/\l[p.1-i]?=some (a,p.2)
 |[],_,_,h=>by cases h
 |(b,v)::l,i,p,h=>by
  unfold ixK at h
  split at h
  ·rename_i e
   injection h with h;subst h;subst e
   simp
  ·obtain ⟨h1,h2⟩:=ixK_lt h
   refine ⟨by omega,?_⟩
   rw[show p.1-i=(p.1-(i+1))+1 by omega];exact h2
theorem getK_mem{a:κ}{l:List (κ × ν)}{v:ν}(h:xR l a=some v):(a,v)∈l:=by
 unfold xR at h
 rw[Option.map_eq_some_iff] at h
 obtain ⟨p,hp,rfl⟩:=h
 exact mem_of_getElem? (ixK_lt hp).2
structure KeyOk (P:Program) (K:TypeId) (ke:κ->Value):Prop where
 chk:∀ (e:Bool) (a:κ) (w:World),(Instr.checkKey e 10000 K (ke a)).run P w=.ok () w
 find:∀ {ν:Type} (ve:ν->Value) (l:List (κ × ν)) (a:κ) (w:World),(Instr.findKey K (ke a) (bI ke ve l 0)).run P w=.ok ((ixK a l 0).map λp=>(p.1,ve p.2)) w
def mapKB(P:Program)(T:TypeId):Option (TypeId × TypeId):=match P.underlying T with
 |some (.map K E)=>some (K,E)
 |_=>none
theorem mapK_of{P:Program}{T K E:TypeId}(h:mapKB P T=some (K,E)):P.underlying T=some (.map K E):=by
 unfold mapKB at h
 split at h
 ·rename_i a b e;injection h with h;injection h with h1 h2;subst h1;subst h2;exact e
 ·cases h
def zeroVm(P:Program)(T:TypeId):Option Value:=match P.info? T with
 |some i=>i.zero
 |none=>none
theorem run_zeroVm{P:Program}{T:TypeId}{v:Value}(h:zeroVm P T=some v)(w:World):(zeroValue T).run P w=.ok v w:=by
 unfold zeroVm at h
 cases hi:P.info? T with
 |none=>rw[hi] at h;cases h
 |some i=>
  rw[hi] at h
  simp only[] at h
  simp [zeroValue,typeInfo,hi,h]
section
variable {P:Program} {T K E:TypeId} {w:World} {b:Nat} {ke:κ->Value} {ve:ν->Value} {l:List (κ × ν)}
theorem run_getK(hT:mapKB P T=some (K,E))(hK:KeyOk P K ke){z:Value}(hz:zeroVm P E=some z)(hb:w.heap[b]?=some (vG ke ve l))(a:κ)(ok:Bool) :
  (Instr.lookup T (.map (some b)) (ke a) ok).run P w=.ok (if ok then .tuple #[((xR l a).map ve).getD z,.bool (xR l a).isSome] else ((xR l a).map ve).getD z) w:=by
 have h1:=mapK_of hT
 have hf:=hK.find ve l a w
 have hc:=hK.chk (bI ke ve l 0).toArray.isEmpty a w
 simp only[Instr.lookup,Sem.run_bind,run_underlying h1,MapKept.run_getObj_map (show w.heap[b]?=some (.map (bI ke ve l 0).toArray l.length) from hb),Result.andThen_ok,Sem.run_pure,hc,toList_toArray,hf]
 unfold xR
 cases ixK a l 0 with
 |none=>cases ok<;>simp [run_zeroVm hz]
 |some p=>cases ok<;>simp
theorem run_insK(hT:mapKB P T=some (K,E))(hK:KeyOk P K ke)(hb:w.heap[b]?=some (vG ke ve l))(a:κ)(v:ν)(hn:xR l a=none) :
  (Instr.mapUpdate T (.map (some b)) (ke a) (ve v)).run P w=.ok () (w.putObj b (vG ke ve (l++[(a,v)]))):=by
 have h1:=mapK_of hT
 have hf:=hK.find ve l a w
 have hc:=hK.chk false a w
 have hn2:ixK a l 0=none:=by
  unfold xR at hn
  exact Option.map_eq_none_iff.1 hn
 rw[hn2] at hf
 simp only[Instr.mapUpdate,Sem.run_bind,run_underlying h1,MapKept.run_getObj_map (show w.heap[b]?=some (.map (bI ke ve l 0).toArray l.length) from hb),Result.andThen_ok,hc,toList_toArray,hf,Option.map_none,MapKept.run_setObj_map _ hb,mpo_push]
 simp [World.putObj]
end
end
theorem findNow_str(P:Program)(a:ByteArray){ν:Type}(ve:ν->Value)[DecidableEq ByteArray]:∀ (l:List (ByteArray × ν)) (i:Nat),Instr.findNow .string (.string a) (bI (λs=>Value.string s) ve l i) i=some ((ixK a l i).map λp=>(p.1,ve p.2))
 |[],_=>rfl
 |(b,v)::l,i=>by
  have ih:=findNow_str P a ve l (i+1)
  unfold bI ixK Instr.findNow
  by_cases h:a=b
  ·rw[if_pos h]
   have:(a == b)=true:=(MapKept.bytes_beq a b).2 h
   simp only[Instr.sameNow,this];rfl
  ·rw[if_neg h]
   have:(a == b)=false:=by rw[<- Bool.not_eq_true];exact λe=>h ((MapKept.bytes_beq a b).1 e)
   simp only[Instr.sameNow,this]
   exact ih
def strKB(P:Program)(K:TypeId):Bool:=match P.underlying K with
 |some .string=>true
 |_=>false
theorem keyOk_str{P:Program}{K:TypeId}(h:strKB P K=true)[DecidableEq ByteArray]:KeyOk P K (λs:ByteArray=>Value.string s):=by
 have hk:P.underlying K=some .string:=by
  unfold strKB at h
  split at h
  ·rename_i e;exact e
  ·cases h
 exact ⟨λe a w=>MapKept.run_checkKey (k:=.string a) hk trivial e 9999,λve l a w=>MapKept.run_findKey hk (findNow_str P a ve l 0)⟩
theorem run_cks{P:Program}(em:Bool)(k:IntKind){E:TypeId}{j:IntKind}(hE:P.underlying E=some (.int j))(hsz:∀ w,(sizeOf E).run P w=.ok 1 w)(n:Nat)(w:World)(ms:List Int):∀ (m i:Nat),ms.length=i+m ->
  Sem.run P (forIn (List.range' i m) PUnit.unit λf _=>do
       let a <- sizeOf E
       let b <- part E (map (Value.int k) ms).toArray (f*a)
       Instr.checkKey em (n+1) E b
       pure (ForInStep.yield PUnit.unit)) w=.ok PUnit.unit w
 |0,i,_=>by simp
 |m+1,i,h=>by
  have b1:i<ms.length:=by omega
  have ih:=run_cks em k hE hsz n w ms m (i+1) (by omega)
  have hck:∀ z:Int,(Instr.checkKey em (n+1) E (.int k z)).run P w=.ok () w:=λz=>by
   unfold Instr.checkKey
   simp [run_underlying hE]
  simp only[range'_succ,forIn_cons,Sem.run_bind,hsz w,Result.andThen_ok,Nat.mul_one,lK hE (getElem?_eq_getElem b1),hck,Sem.run_pure,ih]
theorem findAsk_arr{P:Program}{K:TypeId}{n:Nat}(h:eqaB P K=some n)(k:IntKind){κ ν:Type}[DecidableEq κ](f:κ->List Int)(hl:∀ a,(f a).length=n)(hi:∀ a b,f a=f b->a=b)(ve:ν->Value)(a:κ)(w:World):∀ (l:List (κ × ν)) (i:Nat),
  (Instr.findAsking K (.agg ((f a).map (Value.int k)).toArray) (bI (λa=>.agg ((f a).map (Value.int k)).toArray) ve l i) i).run P w=.ok ((ixK a l i).map λp=>(p.1,ve p.2)) w
 |[],i=>by simp [bI,Instr.findAsking,ixK]
 |(b,v)::l,i=>by
  have ih:=findAsk_arr h k f hl hi ve a w l (i+1)
  have e:=(run_eqA h k (f a) (f b) (hl a) (hl b) w).1
  unfold bI ixK Instr.findAsking
  simp only[Sem.run_bind,e,Result.andThen_ok]
  by_cases hab:a=b
  ·subst hab
   simp
  ·have:f a≠f b:=λe=>hab (hi a b e)
   rw[if_neg hab]
   simp [this,ih]
theorem eqa_of{P:Program}{T:TypeId}{n:Nat}(h:eqaB P T=some n):∃ E j i,P.underlying T=some (.array n E)/\P.underlying E=some (.int j)/\P.info? E=some i/\i.size=1:=by
 unfold eqaB at h
 split at h
 ·rename_i m E hT
  split at h
  ·rename_i j i hE hi
   split at h
   ·rename_i hq
    simp only[Bool.and_eq_true,Bool.not_eq_true'] at hq
    injection h with h;subst h
    exact ⟨E,j,i,hT,hE,hi,Nat.eq_of_beq_eq_true hq.1⟩
   ·cases h
  ·cases h
 ·cases h
theorem keyOk_arr{P:Program}{K:TypeId}{n:Nat}(h:eqaB P K=some n)(k:IntKind){κ:Type}[DecidableEq κ](f:κ->List Int)(hl:∀ a,(f a).length=n)(hi:∀ a b,f a=f b->a=b):KeyOk P K (λa=>Value.agg ((f a).map (Value.int k)).toArray):=by
 obtain ⟨E,j,i,h1,h2,h3,h4⟩:=eqa_of h
 refine ⟨λe a w=>?_,λve l a w=>?_⟩
 ·have hs:∀ w,(sizeOf E).run P w=.ok 1 w:=λw=>by simp [sizeOf,typeInfo,h3,h4]
  have hr:=run_cks (P:=P) e k h2 hs 9998 w (f a) n 0 (by rw[hl];omega)
  unfold Instr.checkKey
  simp only[Sem.run_bind,run_underlying h1,Result.andThen_ok]
  have hr2:=hr
  simp at hr2 ⊢
  rw[hr2];rfl
 ·cases l with
  |nil=>simp [Instr.findKey,bI,Instr.findNow,run_underlying h1,ixK]
  |cons p l=>
   obtain ⟨b,v⟩:=p
   have hn:Instr.findNow (.array n E) (.agg ((f a).map (Value.int k)).toArray) (bI (λa=>Value.agg ((f a).map (Value.int k)).toArray) ve ((b,v)::l) 0) 0=none:=by
    unfold bI Instr.findNow
    rfl
   have:=findAsk_arr h k f hl hi ve a w ((b,v)::l) 0
   simp only[Instr.findKey,Sem.run_bind,run_underlying h1,Result.andThen_ok,hn]
   exact this
section
variable {P:Program} {o:Oper} {S:Nat->SV} {κ ν:Type} [DecidableEq κ] {ke:κ->Value} {ve:ν->Value} {l:List (κ × ν)} {T K E:TypeId} {k:Nat}
theorem odd_map{w:World}{D:kV}{β:kX}{ob:Obj}{b:Nat}(h:uE w D β k [.mo ob])(hb:β k=some b):w.heap[b]?=some ob/\Obj.isMp ob=true/\∀ t o,¬ D t b o:=by
 rcases h with (⟨_,h⟩ | ⟨b',ob',h1,h2,h3,h4,h5⟩) | ⟨b',vs,T,h1,h2,h3,h4,_⟩
 ·cases h
 ·rw[hb] at h1;injection h1 with h1;subst h1
  injection h4 with h4;injection h4 with h4;subst h4
  exact ⟨h2,h3,h5⟩
 ·obtain ⟨u,_,_,h⟩:=h4 0 _ rfl
  exact h.elim
theorem e_getK{x y:Operand}{z:Value}{a:κ}{ok:Bool}(ho:o.op=.lookup T x y ok)(hT:mapKB P T=some (K,E))(hK:KeyOk P K ke)(hz:zeroVm P E=some z)(hx:ev S x=.mp k)(hy:∀ (w:World) (D:kV) (β:kX) (v:Value),kZ w D β v (ev S y)->v=ke a) :
  uP P o S [(k,[.mo (vG ke ve l)])] (.d (if ok then .tup [.val (((xR l a).map ve).getD z),.val (.bool (xR l a).isSome)] else .val (((xR l a).map ve).getD z))) :=
 uP.same λw0 w D β hop hrd=>by
  have h1:=hop x (by simp [ho,Op.operands])
  have h2:=hop y (by simp [ho,Op.operands])
  rw[hx] at h1
  obtain ⟨b,hb,e1⟩:=h1
  have e2:=hy w D β _ h2
  obtain ⟨g1,_,_⟩:=odd_map (hrd (k,[.mo (vG ke ve l)]) (by simp)) hb
  refine ⟨_,by simp only[execOp,ho,e1,e2,Sem.run_bind,run_getK hT hK hz g1 a ok,Result.andThen_ok];rfl,?_⟩
  cases ok with
  |true=>exact uS.tup [_,_] rfl (λi v d hv hd=>by
    match i with
    |0=>simp at hv hd;subst hv;subst hd;exact .val _
    |1=>simp at hv hd;subst hv;subst hd;exact .val _
    |i+2=>simp at hv)
  |false=>exact uS.val _
theorem t_insK{x y z:Operand}{a:κ}{v:ν}(ho:o.op=.mapUpdate T x y z)(hT:mapKB P T=some (K,E))(hK:KeyOk P K ke)(hx:ev S x=.mp k)(hy:∀ (w:World) (D:kV) (β:kX) (u:Value),kZ w D β u (ev S y)->u=ke a)(hz:∀ (w:World) (D:kV) (β:kX) (u:Value),kZ w D β u (ev S z)->u=ve v)(hn:xR l a=none) :
  TOk P o S k [.mo (vG ke ve l)] [.mo (vG ke ve (l++[(a,v)]))]:=λw0 w D β Q hop hb hD=>by
 have h1:=hop x (by simp [ho,Op.operands])
 have h2:=hop y (by simp [ho,Op.operands])
 have h3:=hop z (by simp [ho,Op.operands])
 rw[hx] at h1
 obtain ⟨b,hkb,e1⟩:=h1
 have e2:=hy w D β _ h2
 have e3:=hz w D β _ h3
 obtain ⟨g1,g2,g3⟩:=odd_map hb hkb
 have hlt:=qW g1
 have hrun:(execOp w0.eval o).run P w=.ok .skip (w.putObj b (vG ke ve (l++[(a,v)]))):=by
  simp only[execOp,ho,e1,e2,e3,Sem.run_bind,run_insK hT hK g1 a v hn,Result.andThen_ok];rfl
 refine wp_skip_ hrun ⟨rfl,b,hkb,⟨rfl,rfl,rfl,by simp [World.putObj],λj hj=>World.putObj_heap_other hj,λvs T f h=>by rw[g1] at h;injection h with h;cases h⟩,g3,.inl (.inr ⟨b,_,hkb,World.putObj_heap_same hlt,rfl,rfl,g3⟩)⟩
theorem n_mapK(ke:κ->Value)(ve:ν->Value)(b:Nat)(ho:o.op=.makeMap T none):NOk P o S b [.mo (vG ke ve [])] (.mp b):=λw0 w D β Q hop hD=>by
 have hrun:(execOp w0.eval o).run P w=.ok (.value (.map (some w.heap.size))) (w.alloc (.map #[] 0)):=by
  simp [execOp,ho,Instr.makeMap]
 have hb:Below w.heap.size w (w.alloc (.map #[] 0)):=(Below.refl _ _).alloc (Nat.le_refl _) _
 have hnd:∀ t o,¬ D t w.heap.size o:=λt o hd=>Nat.lt_irrefl _ (hD.lt t _ o hd)
 refine cF hrun ⟨_,D,w.heap.size,rfl,hb,aJ.of_same D,Nat.le_refl _,by simp,hnd,.inl (.inr ⟨w.heap.size,_,by simp [kX.set],World.alloc_heap_new w _,rfl,rfl,hnd⟩),⟨w.heap.size,by simp [kX.set],rfl⟩⟩
end
section
variable {P:Program} {S:SL} {B:BS} {o:Oper} {x y z:Operand} {k:Nat} {T K E:TypeId} {κ ν:Type} [DecidableEq κ] {ke:κ->Value} {ve:ν->Value} {l:List (κ × ν)}
theorem oMm(b:Nat)(ke:κ->Value)(ve:ν->Value)(ho:o.op=.makeMap T none:=by exact rfl):NOk P o (kD S) b [.mo (vG ke ve [])] (.mp b):=n_mapK ke ve b ho
theorem oGm(hT:mapKB P T=some (K,E))(hK:KeyOk P K ke){zv:Value}(hz:zeroVm P E=some zv)(a:κ){d:jY}(hd:∀ (w:World) (D:kV) (v:Value),uS w D v d->v=ke a)(ho:o.op=.lookup T x y true:=by exact rfl)(hx:ev (kD S) x=.mp k:=by exact rfl)(hy:ev (kD S) y=.d d:=by exact rfl)(hb:kC B k=some [.mo (vG ke ve l)]:=by exact rfl) :
  ROk P o S B k (.d (.tup [.val (((xR l a).map ve).getD zv),.val (.bool (xR l a).isSome)])) :=
 ⟨_,by
  have h:=e_getK (P:=P) (S:=kD S) (ve:=ve) (l:=l) (a:=a) ho hT hK hz hx (λw D β v h=>by rw[hy] at h;exact hd w D v h)
  simpa using h,hb⟩
theorem oIm(hT:mapKB P T=some (K,E))(hK:KeyOk P K ke)(a:κ)(v:ν){d e:jY}(hd:∀ (w:World) (D:kV) (u:Value),uS w D u d->u=ke a)(he:∀ (w:World) (D:kV) (u:Value),uS w D u e->u=ve v)(hn:xR l a=none)(ho:o.op=.mapUpdate T x y z:=by exact rfl)(hx:ev (kD S) x=.mp k:=by exact rfl)(hy:ev (kD S) y=.d d:=by exact rfl)(hz:ev (kD S) z=.d e:=by exact rfl)(hb:kC B k=some [.mo (vG ke ve l)]:=by exact rfl) :
  TK P o S B k [.mo (vG ke ve (l++[(a,v)]))] :=
 ⟨_,t_insK (a:=a) (v:=v) ho hT hK hx (λw D β u h=>by rw[hy] at h;exact hd w D u h) (λw D β u h=>by rw[hz] at h;exact he w D u h) hn,hb⟩
end
section
variable {P:Program} {S:SL} {B:BS} {o:Oper} {x y:Operand} {k:Nat} {T:TypeId}
theorem oLf{α:Type}{F:α->jY}{L:List α}{s i n:Nat}(hs:qD P T=some (true,n))(j:Nat)(d:α)(c:jY)(ho:o.op=.load T x:=by exact rfl)(hx:ev (kD S) x=.ref k (j*s+i):=by exact rfl)(hb:kC B k=some (uD F L):=by exact rfl)(hF:∀ g,(F g).cells.length=s:=by intro g;kernel_rfl)(hi:Nat.ble (i+n) s=true:=by kernel_rfl)
  (hG:gF true ((((F (L.getD j d)).cells.drop i).take n).map SV.d)=.d c:=by kernel_rfl) (h1:j<L.length:=by first|omega|(dsimp only;omega)|(simp only[length_set,length_replicate,length_map];omega)):ROk P o S B k (.d c):=by
 have hi2:i+n<=s:=Nat.le_of_ble_eq_true hi
 have hrm:=bxs_room (s:=s) h1
 have hb1:(uD F L).length=L.length*s:=by unfold uD;rw[length_map,bxs_flen hF]
 have h:=oC (P:=P) (cs:=uD F L) ho hx hs (λh=>by cases h) (by rw[hb1];omega) (mM _)
 have e:((uD F L).drop (j*s+i)).take n=(((F (L.getD j d)).cells.drop i).take n).map SV.d:=by
  apply ext_getElem?
  intro r
  rw[getElem?_take,getElem?_map,getElem?_take]
  split
  ·rw[getElem?_drop,getElem?_drop,Nat.add_assoc]
   unfold uD
   rw[getElem?_map,bxs_cell hF d h1 (by omega)]
  ·rfl
 rw[e,hG] at h
 exact ⟨_,h,hb⟩
end
def SV.low:SV->Bool
 |.d _=>true
 |.own j _ _ _=>Nat.beq j 0
 |.ref j _=>Nat.beq j 0
 |.junk=>true
 |_=>false
theorem kZ.low{w:World}{D:kV}{β β':kX}{v:Value}{x:SV}(h0:β' 0=β 0)(hx:x.low=true)(h:kZ w D β v x):kZ w D β' v x:=by
 cases x with
 |d x=>exact h
 |own j t s n=>
  have e:j=0:=Nat.eq_of_beq_eq_true hx
  subst e
  rcases h with ⟨k1,k2⟩ | ⟨b,cap,vs,k1,k2⟩
  ·exact .inl ⟨h0.trans k1,k2⟩
  ·exact .inr ⟨b,cap,vs,h0.trans k1,k2⟩
 |ref j o=>
  have e:j=0:=Nat.eq_of_beq_eq_true hx
  subst e
  obtain ⟨b,k1,k2⟩:=h
  exact ⟨b,h0.trans k1,k2⟩
 |junk=>trivial
 |_=>cases hx
section
variable {P:Program} {S S':SL} {B:BS}
end
section
variable {α:Type} {F:α->jY}
variable {P:Program} {S S':SL} {B:BS}
end
theorem uE.take{w:World}{D:kV}{β:kX}{k n:Nat}{cs:List SV}(h:uE w D β k cs)(hm:yC cs=false):uE w D β k (cs.take n):=by
 rcases h with h | ⟨b,vs,T,g1,g2,g3,g4,g5⟩
 ·obtain ⟨h1,h2⟩:=h.cells hm
  subst h2;exact .inl (.inl ⟨h1,by simp⟩)
 ·refine .inr ⟨b,vs,T,g1,g2,by rw[length_take];omega,λi x hx=>?_,g5⟩
  rw[getElem?_take] at hx
  split at hx
  ·exact g4 i x hx
  ·cases hx
theorem NOk.take{P:Program}{o:Oper}{S:Nat->SV}{k:Nat}{cs:List SV}{x:SV}(n:Nat)(h:NOk P o S k cs x)(hm:yC cs=false):NOk P o S k (cs.take n) x:=λa w D β Q hop hD=>
 Oper.wp_mono (λa' w' ⟨v,D',b,h1,h2,h3,h4,h5,h6,h7,h8⟩=>⟨v,D',b,h1,h2,h3,h4,h5,h6,h7.take hm,h8⟩) (h a w D β Q hop hD)
section
variable {P:Program} {n:Fr} {ops:Array Oper} {C:Ctx}
theorem steps_sound2{st st':PS}{l l2:List Oper}(h:Steps P n ops st l st')(hp:l.all yZ=true)(hn:C.n=n){N:Nat}{Q:Exit->Act->World->Prop}(hk:∀ a' w',dQ C a' w' st'->wpListIn (fen n) N P ops Q l2 a' w'):∀ {a:Act} {w:World},dQ C a w st->wpListIn (fen n) N P ops Q (l++l2) a w:=by
 induction h with
 |nil=>intro a w hs;exact hk a w hs
 |cons h hr ih=>
  intro a w hs
  simp only[all_cons,Bool.and_eq_true] at hp
  refine wpListIn_step λK hK=>?_
  have h1:=step_sound h hn hs (Q:=Q) λa' w' hs'=>hK a' w' (ih hp.2 hk hs')
  split
  ·rename_i e;rw[if_pos e] at h1;exact oD hp.1 h1
  ·rename_i e;rw[if_neg e] at h1;exact ⟨λ_ _=>trivial,h1⟩
end
section
variable {P:Program} {n:Fr} {S0:SL} {B0:BS}
end
section
variable {P:Program} {S S':SL} {B B':BS} {o:Oper}
end
end Go.Fid
