/- Part 23 of a proof: rules, plain facts, and functions walked. -/
import Derived.Test.YtnajallgoaiahaaGreatDoorM22
import Derived.Test.YtnajallgoaiahaaGreatDoorM7
import Derived.Test.YtnajallgoaiahaaGreatDoorM11
import Derived.Test.YtnajallgoaiahaaGreatDoorM19
set_option linter.unusedVariables false
set_option linter.unusedSimpArgs false
set_option maxRecDepth 4000
namespace Go.Fid
open Go.RowKit (Below)
def aggOf(s:Nat)(u:Nat→Value):Value:=.agg ((List.range s).map u).toArray
structure BacksS (P:Program) (fB fI:FuncId) (T:TypeId) (s:Nat):Prop where
 call:∀ (a:Option Addr) (len cap:Nat) (w:World),Calls P fB #[.slice a len cap] w fun e w'=>e=.returned (.func (.func fI) #[] #[.pointer (some ⟨w.heap.size,0,none⟩)])∧w'=w.alloc (.cells #[.slice a len cap] T)
 empty:∀ (N l b cap:Nat) (ao:Option Addr) (J:World→Prop) (W:World),W.cell? ⟨b,0,none⟩=some (.slice ao 0 cap)→J W →
  CallsIn Fence.wide (N+1) P fI #[.func (.yield l) #[] #[],.pointer (some ⟨b,0,none⟩)] W fun e W'=>(∃ v,e=.returned v)∧J W'
 rounds:∀ (N l c b off len cap:Nat) (u:Nat→Nat→Value),(len:Int)≤9223372036854775807→∀ (J:Nat→World→Prop) (Jx:World→Prop),
  (∀ j W,J j W→W.cell? ⟨c,0,none⟩=some (.slice (some ⟨b,off,none⟩) len cap)∧∀ i,i<len→∀ r,r<s→W.cell? ⟨b,off+(i*s+r),none⟩=some (u i r)) →
  (∀ j W,J j W→j<len→YieldAt Fence.wide N P l #[.int .i64 ((len:Int)-1-(j:Int)),aggOf s (u (len-1-j))] W fun e W'=>(e=.returned (.bool true)∧J (j+1) W')∨(e=.returned (.bool false)∧Jx W')) →
  ∀ W,J 0 W→CallsIn Fence.wide (N+1) P fI #[.func (.yield l) #[] #[],.pointer (some ⟨c,0,none⟩)] W fun e W'=>(∃ v,e=.returned v)∧(J len W'∨Jx W')
 enters:∀ args w,(callFunc fI args).run P w=.ok (.enter fI args) w
section
variable {C:iG} {a a':Act} {w w':World} {st:PS} {D:qZ} {β:qS}
variable {P:Program} {n:Fr} {fB fI:FuncId} {T:TypeId} {S:SL} {B:BS} {Q:Exit→PS→Prop} {α:Type}
end
section
variable {P:Program} {o:Oper} {S:Nat→SV} {x:Operand} {k T s n:Nat} {d:jZ}
end
section
variable {P:Program} {o:Oper} {S:Nat→SV}
end
abbrev VBlk:=Nat × List SV × List jZ
inductive VArgs (bl:List VBlk):List Nat→List (List jZ)→Prop
 |nil:VArgs bl [] []
 |cons {k:Nat} {c:List SV} {cs:List jZ} {ks:List Nat} {css:List (List jZ)} (hk:(k,c,cs)∈bl) (h:VArgs bl ks css):VArgs bl (k::ks) (cs::css)
theorem VArgs.len{bl:List VBlk}{ks:List Nat}{css:List (List jZ)}(h:VArgs bl ks css):ks.length=css.length:=by
 induction h with
 |nil=>rfl
 |cons hk h ih=>simp [ih]
theorem VArgs.get{bl:List VBlk}{ks:List Nat}{css:List (List jZ)}(h:VArgs bl ks css):∀ (i:Nat) k cs,ks[i]?=some k→css[i]?=some cs→∃ c,(k,c,cs)∈bl:=by
 induction h with
 |nil=>intro i k cs h;simp at h
 |cons hk h ih=>
  intro i k cs h1 h2
  rcases i with _ | i
  ·simp at h1 h2;subst h1;subst h2;exact ⟨_,hk⟩
  ·exact ih i k cs (by simpa using h1) (by simpa using h2)
inductive See (bl:List VBlk) (E:TypeId):SV→jZ→Prop
 |d {x:jZ}:See bl E (.d x) x
 |r {k o:Nat} {c:List SV} {cs:List jZ} (hk:(k,c,cs)∈bl):See bl E (.ref k o) (.cptr E cs o)
 |s {k n s:Nat} {t:TypeId} {c:List SV} {cs es:List jZ} (hk:(k,c,cs)∈bl) (hes:∀ e∈es,e.cells.length=s) (hl:es.length=n) (hc:cs.take (n*s)=qJ es):See bl E (.own k t s n) (.sl E s es)
 |x {k o b:Nat} {c:List SV} {cs:List jZ} (hk:(k,c,cs)∈bl):See bl E (.refx k o b) (.cptr E cs o)
 |f {g:FuncId} {ks:List Nat} {css:List (List jZ)} (hk:VArgs bl ks css):See bl E (.clo g ks) (.clo g (css.map fun cs=>.cptr E cs 0))
inductive Sees (bl:List VBlk) (E:TypeId):List SV→List jZ→Prop
 |nil:Sees bl E [] []
 |cons {x:SV} {d:jZ} {c:List SV} {cs:List jZ} (h:See bl E x d) (hr:Sees bl E c cs):Sees bl E (x::c) (d::cs)
 |all {c:List SV} {cs:List jZ} (h:c=cs.map SV.d):Sees bl E c cs
theorem Sees.len{bl:List VBlk}{E:TypeId}{c:List SV}{cs:List jZ}(h:Sees bl E c cs):c.length=cs.length:=by
 induction h with
 |nil=>rfl
 |cons h hr ih=>simp [ih]
 |all h=>subst h;simp
theorem Sees.get{bl:List VBlk}{E:TypeId}{c:List SV}{cs:List jZ}(h:Sees bl E c cs):∀ (i:Nat) x d,c[i]?=some x→cs[i]?=some d→See bl E x d:=by
 induction h with
 |nil=>intro i x d h;simp at h
 |cons h hr ih=>
  intro i x d h1 h2
  rcases i with _ | i
  ·simp at h1 h2;subst h1;subst h2;exact h
  ·exact ih i x d (by simpa using h1) (by simpa using h2)
 |all h=>
  intro i x d h1 h2
  subst h
  rw[List.getElem?_map,h2] at h1
  simp at h1;subst h1;exact .d
theorem uV{α:Type}{bl:List VBlk}{E k s n:Nat}{t:TypeId}{c:List SV}{F:α→jZ}{L:List α}(hk:(k,c,qJ (L.map F))∈bl)(hF:∀ x,(F x).cells.length=s)(hl:L.length=n):See bl E (.own k t s n) (.sl E s (L.map F)) :=
 .s hk (map_celllen F hF L) (by simpa using hl) (by
  refine List.take_of_length_le ?_
  rw[cO F hF,hl]
  exact Nat.le_refl _)
theorem aC{α:Type}{bl:List VBlk}{E:TypeId}{F:α→jZ}{L:List α}(hF:∀ x,(F x).cells=[F x]):Sees bl E (L.map fun g=>SV.d (F g)) (qJ (L.map F)):=by
 refine .all ?_
 induction L with
 |nil=>rfl
 |cons x L ih=>simp only[List.map_cons,dT,hF,List.singleton_append,ih]
inductive VBlks (E:TypeId):List VBlk→Prop
 |nil:VBlks E []
 |cons {k:Nat} {c:List SV} {cs:List jZ} {bl:List VBlk} (h:Sees bl E c cs) (hr:VBlks E bl):VBlks E ((k,c,cs)::bl)
def SeenB(w:World)(D':qZ)(β:qS)(E:TypeId)(p:VBlk):Prop :=
 (β p.1=none→p.2.2=[])∧∀ b,β p.1=some b→(∀ i,D' E b i)∧∃ us T',w.heap[b]?=some (.cells us T' (0,0))∧∀ (j:Nat) d,p.2.2[j]?=some d→∃ u,us[j]?=some u∧u.oneCell'=true∧vW w D' u d
section
variable {w:World} {D D':qZ} {β:qS} {bl:List VBlk} {E:TypeId}
theorem seen_ptr{k o:Nat}{c:List SV}{cs:List jZ}{v:Value}(hb:SeenB w D' β E (k,c,cs))(hv:qP w D β v (.ref k o)):vW w D' v (.cptr E cs o):=by
 obtain ⟨b,h1,h2⟩:=hv
 obtain ⟨hD,us,T',g2,g4⟩:=hb.2 b h1
 rw[h2]
 have hcell:∀ i,w.cell? ⟨b,i,none⟩=us[i]?:=fun i=>cell_of_row w b i us T' (0,0) g2
 have hp:=vW.cptr (w:=w) (D:=D') (t:=E) (cs:=cs) (off:=o) b 0 (fun i=>us.getD i undef) (fun i hi=>hD _) (fun i hi=>by
  obtain ⟨x,q1,q2,q3⟩:=g4 i _ (List.getElem?_eq_getElem hi)
  rw[Nat.zero_add,hcell,Array.getD_eq_getD_getElem?,q1];rfl) (fun i hi=>by
  obtain ⟨x,q1,q2,q3⟩:=g4 i _ (List.getElem?_eq_getElem hi)
  rw[Array.getD_eq_getD_getElem?,q1];exact q2) (fun i d hd=>by
  obtain ⟨x,q1,q2,q3⟩:=g4 i d hd
  rw[Array.getD_eq_getD_getElem?,q1]
  exact q3)
 rw[Nat.zero_add] at hp
 exact hp
theorem see_rep(hm:∀ t g i,D t g i→D' t g i)(hB:∀ p∈bl,SeenB w D' β E p){x:SV}{d:jZ}(h:See bl E x d){v:Value}(hv:qP w D β v x):vW w D' v d:=by
 cases h with
 |d=>exact vW.mono (fun t g i hd=>⟨hm _ _ _ hd,rfl⟩) hv
 |r hk=>exact seen_ptr (hB _ hk) hv
 |x hk=>exact seen_ptr (D:=D) (hB _ hk) ⟨_,hv.1,hv.2⟩
 |s hk hes hl hc=>
  rename_i k n s t c cs es
  rcases hv with ⟨h1,h2,h3⟩ | ⟨b,cap,vs,h1,h2,h3,h4,h5,h6⟩
  ·have hn:es=[]:=List.eq_nil_of_length_eq_zero (by rw[hl,h2])
   subst hn
   rw[h3];exact aF w D' E s
  ·obtain ⟨hD,us,T',g2,g4⟩:=(hB _ hk).2 b h1
   rw[h2]
   have hfl:=xD hes
   have hcell:∀ i,w.cell? ⟨b,i,none⟩=us[i]?:=fun i=>cell_of_row w b i us T' (0,0) g2
   have key:∀ (i:Nat) d,(qJ es)[i]?=some d→∃ u,us[0+i]?=some u∧u.oneCell'=true∧vW w D' u d:=fun i d hd=>by
    have hi:i<n*s:=by
     have:=(List.getElem?_eq_some_iff.1 hd).1
     rw[hfl,hl] at this;exact this
    have e1:cs[i]?=some d:=by
     rw[← hc,List.getElem?_take_of_lt hi] at hd
     exact hd
    rw[Nat.zero_add]
    exact g4 _ d e1
   refine vW.sl b 0 (fun i=>us.getD (0+i) undef) hl.symm h5 h6 hes (fun _=>rfl) (fun i hi=>hD _) (fun i hi=>?_) (fun i hi=>?_) (fun i d hd=>?_)
   ·obtain ⟨x,q1,q2,q3⟩:=key i _ (List.getElem?_eq_getElem hi)
    rw[hcell,Array.getD_eq_getD_getElem?,q1];rfl
   ·obtain ⟨x,q1,q2,q3⟩:=key i _ (List.getElem?_eq_getElem hi)
    rw[Array.getD_eq_getD_getElem?,q1];exact q2
   ·obtain ⟨x,q1,q2,q3⟩:=key i d hd
    rw[Array.getD_eq_getD_getElem?,q1]
    exact q3
 |f hk=>
  obtain ⟨us,e1,e2,e3⟩:=hv
  rw[e1]
  refine .clo us (by rw[e2,hk.len,List.length_map]) fun j u d hu hd=>?_
  rw[List.getElem?_map,Option.map_eq_some_iff] at hd
  obtain ⟨cs,hcs,rfl⟩:=hd
  have hlt:j<_:=(List.getElem?_eq_some_iff.1 hcs).1
  rw[← hk.len] at hlt
  obtain ⟨b,g1,g2⟩:=e3 j _ (List.getElem?_eq_getElem hlt)
  rw[hu] at g2
  injection g2 with g2
  obtain ⟨c,hc⟩:=hk.get j _ cs (List.getElem?_eq_getElem hlt) hcs
  exact seen_ptr (D:=D) (o:=0) (hB _ hc) ⟨b,g1,g2⟩
theorem blks_seen(hm:∀ t g i,D t g i→D' t g i)(hX:∀ p∈bl,∀ b,β p.1=some b→∀ i,D' E b i)(hbl:∀ p∈bl,vO w D β p.1 p.2.1)(h:VBlks E bl):∀ p∈bl,SeenB w D' β E p:=by
 induction h with
 |nil=>intro p hp;simp at hp
 |@cons k c cs bl h hr ih=>
  have ih':=ih (fun p hp=>hX p (.tail _ hp)) (fun p hp=>hbl p (.tail _ hp))
  intro p hp
  rcases List.mem_cons.1 hp with rfl | hp
  ·rcases hbl (k,c,cs) (.head _) with ⟨g1,g2⟩ | ⟨b,us,T',g1,g2,g3,g4,g5⟩
   ·refine ⟨fun _=>?_,fun b hb=>?_⟩
    ·have:=h.len
     have g2:c=[]:=g2
     rw[g2] at this
     exact List.eq_nil_of_length_eq_zero this.symm
    ·rw[show β k=none from g1] at hb;cases hb
   ·refine ⟨fun hn=>absurd hn (by rw[show β k=some b from g1];simp),fun b' hb=>?_⟩
    obtain rfl:b=b':=by rw[show β k=some b from g1] at hb;injection hb
    refine ⟨hX _ (.head _) _ hb,us,T',g2,fun j d hd=>?_⟩
    have hlt:j<c.length:=by rw[h.len];exact (List.getElem?_eq_some_iff.1 hd).1
    obtain ⟨u,e1,e2,e3⟩:=g4 j _ (List.getElem?_eq_getElem hlt)
    exact ⟨u,e1,e2,see_rep hm ih' (h.get j _ d (List.getElem?_eq_getElem hlt) hd) e3⟩
  ·exact ih' p hp
end
section
variable {P:Program} {o:Oper} {S:Nat→SV}
theorem fnv_run{w:World}{D:qZ}{β:qS}{a:Act}{y:Operand}{args:List Operand}{ats:Array TypeId}{ex:List SV}{f:FuncId}(hop:∀ q∈o.op.operands,qP w D β (a.eval q) (ev S q))(ho:o.op=.call { callee:=.value y,args:=args.toArray,argTypes:=ats })
  (hm:callB P f=true) (hy:FnV S y f ex):∃ us:List Value,(execOp a.eval o).run P w=.ok (.enter f (args.map a.eval++us).toArray) w∧us.length=ex.length∧∀ (i:Nat) v x,us[i]?=some v→ex[i]?=some x→qP w D β v x:=by
 have hyv:=hop y (by simp [ho,Op.operands,Call.operands])
 cases hy with
 |fn h=>
  rw[h] at hyv
  have hv:=xQ hyv
  refine ⟨[],?_,rfl,fun i v x h=>by simp at h⟩
  simp only[execOp,ho,resolve,Deferred.ofValue,hv,Sem.run_bind,Sem.run_pure,Result.andThen_ok,invoke,Array.empty_append,Array.append_empty]
  rw[xI hm]
  simp
 |@clo kk _ h he=>
  rw[h] at hyv
  obtain ⟨vs,hv1,hv2,hv3⟩:=hyv
  refine ⟨vs,?_,by rw[← he];simpa using hv2,fun i v x hvi hxi=>?_⟩
  ·simp only[execOp,ho,resolve,Deferred.ofValue,hv1,Sem.run_bind,Sem.run_pure,Result.andThen_ok,invoke,Array.empty_append]
   rw[xI hm]
   simp
  ·rw[← he,List.getElem?_map,Option.map_eq_some_iff] at hxi
   obtain ⟨k,hk,rfl⟩:=hxi
   obtain ⟨b,g1,g2⟩:=hv3 i k hk
   rw[hvi] at g2
   injection g2 with g2
   exact ⟨b,g1,g2⟩
 |@dat caps _ h he=>
  rw[h] at hyv
  generalize hq:a.eval y=q at hyv
  cases hyv with
  |clo vs hl hr=>
   refine ⟨vs,?_,by rw[← he];simpa using hl,fun i v x hvi hxi=>?_⟩
   ·simp only[execOp,ho,resolve,Deferred.ofValue,hq,Sem.run_bind,Sem.run_pure,Result.andThen_ok,invoke,Array.empty_append]
    rw[xI hm]
    simp
   ·rw[← he,List.getElem?_map,Option.map_eq_some_iff] at hxi
    obtain ⟨k,hk,rfl⟩:=hxi
    exact hr i v k hvi hk
theorem e_clh{y:Operand}{xs:List Operand}{ats:Array TypeId}{f:FuncId}{ds:List jZ}{r:jZ}{zs ex:List SV}{E:TypeId}{bl:List VBlk}(hf:jS P f ds r)(ho:o.op=.call { callee:=.value y,args:=xs.toArray,argTypes:=ats })(hy:FnV S y f ex)
  (hx:xs.map (ev S)++ex=zs) (hz:Sees bl E zs ds) (hb:VBlks E bl) (ha:yW E r):vR P o S (bl.map fun p=>(p.1,p.2.1)) (.d r) :=
 fun a w D β Q hop hrd hD=>by
  obtain ⟨us,hrun,hul,hur⟩:=fnv_run hop ho hf.may hy
  have uO:(xs.map a.eval++us).length=zs.length:=by
   rw[← hx];simp [hul]
  have hrep:∀ (i:Nat) v x,(xs.map a.eval++us)[i]?=some v→zs[i]?=some x→qP w D β v x:=fun i v x hv hz'=>by
   rw[← hx] at hz'
   by_cases hlt:i<xs.length
   ·rw[List.getElem?_append_left (by simpa using hlt)] at hv hz'
    rw[List.getElem?_map,Option.map_eq_some_iff] at hv
    obtain ⟨p,hqi,rfl⟩:=hv
    have hm:=hop p (by simp [ho,Op.operands,Call.operands,List.mem_of_getElem? hqi])
    rw[List.getElem?_map,hqi,Option.map_some,Option.some.injEq] at hz'
    rw[← hz'];exact hm
   ·rw[List.getElem?_append_right (by simpa using hlt)] at hv hz'
    simp only[List.length_map] at hv hz'
    exact hur _ v _ hv hz'
  have hbl:∀ p∈bl,vO w D β p.1 p.2.1:=fun p hp=>hrd (p.1,p.2.1) (List.mem_map_of_mem (f:=fun p:VBlk=>(p.1,p.2.1)) hp)
  let X:TypeId→Nat→Nat→Prop:=fun t g _=>t=E∧∃ p∈bl,β p.1=some g
  have hXp:∀ t g i,X t g i→t=E∧∀ t' i',¬ D t' g i':=fun t g i ⟨h1,p,hp,hb⟩=>by
   rcases hbl p hp with ⟨g1,_⟩ | ⟨b',us,T',g1,g2,g3,g4,g5⟩
   ·rw[hb] at g1;cases g1
   ·obtain rfl:g=b':=by rw[hb] at g1;injection g1
    exact ⟨h1,g5⟩
  have hD':DOk (fun t g i=>D t g i∨X t g i) w:=fun t g i hd=>by
   rcases hd with hd | ⟨_,p,hp,hb⟩
   ·exact hD _ _ _ hd
   ·obtain ⟨vs,T,f',hh⟩:=bF (hbl p hp) hb
    exact vB hh
  have hm:∀ t g i,D t g i→(D t g i∨X t g i):=fun t g i hd=>.inl hd
  have hseen:=blks_seen (D':=fun t g i=>D t g i∨X t g i) hm (fun p hp b hb i=>.inr ⟨rfl,p,hp,hb⟩) hbl hb
  have hargs:Args w (fun t g i=>D t g i∨X t g i) (xs.map a.eval++us) ds:=⟨uO.trans hz.len,fun i v d hv hd=>by
   have hlt:i<zs.length:=by rw[hz.len];exact (List.getElem?_eq_some_iff.1 hd).1
   exact see_rep hm hseen (hz.get i _ d (List.getElem?_eq_getElem hlt) hd) (hrep i v _ hv (List.getElem?_eq_getElem hlt))⟩
  refine mD hrun ((hf.run w _ _ hD' hargs).mono fun e w' h=>?_)
  obtain ⟨v,D2,he,h1,h2,h3⟩:=h
  refine ⟨v,he,v,fun t g i=>D2 t g i∧¬ X t g i,rfl,h1,⟨fun t g i hd=>⟨h2.up _ _ _ (.inl hd),fun hx'=>(hXp t g i hx').2 t i hd⟩,fun t g i hd=>?_⟩,?_⟩
  ·rcases h2.new t g i hd.1 with h | h
   ·rcases h with h | h
    ·exact .inl h
    ·exact absurd h hd.2
   ·exact .inr h
  ·exact ha.rep (fun t g i hne hd=>⟨hd,fun hx'=>hne (hXp t g i hx').1⟩) h3
end
theorem oCh{P:Program}{o:Oper}{S:SL}{B:BS}{y:Operand}{xs:List Operand}{ats:Array TypeId}{f:FuncId}{ds:List jZ}{r:jZ}{ex:List SV}(bl:List VBlk)(zs:List SV)(hf:jS P f ds r)(hz:Sees bl 1000000 zs ds)(hv:VBlks 1000000 bl)(ha:yW 1000000 r)
  (ho:o.op=.call { callee:=.value y,args:=xs.toArray,argTypes:=ats }:=by exact rfl) (hy:FnV (kY S) y f ex:=by first | exact .fn (by kernel_rfl) | exact .clo (by kernel_rfl) (by kernel_rfl) | exact .dat (by kernel_rfl) (by kernel_rfl)) (hx:xs.map (ev (kY S))++ex=zs:=by kernel_rfl)
  (hb:bl.map (fun p=>kN B p.1)=bl.map (fun p=>some p.2.1):=by kernel_rfl) {ks:List Nat} (hks:bl.map (·.1)=ks:=by exact rfl):RKs P o S B ks (.d r):=by
 refine ⟨bl.map fun p=>(p.1,p.2.1),by rw[List.map_map];exact hks,e_clh hf ho hy hx hz hv ha,fun p hp=>?_⟩
 obtain ⟨q,hq,rfl⟩:=List.mem_map.1 hp
 exact List.map_inj_left.1 hb q hq
section
variable {P:Program} {n:Fr} {ops:Array Oper} {K:SL→BS→Prop} {S:SL} {B:BS} {l:List Oper} {o:Oper} {news:List Nat} {acc0:List (List Nat × List Nat)}
end
theorem pwp_fix{P:Program}{n:Fr}{c:Code}{Q:Exit→PS→Prop}{S:SL}{B:BS}(j:Nat){k o:Nat}(hj:kN B j=some [.ref k o]:=by kernel_rfl)(h:∀ b,qM P n c Q ⟨S,(j,some [.refx k o b])::B⟩):qM P n c Q ⟨S,B⟩:=fun C a w N hn ⟨D,β,hs⟩=>by
 obtain ⟨b,hb⟩:∃ b,β k=some b:=by
  rcases hs.mem.ok _ _ hj with ⟨_,e⟩ | ⟨_,vs,T,_,_,_,g4,_⟩
  ·cases e
  ·obtain ⟨u,_,_,b,e3,_⟩:=g4 0 _ rfl
   exact ⟨b,e3⟩
 have conv:∀ {i c},kN ((j,some [SV.refx k o b])::B) i=some c→∃ c',kN B i=some c':=fun {i c} hi=>by
  rw[jR] at hi
  split at hi
  ·rename_i e;subst e;exact ⟨_,hj⟩
  ·exact ⟨_,hi⟩
 refine h b C a w N hn ⟨D,β,hs.base,⟨fun i c hi=>?_,fun i1 i2 c1 c2 q1 q2=>?_⟩,fun i c hi=>?_,hs.slots⟩
 ·rw[jR] at hi
  split at hi
  ·rename_i e;subst e
   injection hi with hi;subst hi
   rcases hs.mem.ok _ _ hj with ⟨_,e⟩ | ⟨b2,vs,T,g1,g2,g3,g4,g5⟩
   ·cases e
   ·refine .inr ⟨b2,vs,T,g1,g2,g3,fun q x hx=>?_,g5⟩
    cases q with
    |zero=>
     simp only[List.getElem?_cons_zero,Option.some.injEq] at hx
     subst hx
     obtain ⟨u,e1,e2,b3,e3,e4⟩:=g4 0 _ rfl
     rw[hb] at e3
     injection e3 with e3
     subst e3
     exact ⟨u,e1,e2,hb,e4⟩
    |succ q=>simp at hx
  ·exact hs.mem.ok i c hi
 ·obtain ⟨d1,g1⟩:=conv q1
  obtain ⟨d2,g2⟩:=conv q2
  exact hs.mem.inj i1 i2 d1 d2 g1 g2
 ·obtain ⟨d1,g1⟩:=conv hi
  exact hs.high i d1 g1
theorem oLx{P:Program}{o:Oper}{S:SL}{B:BS}{T:TypeId}{x:Operand}{k j q b:Nat}(hs:uF P T=some (false,1))(ho:o.op=.load T x:=by exact rfl)(hx:ev (kY S) x=.ref k 0:=by exact rfl)(hb:kN B k=some [.refx j q b]:=by exact rfl):ROk P o S B k (.ref j q):=by
 obtain ⟨cs,h,e⟩:=qX (P:=P) (o:=o) (S:=S) (B:=B) (off:=0) (k:=k) (cs:=[.refx j q b]) hs ho hx hb (by rfl)
 exact ⟨cs,h.weaken fun w D β v hv=>⟨b,hv.1,hv.2⟩,e⟩
section
variable {P:Program} {n:Fr} {ops:Array Oper} {K:SL→BS→Prop} {S:SL} {B:BS} {l:List Oper} {o:Oper} {α:Type} {T E t':TypeId} {x y:Operand} {k s m bytes:Nat} {zv:List Value}
variable {news:List Nat} {acc0:List (List Nat × List Nat)}
theorem wAS(k':Nat)(F:α→jZ)(L L':List α)(hL:L.length=m)(hT:xC P T=some (E,s))(hz:yM P E=some zv)(hby:gM P E=some bytes)(r:DK P n ops K (k'::news) (acc0++[([k],[k',k])]) ((dO o,.own k' E s (L++L').length)::S) ((k',some (qB F (L++L')))::(k,none)::B) l)
  (ho:o.op=.call { callee:=.builtin .append,args:=#[x,y],argTypes:=#[T,T] }:=by exact rfl) (g:goK n ops S o=true:=by kernel_rfl) (hx:ev (kY S) x=.own k E s m:=by exact rfl) (hb:kN B k=some (qB F L):=by kernel_rfl) (hy:ev (kY S) y=.d (.sl t' s (L'.map F)):=by exact rfl) (hF:∀ g,(F g).cells.length=s:=by intro g;kernel_rfl) (hzl:zv.length=s:=by kernel_rfl)
  (hpos:Nat.blt 0 L'.length=true:=by kernel_rfl) (hbig:m+L'.length≤maxLen:=by first | (simp only[List.length_cons,List.length_nil,maxLen];omega) | (simp [maxLen];omega)) (hbig':(m+L'.length)*bytes≤140737488355328:=by first | omega | (simp only[List.length_cons,List.length_nil];omega) | (simp;omega))
  (hne:Nat.beq k k'=false:=by kernel_rfl) (h1:(S.all fun p=>!p.2.names k')=true:=by kernel_rfl)
  (h2:FrB k' B:=by repeat first | exact frb_nil _ | refine frb_map rfl ?_ | refine frb_d rfl ?_ | refine frb_cs rfl rfl ?_ | refine frb_none rfl ?_) (hn:clear1 news (.own k' E s 0)=true:=by kernel_rfl):DK P n ops K news acc0 S B (o::l):=by
 obtain ⟨st1,acc,r1,r0,r2⟩:=r
 obtain ⟨hd,hg,hdB⟩:=gB g
 have h:=app_local (P:=P) (o:=o) (S:=kY S) (k:=k) (k':=k') (cs:=qB F L) (es':=L'.map F) ho hT hz hzl hby hx (mS k' id _) (by rw[List.length_map,cO F hF,hL]) hy (by rw[List.length_map];exact Nat.le_of_ble_eq_true hpos) (by simpa using hbig) (by simpa using hbig')
 have e1:qB F L++(qJ (L'.map F)).map .d=qB F (L++L'):=by
  show (qJ (L.map F)).map SV.d++(qJ (L'.map F)).map SV.d=(qJ ((L++L').map F)).map SV.d
  rw[List.map_append,aI,List.map_append]
 have e2:m+(L'.map F).length=(L++L').length:=by rw[List.length_map,List.length_append,hL]
 rw[e1,e2] at h
 have hs:=mN.a (P:=P) (n:=n) (ops:=ops) (news:=news) (st:=⟨S,B⟩) (o:=o) h hg (by rw[hd];exact hdB) hb (freshB_of h1 h2) (iE hne) hn (clearL_map _ id _)
 rw[hd] at hs
 exact ⟨st1,([k],[k',k])::acc,.cons hs r1,by simpa using r0,r2⟩
end
def xn(p q j:Nat):Nat:=if j=p then q else if j=q then p else j
theorem xn_xn(p q j:Nat):xn p q (xn p q j)=j:=by
 unfold xn
 by_cases h1:j=p
 ·subst h1
  by_cases h2:q=j
  ·subst h2;simp
  ·simp [h2]
 ·by_cases h2:j=q
  ·subst h2
   simp [h1]
  ·simp [h1,h2]
theorem yZ{P:Program}{f:FuncId}{xs:List SV}{B:BS}{r:SV}{B' B2:BS}(p q:Nat)(h:vS P f xs B r B')(hB:B2.map (fun e=>(e.1,e.2.map fun c=>c.map (SV.ren (xn p q))))=B'.map (fun e=>(xn p q e.1,e.2)))(hr:r.ren (xn p q)=r)(hx:(xs.all fun x=>!x.pins p&&!x.pins q)=true):vS P f xs B r B2 :=
 ⟨h.may,fun w D β vs hD hm hl ha=>(h.run w D β vs hD hm hl ha).mono fun e w' ⟨v,D',β',he,s⟩=>by
  have hinv:(fun j=>(fun k=>β' (xn p q k)) (xn p q j))=β':=funext fun j=>by show β' (xn p q (xn p q j))=β' j;rw[xn_xn]
  -- a block of B2 is a block of B' under the other number
  have key:∀ {l l':BS},l.map (fun e=>(e.1,e.2.map fun c=>c.map (SV.ren (xn p q))))=l'.map (fun e=>(xn p q e.1,e.2))→∀ {k c},kN l k=some c→kN l' (xn p q k)=some (c.map (SV.ren (xn p q))):=by
   intro l
   induction l with
   |nil=>intro l' _ k c h;simp [kN] at h
   |cons e l ih=>
    intro l' hl k c hk
    obtain ⟨j,x⟩:=e
    cases l' with
    |nil=>simp at hl
    |cons e' l'=>
     obtain ⟨j',x'⟩:=e'
     simp only[List.map_cons,List.cons.injEq,Prod.mk.injEq] at hl
     obtain ⟨⟨h1,h2⟩,h3⟩:=hl
     rw[jR] at hk
     rw[jR]
     split at hk
     ·rename_i ejk
      subst ejk
      rw[if_pos (by rw[h1,xn_xn]),← h2,hk];rfl
     ·rename_i hne
      rw[if_neg (fun e=>hne (by rw[h1,e,xn_xn]))]
      exact ih h3 hk
  have hmem:∀ {k c},kN B2 k=some c→kN B' (xn p q k)=some (c.map (SV.ren (xn p q))):=key hB
  refine ⟨v,D',fun k=>β' (xn p q k),he,s.below,s.keep,s.oth,s.up,s.new,s.dok,⟨fun k c hk=>?_,fun k1 k2 c1 c2 q1 q2 b e1 e2=>?_⟩,fun k c hk b hb=>s.high _ _ (hmem hk) b hb,fun i x hi k hk=>?_,?_⟩
  ·have:=s.mem.ok _ _ (hmem hk)
   exact (blk_ren (xn p q)).1 this
  ·have:=s.mem.inj _ _ _ _ (hmem q1) (hmem q2) b e1 e2
   rw[← xn_xn p q k1,this,xn_xn]
  ·have hall:=List.all_eq_true.1 hx x (List.mem_of_getElem? hi)
   rw[Bool.and_eq_true,Bool.not_eq_true',Bool.not_eq_true'] at hall
   have h1:k≠p:=fun e=>by subst e;rw[hk] at hall;cases hall.1
   have h2:k≠q:=fun e=>by subst e;rw[hk] at hall;cases hall.2
   show β' (xn p q k)=β k
   rw[show xn p q k=k by unfold xn;rw[if_neg h1,if_neg h2]]
   exact s.same i x hi k hk
  ·have:=s.res
   rw[← hr] at this
   exact (repS_ren (xn p q)).1 this⟩
end Go.Fid
namespace Go.Proofs.YtnajallgoaiahaaGreatDoor
open Go.Fid
theorem uK(h140:140≠1000000)(x:jO):yW 1000000 (jD x):=.agg (eM (.val _) (eM (avo_vals h140 _) (eM (.val _) (eM (avo_vals h140 _) (eM (.val _) (eM (avo_vals h140 _) (eM (.val _) (eM (avo_vals h140 _) avo_nil))))))))
theorem cb109:callB Tryz.prog 109=true:=by kernel_rfl
theorem cb180:callB Tryz.prog 180=true:=by kernel_rfl
theorem cb182:callB Tryz.prog 182=true:=by kernel_rfl
theorem cb192:callB Tryz.prog 192=true:=by kernel_rfl
theorem cb193:callB Tryz.prog 193=true:=by kernel_rfl
theorem cb196:callB Tryz.prog 196=true:=by kernel_rfl
theorem cb200:callB Tryz.prog 200=true:=by kernel_rfl
theorem cb210:callB Tryz.prog 210=true:=by kernel_rfl
theorem gl_ite{c:Prop}[Decidable c]{a b:R2}{n:Nat}(ha:GL n a)(hb:GL n b):GL n (if c then a else b):=by
 split
 ·exact ha
 ·exact hb
theorem cF(z:Int)(hz1:-9223372036854775808≤z)(hz2:z≤9223372036854775807):jS Tryz.prog 180 [(.val (.int .i64 (z)))] (jD (jP (gw z))):=by
 refine jJ Tryz.func180 rfl cb180 rfl ?_
 show qM _ _ _ _ ⟨[(0,(vi z))],[]⟩
 refine jB<|kx [(2,(.ref 0 0))] [(0,some (bx (jD (jO.mk kR kR))))] (zN (qW 0 qL qR)<|zZ) ?_
 refine jB<|kx [] [(0,some (bx (jD (jO.mk (jM ((z:Int):Rat)) (jM ((z:Int):Rat))))))] (zM<|zE (kA (f_whole z (by omega) (by omega)))<|zM<|zE (kA (f_whole z (by omega) (by omega)))<|zE (cS pl61 qL qR)<|zT (qF jY)<|zZ) ?_
 refine jG ⟨_,(kJ (cs:=(bx (jD (jO.mk (jM ((z:Int):Rat)) (jM ((z:Int):Rat)))))) (d:=(jD (jO.mk (jM ((z:Int):Rat)) (jM ((z:Int):Rat))))) rfl rfl jY rfl rfl .nil),?_⟩
 rfl
theorem j_add(a:R2)(ha:GL 67108864 a)(b:R2)(hb:GL 67108864 b):jS Tryz.prog 192 [(jD (jP a)),(jD (jP b))] (jD (jP (qU a b))):=by
 refine jJ Tryz.func192 rfl cb192 rfl ?_
 show qM _ _ _ _ ⟨[(0,(.d (jD (jP a)))),(1,(.d (jD (jP b))))],[]⟩
 refine jB<|kx [(2,(.ref 0 0)),(3,(.ref 1 0)),(4,(.ref 2 0))] [(0,some (bx (jD (jP a)))),(1,some (bx (jD (jP b)))),(2,some (bx (jD (jO.mk kR kR))))] (zN (uY 0)<|zN (uY 1)<|zN (qW 2 qL qR)<|zZ) ?_
 refine jB<|kx [(5,(.ref 3 0))] [(3,some (bx (jD (jO.mk (jM (a.1+b.1)) (jM (a.2+b.2))))))] (zR (kP jY)<|zR (kP jY)<|zE (kA (i_add a.1 a.2 b.1 b.2 (qu ha.1) (qu ha.2.1) (qu hb.1) (qu hb.2.1) ha.2.2 hb.2.2))<|zM<|zE vI<|zE vI<|zN (qW 3 qL qR)<|zT (qF jY)<|zM<|zZ) ?_
 refine jB<|kx [] [(2,some (bx (jD (jO.mk (jM (a.1+b.1)) (jM (a.2+b.2))))))] (zR (kP jY)<|zT (qF jY)<|zZ) ?_
 refine jG ⟨_,(kJ (cs:=(bx (jD (jO.mk (jM (a.1+b.1)) (jM (a.2+b.2)))))) (d:=(jD (jO.mk (jM (a.1+b.1)) (jM (a.2+b.2))))) rfl rfl jY rfl rfl .nil),?_⟩
 rfl
theorem j_sub(a:R2)(ha:GL 67108864 a)(b:R2)(hb:GL 67108864 b):jS Tryz.prog 193 [(jD (jP a)),(jD (jP b))] (jD (jP (kZ a b))):=by
 refine jJ Tryz.func193 rfl cb193 rfl ?_
 show qM _ _ _ _ ⟨[(0,(.d (jD (jP a)))),(1,(.d (jD (jP b))))],[]⟩
 refine jB<|kx [(2,(.ref 0 0)),(3,(.ref 1 0)),(4,(.ref 2 0))] [(0,some (bx (jD (jP a)))),(1,some (bx (jD (jP b)))),(2,some (bx (jD (jO.mk kR kR))))] (zN (uY 0)<|zN (uY 1)<|zN (qW 2 qL qR)<|zZ) ?_
 refine jB<|kx [(5,(.ref 3 0))] [(3,some (bx (jD (jO.mk (jM (a.1-b.2)) (jM (a.2-b.1))))))] (zR (kP jY)<|zR (kP jY)<|zE (kA (i_sub a.1 a.2 b.1 b.2 (qu ha.1) (qu ha.2.1) (qu hb.1) (qu hb.2.1) ha.2.2 hb.2.2))<|zM<|zE vI<|zE vI<|zN (qW 3 qL qR)<|zT (qF jY)<|zM<|zZ) ?_
 refine jB<|kx [] [(2,some (bx (jD (jO.mk (jM (a.1-b.2)) (jM (a.2-b.1))))))] (zR (kP jY)<|zT (qF jY)<|zZ) ?_
 refine jG ⟨_,(kJ (cs:=(bx (jD (jO.mk (jM (a.1-b.2)) (jM (a.2-b.1)))))) (d:=(jD (jO.mk (jM (a.1-b.2)) (jM (a.2-b.1))))) rfl rfl jY rfl rfl .nil),?_⟩
 rfl
theorem j_mul(a:R2)(ha:GL 67108864 a)(b:R2)(hb:GL 67108864 b):jS Tryz.prog 196 [(jD (jP a)),(jD (jP b))] (jD (jP (kO a b))):=by
 refine jJ Tryz.func196 rfl cb196 rfl ?_
 show qM _ _ _ _ ⟨[(0,(.d (jD (jP a)))),(1,(.d (jD (jP b))))],[]⟩
 refine jB<|kx [(2,(.ref 0 0)),(3,(.ref 1 0)),(4,(.ref 2 0))] [(0,some (bx (jD (jP a)))),(1,some (bx (jD (jP b)))),(2,some (bx (jD (jO.mk kR kR))))] (zN (uY 0)<|zN (uY 1)<|zN (qW 2 qL qR)<|zZ) ?_
 refine jB<|kx [(5,(.ref 3 0))] [(3,some (bx (jD (jO.mk (jM (yV (a.1*b.1) [(a.1*b.2),(a.2*b.1),(a.2*b.2)])) (jM (gJ (a.1*b.1) [(a.1*b.2),(a.2*b.1),(a.2*b.2)]))))))] (zR (kP jY)<|zR (kP jY)<|zE (kA (i_mul a.1 a.2 b.1 b.2 (qu ha.1) (qu ha.2.1) (qu hb.1) (qu hb.2.1) ha.2.2 hb.2.2))<|zM<|zE vI<|zE vI<|zN (qW 3 qL qR)<|zT (qF jY)<|zM<|zZ) ?_
 refine jB<|kx [] [(2,some (bx (jD (jO.mk (jM (yV (a.1*b.1) [(a.1*b.2),(a.2*b.1),(a.2*b.2)])) (jM (gJ (a.1*b.1) [(a.1*b.2),(a.2*b.1),(a.2*b.2)]))))))] (zR (kP jY)<|zT (qF jY)<|zZ) ?_
 refine jG ⟨_,(kJ (cs:=(bx (jD (jO.mk (jM (yV (a.1*b.1) [(a.1*b.2),(a.2*b.1),(a.2*b.2)])) (jM (gJ (a.1*b.1) [(a.1*b.2),(a.2*b.1),(a.2*b.2)])))))) (d:=(jD (jO.mk (jM (yV (a.1*b.1) [(a.1*b.2),(a.2*b.1),(a.2*b.2)])) (jM (gJ (a.1*b.1) [(a.1*b.2),(a.2*b.1),(a.2*b.2)]))))) rfl rfl jY rfl rfl .nil),?_⟩
 rfl
theorem j_sq(a:R2)(ha:GL 67108864 a):jS Tryz.prog 200 [(jD (jP a))] (jD (jP (aJ a))):=by
 refine jJ Tryz.func200 rfl cb200 rfl ?_
 show qM _ _ _ _ ⟨[(0,(.d (jD (jP a))))],[]⟩
 refine jB<|kx [(1,(.ref 0 0)),(2,(.ref 1 0))] [(0,some (bx (jD (jP a)))),(1,some (bx (jD (jO.mk kR kR))))] (zN (uY 0)<|zN (qW 1 qL qR)<|zZ) ?_
 refine jB<|kx [(3,(.ref 2 0))] [(2,some (bx (jD (jO.mk (jM (sqL a.1 a.2)) (jM (sqH a.1 a.2))))))] (zR (kP jY)<|zE (kA (i_square a.1 a.2 (qu ha.1) (qu ha.2.1) ha.2.2))<|zM<|zE vI<|zE vI<|zN (qW 2 qL qR)<|zT (qF jY)<|zM<|zZ) ?_
 refine jB<|kx [] [(1,some (bx (jD (jO.mk (jM (sqL a.1 a.2)) (jM (sqH a.1 a.2))))))] (zR (kP jY)<|zT (qF jY)<|zZ) ?_
 refine jG ⟨_,(kJ (cs:=(bx (jD (jO.mk (jM (sqL a.1 a.2)) (jM (sqH a.1 a.2)))))) (d:=(jD (jO.mk (jM (sqL a.1 a.2)) (jM (sqH a.1 a.2))))) rfl rfl jY rfl rfl .nil),?_⟩
 rfl
theorem aS(o:Int):jS Tryz.prog 182 [(.val (.int .i64 (o)))] (.val (.int .i64 ((xP o)))):=by
 refine jJ Tryz.func182 rfl cb182 rfl ?_
 show qM _ _ _ _ ⟨[(0,(vi o))],[]⟩
 refine jB<|kx [] [] (zM<|zZ) ?_
 refine jB<|jB<|kx [(3,(vi o))] [] (zM<|zZ) ?_
 refine jI<|jB<|jB<|kx [(4,(vb (o == 0)))] [] (zE xR<|zM<|zZ) ?_
 refine jH (b:=(o == 0)) rfl (fun h1=>?_) (fun h1=>?_)
 ·replace h1:=eq_of_beq h1
  refine jF<|jH rfl (fun _=>?_) (fun h=>absurd (Eq.trans (Eq.symm (show ((o == 0))=true from beq_iff_eq.2 h1)) h) (by decide))
  refine jB<|kx [(2,(jK 0))] [] (zM<|zZ) ?_
  refine jG ⟨_,(.tmp (d:=(.val (.int .i64 (0)))) rfl .nil),?_⟩
  show jZ.val (.int .i64 _)=_
  unfold xP;simp [*]
 ·replace h1:=ne_of_beq_false h1
  refine kx [(4,(vb (o == 1)))] [] (zE xR<|zM<|zZ) ?_
  refine jH (b:=(o == 1)) rfl (fun h2=>?_) (fun h2=>?_)
  ·replace h2:=eq_of_beq h2
   refine jB<|kx [(2,(jK 0))] [] (zM<|zZ) ?_
   refine jG ⟨_,(.tmp (d:=(.val (.int .i64 (0)))) rfl .nil),?_⟩
   show jZ.val (.int .i64 _)=_
   unfold xP;simp [*]
  ·replace h2:=ne_of_beq_false h2
   refine jB<|jB<|kx [(7,(vb (o == 6)))] [] (zE xR<|zM<|zZ) ?_
   refine jH (b:=(o == 6)) rfl (fun h3=>?_) (fun h3=>?_)
   ·replace h3:=eq_of_beq h3
    refine jF<|jH rfl (fun _=>?_) (fun h=>absurd (Eq.trans (Eq.symm (show ((o == 6))=true from beq_iff_eq.2 h3)) h) (by decide))
    refine jB<|kx [(2,(jK 1))] [] (zM<|zZ) ?_
    refine jG ⟨_,(.tmp (d:=(.val (.int .i64 (1)))) rfl .nil),?_⟩
    show jZ.val (.int .i64 _)=_
    unfold xP;simp [*]
   ·replace h3:=ne_of_beq_false h3
    refine kx [(7,(vb (o == 7)))] [] (zE xR<|zM<|zZ) ?_
    refine jH (b:=(o == 7)) rfl (fun h4=>?_) (fun h4=>?_)
    ·replace h4:=eq_of_beq h4
     refine jB<|kx [(2,(jK 1))] [] (zM<|zZ) ?_
     refine jG ⟨_,(.tmp (d:=(.val (.int .i64 (1)))) rfl .nil),?_⟩
     show jZ.val (.int .i64 _)=_
     unfold xP;simp [*]
    ·replace h4:=ne_of_beq_false h4
     refine jB<|jB<|kx [(10,(vb (o == 2)))] [] (zE xR<|zM<|zZ) ?_
     refine jH (b:=(o == 2)) rfl (fun h5=>?_) (fun h5=>?_)
     ·replace h5:=eq_of_beq h5
      refine jF<|jH rfl (fun _=>?_) (fun h=>absurd (Eq.trans (Eq.symm (show ((o == 2))=true from beq_iff_eq.2 h5)) h) (by decide))
      refine jB<|kx [(2,(jK 2))] [] (zM<|zZ) ?_
      refine jG ⟨_,(.tmp (d:=(.val (.int .i64 (2)))) rfl .nil),?_⟩
      show jZ.val (.int .i64 _)=_
      unfold xP;simp [*]
     ·replace h5:=ne_of_beq_false h5
      refine jB<|kx [(10,(vb (o == 3)))] [] (zE xR<|zM<|zZ) ?_
      refine jH (b:=(o == 3)) rfl (fun h6=>?_) (fun h6=>?_)
      ·replace h6:=eq_of_beq h6
       refine jF<|jH rfl (fun _=>?_) (fun h=>absurd (Eq.trans (Eq.symm (show ((o == 3))=true from beq_iff_eq.2 h6)) h) (by decide))
       refine jB<|kx [(2,(jK 2))] [] (zM<|zZ) ?_
       refine jG ⟨_,(.tmp (d:=(.val (.int .i64 (2)))) rfl .nil),?_⟩
       show jZ.val (.int .i64 _)=_
       unfold xP;simp [*]
      ·replace h6:=ne_of_beq_false h6
       refine jB<|kx [(10,(vb (o == 4)))] [] (zE xR<|zM<|zZ) ?_
       refine jH (b:=(o == 4)) rfl (fun h7=>?_) (fun h7=>?_)
       ·replace h7:=eq_of_beq h7
        refine jF<|jH rfl (fun _=>?_) (fun h=>absurd (Eq.trans (Eq.symm (show ((o == 4))=true from beq_iff_eq.2 h7)) h) (by decide))
        refine jB<|kx [(2,(jK 2))] [] (zM<|zZ) ?_
        refine jG ⟨_,(.tmp (d:=(.val (.int .i64 (2)))) rfl .nil),?_⟩
        show jZ.val (.int .i64 _)=_
        unfold xP;simp [*]
       ·replace h7:=ne_of_beq_false h7
        refine kx [(10,(vb (o == 5)))] [] (zE xR<|zM<|zZ) ?_
        refine jH (b:=(o == 5)) rfl (fun h8=>?_) (fun h8=>?_)
        ·replace h8:=eq_of_beq h8
         refine jB<|kx [(2,(jK 2))] [] (zM<|zZ) ?_
         refine jG ⟨_,(.tmp (d:=(.val (.int .i64 (2)))) rfl .nil),?_⟩
         show jZ.val (.int .i64 _)=_
         unfold xP;simp [*]
        ·replace h8:=ne_of_beq_false h8
         refine jF<|jB<|kx [(2,(vi (-1)))] [] (zM<|zZ) ?_
         refine jG ⟨_,(.tmp (d:=(.val (.int .i64 (-1)))) rfl .nil),?_⟩
         show jZ.val (.int .i64 _)=_
         unfold xP;simp [*]
theorem r_kids(o:Int):jS Tryz.prog 109 [(.val (.int .i64 (o)))] (.val (.int .i64 ((xP o)))):=by
 refine jJ Tryz.func109 rfl cb109 rfl ?_
 show qM _ _ _ _ ⟨[(0,(vi o))],[]⟩
 refine jB<|kx [] [] (zM<|zZ) ?_
 refine jB<|jB<|kx [(3,(vi o))] [] (zM<|zZ) ?_
 refine jI<|jB<|jB<|kx [(4,(vb (o == 0)))] [] (zE xR<|zM<|zZ) ?_
 refine jH (b:=(o == 0)) rfl (fun h1=>?_) (fun h1=>?_)
 ·replace h1:=eq_of_beq h1
  refine jF<|jH rfl (fun _=>?_) (fun h=>absurd (Eq.trans (Eq.symm (show ((o == 0))=true from beq_iff_eq.2 h1)) h) (by decide))
  refine jB<|kx [(2,(jK 0))] [] (zM<|zZ) ?_
  refine jG ⟨_,(.tmp (d:=(.val (.int .i64 (0)))) rfl .nil),?_⟩
  show jZ.val (.int .i64 _)=_
  unfold xP;simp [*]
 ·replace h1:=ne_of_beq_false h1
  refine kx [(4,(vb (o == 1)))] [] (zE xR<|zM<|zZ) ?_
  refine jH (b:=(o == 1)) rfl (fun h2=>?_) (fun h2=>?_)
  ·replace h2:=eq_of_beq h2
   refine jB<|kx [(2,(jK 0))] [] (zM<|zZ) ?_
   refine jG ⟨_,(.tmp (d:=(.val (.int .i64 (0)))) rfl .nil),?_⟩
   show jZ.val (.int .i64 _)=_
   unfold xP;simp [*]
  ·replace h2:=ne_of_beq_false h2
   refine jB<|jB<|kx [(7,(vb (o == 6)))] [] (zE xR<|zM<|zZ) ?_
   refine jH (b:=(o == 6)) rfl (fun h3=>?_) (fun h3=>?_)
   ·replace h3:=eq_of_beq h3
    refine jF<|jH rfl (fun _=>?_) (fun h=>absurd (Eq.trans (Eq.symm (show ((o == 6))=true from beq_iff_eq.2 h3)) h) (by decide))
    refine jB<|kx [(2,(jK 1))] [] (zM<|zZ) ?_
    refine jG ⟨_,(.tmp (d:=(.val (.int .i64 (1)))) rfl .nil),?_⟩
    show jZ.val (.int .i64 _)=_
    unfold xP;simp [*]
   ·replace h3:=ne_of_beq_false h3
    refine kx [(7,(vb (o == 7)))] [] (zE xR<|zM<|zZ) ?_
    refine jH (b:=(o == 7)) rfl (fun h4=>?_) (fun h4=>?_)
    ·replace h4:=eq_of_beq h4
     refine jB<|kx [(2,(jK 1))] [] (zM<|zZ) ?_
     refine jG ⟨_,(.tmp (d:=(.val (.int .i64 (1)))) rfl .nil),?_⟩
     show jZ.val (.int .i64 _)=_
     unfold xP;simp [*]
    ·replace h4:=ne_of_beq_false h4
     refine jB<|jB<|kx [(10,(vb (o == 2)))] [] (zE xR<|zM<|zZ) ?_
     refine jH (b:=(o == 2)) rfl (fun h5=>?_) (fun h5=>?_)
     ·replace h5:=eq_of_beq h5
      refine jF<|jH rfl (fun _=>?_) (fun h=>absurd (Eq.trans (Eq.symm (show ((o == 2))=true from beq_iff_eq.2 h5)) h) (by decide))
      refine jB<|kx [(2,(jK 2))] [] (zM<|zZ) ?_
      refine jG ⟨_,(.tmp (d:=(.val (.int .i64 (2)))) rfl .nil),?_⟩
      show jZ.val (.int .i64 _)=_
      unfold xP;simp [*]
     ·replace h5:=ne_of_beq_false h5
      refine jB<|kx [(10,(vb (o == 3)))] [] (zE xR<|zM<|zZ) ?_
      refine jH (b:=(o == 3)) rfl (fun h6=>?_) (fun h6=>?_)
      ·replace h6:=eq_of_beq h6
       refine jF<|jH rfl (fun _=>?_) (fun h=>absurd (Eq.trans (Eq.symm (show ((o == 3))=true from beq_iff_eq.2 h6)) h) (by decide))
       refine jB<|kx [(2,(jK 2))] [] (zM<|zZ) ?_
       refine jG ⟨_,(.tmp (d:=(.val (.int .i64 (2)))) rfl .nil),?_⟩
       show jZ.val (.int .i64 _)=_
       unfold xP;simp [*]
      ·replace h6:=ne_of_beq_false h6
       refine jB<|kx [(10,(vb (o == 4)))] [] (zE xR<|zM<|zZ) ?_
       refine jH (b:=(o == 4)) rfl (fun h7=>?_) (fun h7=>?_)
       ·replace h7:=eq_of_beq h7
        refine jF<|jH rfl (fun _=>?_) (fun h=>absurd (Eq.trans (Eq.symm (show ((o == 4))=true from beq_iff_eq.2 h7)) h) (by decide))
        refine jB<|kx [(2,(jK 2))] [] (zM<|zZ) ?_
        refine jG ⟨_,(.tmp (d:=(.val (.int .i64 (2)))) rfl .nil),?_⟩
        show jZ.val (.int .i64 _)=_
        unfold xP;simp [*]
       ·replace h7:=ne_of_beq_false h7
        refine kx [(10,(vb (o == 5)))] [] (zE xR<|zM<|zZ) ?_
        refine jH (b:=(o == 5)) rfl (fun h8=>?_) (fun h8=>?_)
        ·replace h8:=eq_of_beq h8
         refine jB<|kx [(2,(jK 2))] [] (zM<|zZ) ?_
         refine jG ⟨_,(.tmp (d:=(.val (.int .i64 (2)))) rfl .nil),?_⟩
         show jZ.val (.int .i64 _)=_
         unfold xP;simp [*]
        ·replace h8:=ne_of_beq_false h8
         refine jF<|jB<|kx [(2,(vi (-1)))] [] (zM<|zZ) ?_
         refine jG ⟨_,(.tmp (d:=(.val (.int .i64 (-1)))) rfl .nil),?_⟩
         show jZ.val (.int .i64 _)=_
         unfold xP;simp [*]
theorem dA{L:List JV}{N n a:Nat}(h:∀ x∈L,nF N n x)(ha:a<L.length):nF N n (L.getD a jz):=by
 rw[List.getD_eq_getElem?_getD,List.getElem?_eq_getElem ha];exact h _ (List.getElem_mem _)
def yI(N:Nat)(t:List qC):Prop:=∀ x∈t,gX x.n (qN x.n) N
theorem tn_get{N:Nat}{t:List qC}(h:yI N t){k:Nat}(hk:k<t.length):gX (t.getD k tz).n (qN (t.getD k tz).n) N:=by
 rw[List.getD_eq_getElem?_getD,List.getElem?_eq_getElem hk];exact h _ (List.getElem_mem _)
theorem tn_up{M N:Nat}{t:List qC}(h:yI M t)(hm:M≤N):yI N t:=fun x hx=>jQ (h x hx) hm
theorem j_unset(x:kF)(p:Rat)(hx:gX x p 1048576):jS Tryz.prog 210 [(jL x)] (.val (.bool ((unsB x)))):=by
 refine jJ Tryz.func210 rfl cb210 rfl ?_
 show qM _ _ _ _ ⟨[(0,(.d (jL x)))],[]⟩
 refine jB<|kx [(1,(.ref 0 0))] [(0,some (bx (jL x)))] (zN (uY 0)<|zM<|zZ) ?_
 refine jB<|kx [(2,(vb (((!x.num.neg&&!x.den.neg)&&(((x.num.gs.length:Nat):Int) == 0))&&(((x.den.gs.length:Nat):Int) == 0))))] [] ?_ ?_
 ·refine zE (qA yA)<|zE (qA xG)<|zR (qX bJ)<|zE mT<|zE (oV (vb (!x.num.neg)) (qQ (by kernel_rfl)))<|?_
  rcases hb1:(!x.num.neg) with _ | _
  ·exact zK<|zK<|zK<|zK<|zE gE<|zM<|zK<|zK<|zK<|zK<|zK<|zE gE<|zM<|zK<|zK<|zK<|zK<|zK<|zE gE<|zM<|zZ
  ·refine zE (qA xS)<|zE (qA xG)<|zR (qX bJ)<|zE mT<|zE fA<|zE (oV (vb (true&&!x.den.neg)) (qQ (by kernel_rfl)))<|?_
   rcases hb2:(true&&!x.den.neg) with _ | _
   ·exact zK<|zK<|zK<|zK<|zK<|zE gE<|zM<|zK<|zK<|zK<|zK<|zK<|zE gE<|zM<|zZ
   ·refine zE (qA yA)<|zE (qA xN)<|zR (qX yH)<|zE (zD kV)<|zE xR<|zE fA<|zE (oV (vb (true&&(((x.num.gs.length:Nat):Int) == 0))) (qQ (by kernel_rfl)))<|?_
    rcases hb3:(true&&(((x.num.gs.length:Nat):Int) == 0)) with _ | _
    ·exact zK<|zK<|zK<|zK<|zK<|zE gE<|zM<|zZ
    ·exact zE (qA xS)<|zE (qA xN)<|zR (qX yH)<|zE (zD kV)<|zE xR<|zE fA<|zM<|zZ
 refine jG ⟨_,(.tmp (d:=(.val (.bool ((((!x.num.neg&&!x.den.neg)&&(((x.num.gs.length:Nat):Int) == 0))&&(((x.den.gs.length:Nat):Int) == 0)))))) rfl .nil),?_⟩
 rfl
end Go.Proofs.YtnajallgoaiahaaGreatDoor
