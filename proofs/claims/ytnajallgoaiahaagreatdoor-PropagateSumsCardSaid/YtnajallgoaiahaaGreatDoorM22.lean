/- Part 22 of a proof: rules, plain facts, and functions walked. -/
import Derived.Test.YtnajallgoaiahaaGreatDoorM21
import Derived.Test.YtnajallgoaiahaaGreatDoorM7
import Derived.Test.YtnajallgoaiahaaGreatDoorM11
import Derived.Test.YtnajallgoaiahaaGreatDoorM18
import Derived.Test.YtnajallgoaiahaaGreatDoorM19
set_option linter.all false
set_option maxRecDepth 4000
namespace Go.Fid
section
variable {P:Program} {S:SL} {B:BS} {o:Oper} {x y:Operand} {k:Nat} {T:TypeId}
theorem bxs_flen{α:Type}{F:α→jT}{s:Nat}(hF:∀ g,(F g).cells.length=s)(L:List α):(qH (L.map F)).length=L.length*s:=by
 rw[vB (s:=s) (fun e he=>by obtain ⟨g,_,rfl⟩:=List.mem_map.1 he;exact hF g),List.length_map]
theorem bxs_cell{α:Type}{F:α→jT}{s:Nat}(hF:∀ g,(F g).cells.length=s){L:List α}{j r:Nat}(d:α)(hj:j<L.length)(hr:r<s):(qH (L.map F))[j*s+r]?=(F (L.getD j d)).cells[r]? :=
 flat_get (s:=s) (e:=F (L.getD j d)) (fun e he=>by obtain ⟨g,_,rfl⟩:=List.mem_map.1 he;exact hF g) (by simp [List.getD_eq_getElem?_getD,List.getElem?_eq_getElem hj]) hr
theorem bxs_room{j n s:Nat}(h:j<n):j*s+s≤n*s:=by
 have:=Nat.mul_le_mul_right s (show j+1≤n from h)
 rwa [Nat.add_mul,Nat.one_mul] at this
theorem bxs_cut{α:Type}{F:α→jT}{s:Nat}(hF:∀ g,(F g).cells.length=s){L:List α}{j:Nat}(d:α)(hj:j<L.length):((cC F L).drop (j*s)).take s=(F (L.getD j d)).cells.map SV.d:=by
 apply List.ext_getElem?
 intro r
 unfold cC
 rw[List.getElem?_take]
 split
 ·rename_i hr
  rw[List.getElem?_drop,List.getElem?_map,bxs_cell hF d hj hr,List.getElem?_map]
 ·rename_i hr
  rw[List.getElem?_eq_none (by rw[List.length_map,hF];omega)]
theorem oLA{α:Type}{F:α→jT}{L:List α}{s:Nat}(hs:qO P T=some (true,s))(j:Nat)(d:α)(ho:o.op=.load T x:=by exact rfl)(hx:ev (kI S) x=.ref k (j*s):=by exact rfl)(hb:kB B k=some (cC F L):=by exact rfl)(hF:∀ g,(F g).cells.length=s:=by intro g;kernel_rfl)(hG:∀ g,nH true ((F g).cells.map SV.d)=.d (F g):=by intro g;kernel_rfl)(h1:j<L.length:=by omega):ROk P o S B k (.d (F (L.getD j d))):=by
 have h:=e_load_ref (P:=P) (cs:=cC F L) ho hx hs (fun h=>by cases h) (by unfold cC;rw[List.length_map,bxs_flen hF];exact bxs_room h1)
 rw[bxs_cut hF d h1,hG] at h
 exact ⟨_,h,hb⟩
end
section
variable {P:Program} {o:Oper}
end
section
variable {P:Program}
section
variable {o:Oper} {S:Nat→SV} {T T':TypeId} {x y:Operand} {c:Nat}
end
end
open Go.RowKit (Below)
def aggOf(s:Nat)(u:Nat→Value):Value:=.agg ((List.range s).map u).toArray
structure BacksS (P:Program) (fB fI:FuncId) (T:TypeId) (s:Nat):Prop where
 call:∀ (a:Option Addr) (len cap:Nat) (w:World),Calls P fB #[.slice a len cap] w fun e w'=>e=.returned (.func (.func fI) #[] #[.pointer (some ⟨w.heap.size,0,none⟩)])∧w'=w.alloc (.cells #[.slice a len cap] T)
 empty:∀ (N l b cap:Nat) (ao:Option Addr) (J:World→Prop) (W:World),W.cell? ⟨b,0,none⟩=some (.slice ao 0 cap)→J W →
  CallsIn Fence.wide (N+1) P fI #[.func (.yield l) #[] #[],.pointer (some ⟨b,0,none⟩)] W fun e W'=>(∃ v,e=.returned v)∧J W'
 rounds:∀ (N l c b off len cap:Nat) (u:Nat→Nat→Value),(len:Int)≤9223372036854775807→∀ (J:Nat→World→Prop) (Jx:World→Prop),
  (∀ j W,J j W→W.cell? ⟨c,0,none⟩=some (.slice (some ⟨b,off,none⟩) len cap)∧∀ i,i<len→∀ r,r<s→W.cell? ⟨b,off+(i*s+r),none⟩=some (u i r)) →
  (∀ j W,J j W→j<len→YieldAt Fence.wide N P l #[.int .i64 ((len:Int)-1-(j:Int)),aggOf s (u (len-1-j))] W fun e W'=>(e=.returned (.bool true)∧J (j+1) W')∨(e=.returned (.bool false)∧Jx W')) →
  ∀ W,J 0 W→CallsIn Fence.wide (N+1) P fI #[.func (.yield l) #[] #[],.pointer (some ⟨c,0,none⟩)] W fun e W'=>(∃ v,e=.returned v)∧(J len W'∨Jx W')
 enters:∀ args w,(callFunc fI args).run P w=.ok (.enter fI args) w
section
variable {C:bT} {a a':Act} {w w':World} {st:PS} {D:qG} {β:qE}
variable {P:Program} {n:Fr} {fB fI:FuncId} {T:TypeId} {S:SL} {B:BS} {Q:Exit→PS→Prop} {α:Type}
end
section
variable {P:Program} {o:Oper} {S:Nat→SV} {x:Operand} {k T s n:Nat} {d:jT}
end
section
variable {P:Program} {o:Oper} {S:Nat→SV}
end
abbrev VBlk:=Nat × List SV × List jT
inductive VArgs (bl:List VBlk):List Nat→List (List jT)→Prop
 |nil:VArgs bl [] []
 |cons {k:Nat} {c:List SV} {cs:List jT} {ks:List Nat} {css:List (List jT)} (hk:(k,c,cs)∈bl) (h:VArgs bl ks css):VArgs bl (k::ks) (cs::css)
theorem VArgs.len{bl:List VBlk}{ks:List Nat}{css:List (List jT)}(h:VArgs bl ks css):ks.length=css.length:=by
 induction h with
 |nil=>rfl
 |cons hk h ih=>simp [ih]
theorem VArgs.get{bl:List VBlk}{ks:List Nat}{css:List (List jT)}(h:VArgs bl ks css):∀ (i:Nat) k cs,ks[i]?=some k→css[i]?=some cs→∃ c,(k,c,cs)∈bl:=by
 induction h with
 |nil=>intro i k cs h;simp at h
 |cons hk h ih=>
  intro i k cs h1 h2
  rcases i with _ | i
  ·simp at h1 h2;subst h1;subst h2;exact ⟨_,hk⟩
  ·exact ih i k cs (by simpa using h1) (by simpa using h2)
inductive See (bl:List VBlk) (E:TypeId):SV→jT→Prop
 |d {x:jT}:See bl E (.d x) x
 |r {k o:Nat} {c:List SV} {cs:List jT} (hk:(k,c,cs)∈bl):See bl E (.ref k o) (.cptr E cs o)
 |s {k n s:Nat} {t:TypeId} {c:List SV} {cs es:List jT} (hk:(k,c,cs)∈bl) (hes:∀ e∈es,e.cells.length=s) (hl:es.length=n) (hc:cs.take (n*s)=qH es):See bl E (.own k t s n) (.sl E s es)
 |x {k o b:Nat} {c:List SV} {cs:List jT} (hk:(k,c,cs)∈bl):See bl E (.refx k o b) (.cptr E cs o)
 |f {g:FuncId} {ks:List Nat} {css:List (List jT)} (hk:VArgs bl ks css):See bl E (.clo g ks) (.clo g (css.map fun cs=>.cptr E cs 0))
inductive Sees (bl:List VBlk) (E:TypeId):List SV→List jT→Prop
 |nil:Sees bl E [] []
 |cons {x:SV} {d:jT} {c:List SV} {cs:List jT} (h:See bl E x d) (hr:Sees bl E c cs):Sees bl E (x::c) (d::cs)
 |all {c:List SV} {cs:List jT} (h:c=cs.map SV.d):Sees bl E c cs
theorem Sees.len{bl:List VBlk}{E:TypeId}{c:List SV}{cs:List jT}(h:Sees bl E c cs):c.length=cs.length:=by
 induction h with
 |nil=>rfl
 |cons h hr ih=>simp [ih]
 |all h=>subst h;simp
theorem Sees.get{bl:List VBlk}{E:TypeId}{c:List SV}{cs:List jT}(h:Sees bl E c cs):∀ (i:Nat) x d,c[i]?=some x→cs[i]?=some d→See bl E x d:=by
 induction h with
 |nil=>intro i x d h;simp at h
 |cons h hr ih=>
  intro i x d h1 h2
  rcases i with _ | i
  ·simp at h1 h2;subst h1;subst h2;exact h
  ·exact ih i x d (by simpa using h1) (by simpa using h2)
 |all h=>
  intro i x d h1 h2
  subst h
  rw[List.getElem?_map,h2] at h1
  simp at h1;subst h1;exact .d
theorem fU{α:Type}{bl:List VBlk}{E k s n:Nat}{t:TypeId}{c:List SV}{F:α→jT}{L:List α}(hk:(k,c,qH (L.map F))∈bl)(hF:∀ x,(F x).cells.length=s)(hl:L.length=n):See bl E (.own k t s n) (.sl E s (L.map F)) :=
 .s hk (map_celllen F hF L) (by simpa using hl) (by
  refine List.take_of_length_le ?_
  rw[cG F hF,hl]
  exact Nat.le_refl _)
theorem sees_bm{α:Type}{bl:List VBlk}{E:TypeId}{F:α→jT}{L:List α}(hF:∀ x,(F x).cells=[F x]):Sees bl E (L.map fun g=>SV.d (F g)) (qH (L.map F)):=by
 refine .all ?_
 induction L with
 |nil=>rfl
 |cons x L ih=>simp only[List.map_cons,dP,hF,List.singleton_append,ih]
inductive VBlks (E:TypeId):List VBlk→Prop
 |nil:VBlks E []
 |cons {k:Nat} {c:List SV} {cs:List jT} {bl:List VBlk} (h:Sees bl E c cs) (hr:VBlks E bl):VBlks E ((k,c,cs)::bl)
def SeenB(w:World)(D':qG)(β:qE)(E:TypeId)(p:VBlk):Prop :=
 (β p.1=none→p.2.2=[])∧∀ b,β p.1=some b→(∀ i,D' E b i)∧∃ us T',w.heap[b]?=some (.cells us T' (0,0))∧∀ (j:Nat) d,p.2.2[j]?=some d→∃ u,us[j]?=some u∧u.oneCell'=true∧uW w D' u d
section
variable {w:World} {D D':qG} {β:qE} {bl:List VBlk} {E:TypeId}
theorem seen_ptr{k o:Nat}{c:List SV}{cs:List jT}{v:Value}(hb:SeenB w D' β E (k,c,cs))(hv:qC w D β v (.ref k o)):uW w D' v (.cptr E cs o):=by
 obtain ⟨b,h1,h2⟩:=hv
 obtain ⟨hD,us,T',g2,g4⟩:=hb.2 b h1
 rw[h2]
 have hcell:∀ i,w.cell? ⟨b,i,none⟩=us[i]?:=fun i=>cell_of_row w b i us T' (0,0) g2
 have hp:=uW.cptr (w:=w) (D:=D') (t:=E) (cs:=cs) (off:=o) b 0 (fun i=>us.getD i undef) (fun i hi=>hD _) (fun i hi=>by
  obtain ⟨x,q1,q2,q3⟩:=g4 i _ (List.getElem?_eq_getElem hi)
  rw[Nat.zero_add,hcell,Array.getD_eq_getD_getElem?,q1];rfl) (fun i hi=>by
  obtain ⟨x,q1,q2,q3⟩:=g4 i _ (List.getElem?_eq_getElem hi)
  rw[Array.getD_eq_getD_getElem?,q1];exact q2) (fun i d hd=>by
  obtain ⟨x,q1,q2,q3⟩:=g4 i d hd
  rw[Array.getD_eq_getD_getElem?,q1]
  exact q3)
 rw[Nat.zero_add] at hp
 exact hp
theorem see_rep(hm:∀ t g i,D t g i→D' t g i)(hB:∀ p∈bl,SeenB w D' β E p){x:SV}{d:jT}(h:See bl E x d){v:Value}(hv:qC w D β v x):uW w D' v d:=by
 cases h with
 |d=>exact uW.mono (fun t g i hd=>⟨hm _ _ _ hd,rfl⟩) hv
 |r hk=>exact seen_ptr (hB _ hk) hv
 |x hk=>exact seen_ptr (D:=D) (hB _ hk) ⟨_,hv.1,hv.2⟩
 |s hk hes hl hc=>
  rename_i k n s t c cs es
  rcases hv with ⟨h1,h2,h3⟩ | ⟨b,cap,vs,h1,h2,h3,h4,h5,h6⟩
  ·have hn:es=[]:=List.eq_nil_of_length_eq_zero (by rw[hl,h2])
   subst hn
   rw[h3];exact fZ w D' E s
  ·obtain ⟨hD,us,T',g2,g4⟩:=(hB _ hk).2 b h1
   rw[h2]
   have hfl:=vB hes
   have hcell:∀ i,w.cell? ⟨b,i,none⟩=us[i]?:=fun i=>cell_of_row w b i us T' (0,0) g2
   have key:∀ (i:Nat) d,(qH es)[i]?=some d→∃ u,us[0+i]?=some u∧u.oneCell'=true∧uW w D' u d:=fun i d hd=>by
    have hi:i<n*s:=by
     have:=(List.getElem?_eq_some_iff.1 hd).1
     rw[hfl,hl] at this;exact this
    have e1:cs[i]?=some d:=by
     rw[← hc,List.getElem?_take_of_lt hi] at hd
     exact hd
    rw[Nat.zero_add]
    exact g4 _ d e1
   refine uW.sl b 0 (fun i=>us.getD (0+i) undef) hl.symm h5 h6 hes (fun _=>rfl) (fun i hi=>hD _) (fun i hi=>?_) (fun i hi=>?_) (fun i d hd=>?_)
   ·obtain ⟨x,q1,q2,q3⟩:=key i _ (List.getElem?_eq_getElem hi)
    rw[hcell,Array.getD_eq_getD_getElem?,q1];rfl
   ·obtain ⟨x,q1,q2,q3⟩:=key i _ (List.getElem?_eq_getElem hi)
    rw[Array.getD_eq_getD_getElem?,q1];exact q2
   ·obtain ⟨x,q1,q2,q3⟩:=key i d hd
    rw[Array.getD_eq_getD_getElem?,q1]
    exact q3
 |f hk=>
  obtain ⟨us,e1,e2,e3⟩:=hv
  rw[e1]
  refine .clo us (by rw[e2,hk.len,List.length_map]) fun j u d hu hd=>?_
  rw[List.getElem?_map,Option.map_eq_some_iff] at hd
  obtain ⟨cs,hcs,rfl⟩:=hd
  have hlt:j<_:=(List.getElem?_eq_some_iff.1 hcs).1
  rw[← hk.len] at hlt
  obtain ⟨b,g1,g2⟩:=e3 j _ (List.getElem?_eq_getElem hlt)
  rw[hu] at g2
  injection g2 with g2
  obtain ⟨c,hc⟩:=hk.get j _ cs (List.getElem?_eq_getElem hlt) hcs
  exact seen_ptr (D:=D) (o:=0) (hB _ hc) ⟨b,g1,g2⟩
theorem blks_seen(hm:∀ t g i,D t g i→D' t g i)(hX:∀ p∈bl,∀ b,β p.1=some b→∀ i,D' E b i)(hbl:∀ p∈bl,uO w D β p.1 p.2.1)(h:VBlks E bl):∀ p∈bl,SeenB w D' β E p:=by
 induction h with
 |nil=>intro p hp;simp at hp
 |@cons k c cs bl h hr ih=>
  have ih':=ih (fun p hp=>hX p (.tail _ hp)) (fun p hp=>hbl p (.tail _ hp))
  intro p hp
  rcases List.mem_cons.1 hp with rfl | hp
  ·rcases hbl (k,c,cs) (.head _) with ⟨g1,g2⟩ | ⟨b,us,T',g1,g2,g3,g4,g5⟩
   ·refine ⟨fun _=>?_,fun b hb=>?_⟩
    ·have:=h.len
     have g2:c=[]:=g2
     rw[g2] at this
     exact List.eq_nil_of_length_eq_zero this.symm
    ·rw[show β k=none from g1] at hb;cases hb
   ·refine ⟨fun hn=>absurd hn (by rw[show β k=some b from g1];simp),fun b' hb=>?_⟩
    obtain rfl:b=b':=by rw[show β k=some b from g1] at hb;injection hb
    refine ⟨hX _ (.head _) _ hb,us,T',g2,fun j d hd=>?_⟩
    have hlt:j<c.length:=by rw[h.len];exact (List.getElem?_eq_some_iff.1 hd).1
    obtain ⟨u,e1,e2,e3⟩:=g4 j _ (List.getElem?_eq_getElem hlt)
    exact ⟨u,e1,e2,see_rep hm ih' (h.get j _ d (List.getElem?_eq_getElem hlt) hd) e3⟩
  ·exact ih' p hp
end
section
variable {P:Program} {o:Oper} {S:Nat→SV}
theorem fnv_run{w:World}{D:qG}{β:qE}{a:Act}{y:Operand}{args:List Operand}{ats:Array TypeId}{ex:List SV}{f:FuncId}(hop:∀ q∈o.op.operands,qC w D β (a.eval q) (ev S q))(ho:o.op=.call { callee:=.value y,args:=args.toArray,argTypes:=ats })
  (hm:callB P f=true) (hy:FnV S y f ex):∃ us:List Value,(execOp a.eval o).run P w=.ok (.enter f (args.map a.eval++us).toArray) w∧us.length=ex.length∧∀ (i:Nat) v x,us[i]?=some v→ex[i]?=some x→qC w D β v x:=by
 have hyv:=hop y (by simp [ho,Op.operands,Call.operands])
 cases hy with
 |fn h=>
  rw[h] at hyv
  have hv:=vE hyv
  refine ⟨[],?_,rfl,fun i v x h=>by simp at h⟩
  simp only[execOp,ho,resolve,Deferred.ofValue,hv,Sem.run_bind,Sem.run_pure,Result.andThen_ok,invoke,Array.empty_append,Array.append_empty]
  rw[vF hm]
  simp
 |@clo kk _ h he=>
  rw[h] at hyv
  obtain ⟨vs,hv1,hv2,hv3⟩:=hyv
  refine ⟨vs,?_,by rw[← he];simpa using hv2,fun i v x hvi hxi=>?_⟩
  ·simp only[execOp,ho,resolve,Deferred.ofValue,hv1,Sem.run_bind,Sem.run_pure,Result.andThen_ok,invoke,Array.empty_append]
   rw[vF hm]
   simp
  ·rw[← he,List.getElem?_map,Option.map_eq_some_iff] at hxi
   obtain ⟨k,hk,rfl⟩:=hxi
   obtain ⟨b,g1,g2⟩:=hv3 i k hk
   rw[hvi] at g2
   injection g2 with g2
   exact ⟨b,g1,g2⟩
 |@dat caps _ h he=>
  rw[h] at hyv
  generalize hq:a.eval y=q at hyv
  cases hyv with
  |clo vs hl hr=>
   refine ⟨vs,?_,by rw[← he];simpa using hl,fun i v x hvi hxi=>?_⟩
   ·simp only[execOp,ho,resolve,Deferred.ofValue,hq,Sem.run_bind,Sem.run_pure,Result.andThen_ok,invoke,Array.empty_append]
    rw[vF hm]
    simp
   ·rw[← he,List.getElem?_map,Option.map_eq_some_iff] at hxi
    obtain ⟨k,hk,rfl⟩:=hxi
    exact hr i v k hvi hk
theorem e_clh{y:Operand}{xs:List Operand}{ats:Array TypeId}{f:FuncId}{ds:List jT}{r:jT}{zs ex:List SV}{E:TypeId}{bl:List VBlk}(hf:jQ P f ds r)(ho:o.op=.call { callee:=.value y,args:=xs.toArray,argTypes:=ats })(hy:FnV S y f ex)
  (hx:xs.map (ev S)++ex=zs) (hz:Sees bl E zs ds) (hb:VBlks E bl) (ha:yC E r):uN P o S (bl.map fun p=>(p.1,p.2.1)) (.d r) :=
 fun a w D β Q hop hrd hD=>by
  obtain ⟨us,hrun,hul,hur⟩:=fnv_run hop ho hf.may hy
  have qU:(xs.map a.eval++us).length=zs.length:=by
   rw[← hx];simp [hul]
  have hrep:∀ (i:Nat) v x,(xs.map a.eval++us)[i]?=some v→zs[i]?=some x→qC w D β v x:=fun i v x hv hz'=>by
   rw[← hx] at hz'
   by_cases hlt:i<xs.length
   ·rw[List.getElem?_append_left (by simpa using hlt)] at hv hz'
    rw[List.getElem?_map,Option.map_eq_some_iff] at hv
    obtain ⟨p,hqi,rfl⟩:=hv
    have hm:=hop p (by simp [ho,Op.operands,Call.operands,List.mem_of_getElem? hqi])
    rw[List.getElem?_map,hqi,Option.map_some,Option.some.injEq] at hz'
    rw[← hz'];exact hm
   ·rw[List.getElem?_append_right (by simpa using hlt)] at hv hz'
    simp only[List.length_map] at hv hz'
    exact hur _ v _ hv hz'
  have hbl:∀ p∈bl,uO w D β p.1 p.2.1:=fun p hp=>hrd (p.1,p.2.1) (List.mem_map_of_mem (f:=fun p:VBlk=>(p.1,p.2.1)) hp)
  let X:TypeId→Nat→Nat→Prop:=fun t g _=>t=E∧∃ p∈bl,β p.1=some g
  have hXp:∀ t g i,X t g i→t=E∧∀ t' i',¬ D t' g i':=fun t g i ⟨h1,p,hp,hb⟩=>by
   rcases hbl p hp with ⟨g1,_⟩ | ⟨b',us,T',g1,g2,g3,g4,g5⟩
   ·rw[hb] at g1;cases g1
   ·obtain rfl:g=b':=by rw[hb] at g1;injection g1
    exact ⟨h1,g5⟩
  have hD':DOk (fun t g i=>D t g i∨X t g i) w:=fun t g i hd=>by
   rcases hd with hd | ⟨_,p,hp,hb⟩
   ·exact hD _ _ _ hd
   ·obtain ⟨vs,T,f',hh⟩:=aT (hbl p hp) hb
    exact uE hh
  have hm:∀ t g i,D t g i→(D t g i∨X t g i):=fun t g i hd=>.inl hd
  have hseen:=blks_seen (D':=fun t g i=>D t g i∨X t g i) hm (fun p hp b hb i=>.inr ⟨rfl,p,hp,hb⟩) hbl hb
  have hargs:Args w (fun t g i=>D t g i∨X t g i) (xs.map a.eval++us) ds:=⟨qU.trans hz.len,fun i v d hv hd=>by
   have hlt:i<zs.length:=by rw[hz.len];exact (List.getElem?_eq_some_iff.1 hd).1
   exact see_rep hm hseen (hz.get i _ d (List.getElem?_eq_getElem hlt) hd) (hrep i v _ hv (List.getElem?_eq_getElem hlt))⟩
  refine nO hrun ((hf.run w _ _ hD' hargs).mono fun e w' h=>?_)
  obtain ⟨v,D2,he,h1,h2,h3⟩:=h
  refine ⟨v,he,v,fun t g i=>D2 t g i∧¬ X t g i,rfl,h1,⟨fun t g i hd=>⟨h2.up _ _ _ (.inl hd),fun hx'=>(hXp t g i hx').2 t i hd⟩,fun t g i hd=>?_⟩,?_⟩
  ·rcases h2.new t g i hd.1 with h | h
   ·rcases h with h | h
    ·exact .inl h
    ·exact absurd h hd.2
   ·exact .inr h
  ·exact ha.rep (fun t g i hne hd=>⟨hd,fun hx'=>hne (hXp t g i hx').1⟩) h3
end
theorem oCh{P:Program}{o:Oper}{S:SL}{B:BS}{y:Operand}{xs:List Operand}{ats:Array TypeId}{f:FuncId}{ds:List jT}{r:jT}{ex:List SV}(bl:List VBlk)(zs:List SV)(hf:jQ P f ds r)(hz:Sees bl 1000000 zs ds)(hv:VBlks 1000000 bl)(ha:yC 1000000 r)
  (ho:o.op=.call { callee:=.value y,args:=xs.toArray,argTypes:=ats }:=by exact rfl) (hy:FnV (kI S) y f ex:=by first | exact .fn (by kernel_rfl) | exact .clo (by kernel_rfl) (by kernel_rfl) | exact .dat (by kernel_rfl) (by kernel_rfl)) (hx:xs.map (ev (kI S))++ex=zs:=by kernel_rfl)
  (hb:bl.map (fun p=>kB B p.1)=bl.map (fun p=>some p.2.1):=by kernel_rfl) {ks:List Nat} (hks:bl.map (·.1)=ks:=by exact rfl):RKs P o S B ks (.d r):=by
 refine ⟨bl.map fun p=>(p.1,p.2.1),by rw[List.map_map];exact hks,e_clh hf ho hy hx hz hv ha,fun p hp=>?_⟩
 obtain ⟨q,hq,rfl⟩:=List.mem_map.1 hp
 exact List.map_inj_left.1 hb q hq
section
variable {P:Program} {n:Fr} {ops:Array Oper} {K:SL→BS→Prop} {S:SL} {B:BS} {l:List Oper} {o:Oper} {news:List Nat} {acc0:List (List Nat × List Nat)}
end
theorem pwp_fix{P:Program}{n:Fr}{c:Code}{Q:Exit→PS→Prop}{S:SL}{B:BS}(j:Nat){k o:Nat}(hj:kB B j=some [.ref k o]:=by kernel_rfl)(h:∀ b,qK P n c Q ⟨S,(j,some [.refx k o b])::B⟩):qK P n c Q ⟨S,B⟩:=fun C a w N hn ⟨D,β,hs⟩=>by
 obtain ⟨b,hb⟩:∃ b,β k=some b:=by
  rcases hs.mem.ok _ _ hj with ⟨_,e⟩ | ⟨_,vs,T,_,_,_,g4,_⟩
  ·cases e
  ·obtain ⟨u,_,_,b,e3,_⟩:=g4 0 _ rfl
   exact ⟨b,e3⟩
 have conv:∀ {i c},kB ((j,some [SV.refx k o b])::B) i=some c→∃ c',kB B i=some c':=fun {i c} hi=>by
  rw[jM] at hi
  split at hi
  ·rename_i e;subst e;exact ⟨_,hj⟩
  ·exact ⟨_,hi⟩
 refine h b C a w N hn ⟨D,β,hs.base,⟨fun i c hi=>?_,fun i1 i2 c1 c2 q1 q2=>?_⟩,fun i c hi=>?_,hs.slots⟩
 ·rw[jM] at hi
  split at hi
  ·rename_i e;subst e
   injection hi with hi;subst hi
   rcases hs.mem.ok _ _ hj with ⟨_,e⟩ | ⟨b2,vs,T,g1,g2,g3,g4,g5⟩
   ·cases e
   ·refine .inr ⟨b2,vs,T,g1,g2,g3,fun q x hx=>?_,g5⟩
    cases q with
    |zero=>
     simp only[List.getElem?_cons_zero,Option.some.injEq] at hx
     subst hx
     obtain ⟨u,e1,e2,b3,e3,e4⟩:=g4 0 _ rfl
     rw[hb] at e3
     injection e3 with e3
     subst e3
     exact ⟨u,e1,e2,hb,e4⟩
    |succ q=>simp at hx
  ·exact hs.mem.ok i c hi
 ·obtain ⟨d1,g1⟩:=conv q1
  obtain ⟨d2,g2⟩:=conv q2
  exact hs.mem.inj i1 i2 d1 d2 g1 g2
 ·obtain ⟨d1,g1⟩:=conv hi
  exact hs.high i d1 g1
theorem oLx{P:Program}{o:Oper}{S:SL}{B:BS}{T:TypeId}{x:Operand}{k j q b:Nat}(hs:qO P T=some (false,1))(ho:o.op=.load T x:=by exact rfl)(hx:ev (kI S) x=.ref k 0:=by exact rfl)(hb:kB B k=some [.refx j q b]:=by exact rfl):ROk P o S B k (.ref j q):=by
 obtain ⟨cs,h,e⟩:=qS (P:=P) (o:=o) (S:=S) (B:=B) (off:=0) (k:=k) (cs:=[.refx j q b]) hs ho hx hb (by rfl)
 exact ⟨cs,h.weaken fun w D β v hv=>⟨b,hv.1,hv.2⟩,e⟩
section
variable {P:Program} {n:Fr} {ops:Array Oper} {K:SL→BS→Prop} {S:SL} {B:BS} {l:List Oper} {o:Oper} {α:Type} {T E t':TypeId} {x y:Operand} {k s m bytes:Nat} {zv:List Value}
variable {news:List Nat} {acc0:List (List Nat × List Nat)}
theorem wAS(k':Nat)(F:α→jT)(L L':List α)(hL:L.length=m)(hT:vA P T=some (E,s))(hz:zJ P E=some zv)(hby:yI P E=some bytes)(r:DK P n ops K (k'::news) (acc0++[([k],[k',k])]) ((dO o,.own k' E s (L++L').length)::S) ((k',some (cC F (L++L')))::(k,none)::B) l)
  (ho:o.op=.call { callee:=.builtin .append,args:=#[x,y],argTypes:=#[T,T] }:=by exact rfl) (g:goK n ops S o=true:=by kernel_rfl) (hx:ev (kI S) x=.own k E s m:=by exact rfl) (hb:kB B k=some (cC F L):=by kernel_rfl) (hy:ev (kI S) y=.d (.sl t' s (L'.map F)):=by exact rfl) (hF:∀ g,(F g).cells.length=s:=by intro g;kernel_rfl) (hzl:zv.length=s:=by kernel_rfl)
  (hpos:Nat.blt 0 L'.length=true:=by kernel_rfl) (hbig:m+L'.length≤maxLen:=by first | (simp only[List.length_cons,List.length_nil,maxLen];omega) | (simp [maxLen];omega)) (hbig':(m+L'.length)*bytes≤140737488355328:=by first | omega | (simp only[List.length_cons,List.length_nil];omega) | (simp;omega))
  (hne:Nat.beq k k'=false:=by kernel_rfl) (h1:(S.all fun p=>!p.2.names k')=true:=by kernel_rfl)
  (h2:FrB k' B:=by repeat first | exact frb_nil _ | refine frb_map rfl ?_ | refine frb_d rfl ?_ | refine frb_cs rfl rfl ?_ | refine frb_none rfl ?_) (hn:clear1 news (.own k' E s 0)=true:=by kernel_rfl):DK P n ops K news acc0 S B (o::l):=by
 obtain ⟨st1,acc,r1,r0,r2⟩:=r
 obtain ⟨hd,hg,hdB⟩:=yE g
 have h:=app_local (P:=P) (o:=o) (S:=kI S) (k:=k) (k':=k') (cs:=cC F L) (es':=L'.map F) ho hT hz hzl hby hx (mK k' id _) (by rw[List.length_map,cG F hF,hL]) hy (by rw[List.length_map];exact Nat.le_of_ble_eq_true hpos) (by simpa using hbig) (by simpa using hbig')
 have e1:cC F L++(qH (L'.map F)).map .d=cC F (L++L'):=by
  show (qH (L.map F)).map SV.d++(qH (L'.map F)).map SV.d=(qH ((L++L').map F)).map SV.d
  rw[List.map_append,aA,List.map_append]
 have e2:m+(L'.map F).length=(L++L').length:=by rw[List.length_map,List.length_append,hL]
 rw[e1,e2] at h
 have hs:=mD.a (P:=P) (n:=n) (ops:=ops) (news:=news) (st:=⟨S,B⟩) (o:=o) h hg (by rw[hd];exact hdB) hb (freshB_of h1 h2) (bS hne) hn (clearL_map _ id _)
 rw[hd] at hs
 exact ⟨st1,([k],[k',k])::acc,.cons hs r1,by simpa using r0,r2⟩
end
def xn(p q j:Nat):Nat:=if j=p then q else if j=q then p else j
theorem xn_xn(p q j:Nat):xn p q (xn p q j)=j:=by
 unfold xn
 by_cases h1:j=p
 ·subst h1
  by_cases h2:q=j
  ·subst h2;simp
  ·simp [h2]
 ·by_cases h2:j=q
  ·subst h2
   simp [h1]
  ·simp [h1,h2]
theorem takesS_ren{P:Program}{f:FuncId}{xs:List SV}{B:BS}{r:SV}{B' B2:BS}(p q:Nat)(h:vO P f xs B r B')(hB:B2.map (fun e=>(e.1,e.2.map fun c=>c.map (SV.ren (xn p q))))=B'.map (fun e=>(xn p q e.1,e.2)))(hr:r.ren (xn p q)=r)(hx:(xs.all fun x=>!x.pins p&&!x.pins q)=true):vO P f xs B r B2 :=
 ⟨h.may,fun w D β vs hD hm hl ha=>(h.run w D β vs hD hm hl ha).mono fun e w' ⟨v,D',β',he,s⟩=>by
  have hinv:(fun j=>(fun k=>β' (xn p q k)) (xn p q j))=β':=funext fun j=>by show β' (xn p q (xn p q j))=β' j;rw[xn_xn]
  -- a block of B2 is a block of B' under the other number
  have key:∀ {l l':BS},l.map (fun e=>(e.1,e.2.map fun c=>c.map (SV.ren (xn p q))))=l'.map (fun e=>(xn p q e.1,e.2))→∀ {k c},kB l k=some c→kB l' (xn p q k)=some (c.map (SV.ren (xn p q))):=by
   intro l
   induction l with
   |nil=>intro l' _ k c h;simp [kB] at h
   |cons e l ih=>
    intro l' hl k c hk
    obtain ⟨j,x⟩:=e
    cases l' with
    |nil=>simp at hl
    |cons e' l'=>
     obtain ⟨j',x'⟩:=e'
     simp only[List.map_cons,List.cons.injEq,Prod.mk.injEq] at hl
     obtain ⟨⟨h1,h2⟩,h3⟩:=hl
     rw[jM] at hk
     rw[jM]
     split at hk
     ·rename_i ejk
      subst ejk
      rw[if_pos (by rw[h1,xn_xn]),← h2,hk];rfl
     ·rename_i hne
      rw[if_neg (fun e=>hne (by rw[h1,e,xn_xn]))]
      exact ih h3 hk
  have hmem:∀ {k c},kB B2 k=some c→kB B' (xn p q k)=some (c.map (SV.ren (xn p q))):=key hB
  refine ⟨v,D',fun k=>β' (xn p q k),he,s.below,s.keep,s.oth,s.up,s.new,s.dok,⟨fun k c hk=>?_,fun k1 k2 c1 c2 q1 q2 b e1 e2=>?_⟩,fun k c hk b hb=>s.high _ _ (hmem hk) b hb,fun i x hi k hk=>?_,?_⟩
  ·have:=s.mem.ok _ _ (hmem hk)
   exact (blk_ren (xn p q)).1 this
  ·have:=s.mem.inj _ _ _ _ (hmem q1) (hmem q2) b e1 e2
   rw[← xn_xn p q k1,this,xn_xn]
  ·have hall:=List.all_eq_true.1 hx x (List.mem_of_getElem? hi)
   rw[Bool.and_eq_true,Bool.not_eq_true',Bool.not_eq_true'] at hall
   have h1:k≠p:=fun e=>by subst e;rw[hk] at hall;cases hall.1
   have h2:k≠q:=fun e=>by subst e;rw[hk] at hall;cases hall.2
   show β' (xn p q k)=β k
   rw[show xn p q k=k by unfold xn;rw[if_neg h1,if_neg h2]]
   exact s.same i x hi k hk
  ·have:=s.res
   rw[← hr] at this
   exact (repS_ren (xn p q)).1 this⟩
end Go.Fid
namespace Go.Proofs.YtnajallgoaiahaaGreatDoor
open Go.Fid
theorem xF(h140:140≠1000000)(x:jW):yC 1000000 (jI x):=.agg (eG (.val _) (eG (avo_vals h140 _) (eG (.val _) (eG (avo_vals h140 _) (eG (.val _) (eG (avo_vals h140 _) (eG (.val _) (eG (avo_vals h140 _) avo_nil))))))))
abbrev xA (n k:Nat) (L:List JV) (b:Bool):List SV:=[(jV n),(jV 1),(vi (-1)),(.own k 95 10 ((List.map qF L).length)),(vb b)]
abbrev xH (L:List JV):List SV:=cC jJ (List.map qF L)
abbrev mcA (n:Nat) (x:jT) (b:Bool):jT:=.agg [(.val (.int .i64 ((n:Nat):Int))),(.val (.int .i64 ((1:Nat):Int))),(.val (.int .i64 (-1))),x,(.val (.bool b))]
theorem cb109:callB Tryz.prog 109=true:=by kernel_rfl
theorem cb180:callB Tryz.prog 180=true:=by kernel_rfl
theorem cb182:callB Tryz.prog 182=true:=by kernel_rfl
theorem cb192:callB Tryz.prog 192=true:=by kernel_rfl
theorem cb193:callB Tryz.prog 193=true:=by kernel_rfl
theorem cb196:callB Tryz.prog 196=true:=by kernel_rfl
theorem cb200:callB Tryz.prog 200=true:=by kernel_rfl
theorem cb210:callB Tryz.prog 210=true:=by kernel_rfl
theorem gl_ite{c:Prop}[Decidable c]{a b:R2}{n:Nat}(ha:GL n a)(hb:GL n b):GL n (if c then a else b):=by
 split
 ·exact ha
 ·exact hb
theorem j_whole(z:Int)(hz1:-9223372036854775808≤z)(hz2:z≤9223372036854775807):jQ Tryz.prog 180 [(.val (.int .i64 (z)))] (jI (kS (gw z))):=by
 refine jG Tryz.func180 rfl cb180 rfl ?_
 show qK _ _ _ _ ⟨[(0,(vi z))],[]⟩
 refine jB<|kx [(2,(.ref 0 0))] [(0,some (bx (jI (jW.mk qM qM))))] (zN (uB 0 uC uH)<|zZ) ?_
 refine jB<|kx [] [(0,some (bx (jI (jW.mk (jP ((z:Int):Rat)) (jP ((z:Int):Rat))))))] (zM<|zE (jZ (f_whole z (by omega) (by omega)))<|zM<|zE (jZ (f_whole z (by omega) (by omega)))<|zE (bB pl61 uC uH)<|zT (qD kF)<|zZ) ?_
 refine jE ⟨_,(kP (cs:=(bx (jI (jW.mk (jP ((z:Int):Rat)) (jP ((z:Int):Rat)))))) (d:=(jI (jW.mk (jP ((z:Int):Rat)) (jP ((z:Int):Rat))))) rfl rfl kF rfl rfl .nil),?_⟩
 rfl
theorem j_add(a:R2)(ha:GL 67108864 a)(b:R2)(hb:GL 67108864 b):jQ Tryz.prog 192 [(jI (kS a)),(jI (kS b))] (jI (kS (gH a b))):=by
 refine jG Tryz.func192 rfl cb192 rfl ?_
 show qK _ _ _ _ ⟨[(0,(.d (jI (kS a)))),(1,(.d (jI (kS b))))],[]⟩
 refine jB<|kx [(2,(.ref 0 0)),(3,(.ref 1 0)),(4,(.ref 2 0))] [(0,some (bx (jI (kS a)))),(1,some (bx (jI (kS b)))),(2,some (bx (jI (jW.mk qM qM))))] (zN (vN 0)<|zN (vN 1)<|zN (uB 2 uC uH)<|zZ) ?_
 refine jB<|kx [(5,(.ref 3 0))] [(3,some (bx (jI (jW.mk (jP (a.1+b.1)) (jP (a.2+b.2))))))] (zR (kO kF)<|zR (kO kF)<|zE (jZ (i_add a.1 a.2 b.1 b.2 (qu ha.1) (qu ha.2.1) (qu hb.1) (qu hb.2.1) ha.2.2 hb.2.2))<|zM<|zE vT<|zE vT<|zN (uB 3 uC uH)<|zT (qD kF)<|zM<|zZ) ?_
 refine jB<|kx [] [(2,some (bx (jI (jW.mk (jP (a.1+b.1)) (jP (a.2+b.2))))))] (zR (kO kF)<|zT (qD kF)<|zZ) ?_
 refine jE ⟨_,(kP (cs:=(bx (jI (jW.mk (jP (a.1+b.1)) (jP (a.2+b.2)))))) (d:=(jI (jW.mk (jP (a.1+b.1)) (jP (a.2+b.2))))) rfl rfl kF rfl rfl .nil),?_⟩
 rfl
theorem j_sub(a:R2)(ha:GL 67108864 a)(b:R2)(hb:GL 67108864 b):jQ Tryz.prog 193 [(jI (kS a)),(jI (kS b))] (jI (kS (uM a b))):=by
 refine jG Tryz.func193 rfl cb193 rfl ?_
 show qK _ _ _ _ ⟨[(0,(.d (jI (kS a)))),(1,(.d (jI (kS b))))],[]⟩
 refine jB<|kx [(2,(.ref 0 0)),(3,(.ref 1 0)),(4,(.ref 2 0))] [(0,some (bx (jI (kS a)))),(1,some (bx (jI (kS b)))),(2,some (bx (jI (jW.mk qM qM))))] (zN (vN 0)<|zN (vN 1)<|zN (uB 2 uC uH)<|zZ) ?_
 refine jB<|kx [(5,(.ref 3 0))] [(3,some (bx (jI (jW.mk (jP (a.1-b.2)) (jP (a.2-b.1))))))] (zR (kO kF)<|zR (kO kF)<|zE (jZ (i_sub a.1 a.2 b.1 b.2 (qu ha.1) (qu ha.2.1) (qu hb.1) (qu hb.2.1) ha.2.2 hb.2.2))<|zM<|zE vT<|zE vT<|zN (uB 3 uC uH)<|zT (qD kF)<|zM<|zZ) ?_
 refine jB<|kx [] [(2,some (bx (jI (jW.mk (jP (a.1-b.2)) (jP (a.2-b.1))))))] (zR (kO kF)<|zT (qD kF)<|zZ) ?_
 refine jE ⟨_,(kP (cs:=(bx (jI (jW.mk (jP (a.1-b.2)) (jP (a.2-b.1)))))) (d:=(jI (jW.mk (jP (a.1-b.2)) (jP (a.2-b.1))))) rfl rfl kF rfl rfl .nil),?_⟩
 rfl
theorem j_mul(a:R2)(ha:GL 67108864 a)(b:R2)(hb:GL 67108864 b):jQ Tryz.prog 196 [(jI (kS a)),(jI (kS b))] (jI (kS (xC a b))):=by
 let y1:=(bx (jI (jW.mk (jP (mnL (a.1*b.1) [(a.1*b.2),(a.2*b.1),(a.2*b.2)])) (jP (mxL (a.1*b.1) [(a.1*b.2),(a.2*b.1),(a.2*b.2)])))))
 refine jG Tryz.func196 rfl cb196 rfl ?_
 show qK _ _ _ _ ⟨[(0,(.d (jI (kS a)))),(1,(.d (jI (kS b))))],[]⟩
 refine jB<|kx [(2,(.ref 0 0)),(3,(.ref 1 0)),(4,(.ref 2 0))] [(0,some (bx (jI (kS a)))),(1,some (bx (jI (kS b)))),(2,some (bx (jI (jW.mk qM qM))))] (zN (vN 0)<|zN (vN 1)<|zN (uB 2 uC uH)<|zZ) ?_
 refine jB<|kx [(5,(.ref 3 0))] [(3,some y1)] (zR (kO kF)<|zR (kO kF)<|zE (jZ (i_mul a.1 a.2 b.1 b.2 (qu ha.1) (qu ha.2.1) (qu hb.1) (qu hb.2.1) ha.2.2 hb.2.2))<|zM<|zE vT<|zE vT<|zN (uB 3 uC uH)<|zT (qD kF)<|zM<|zZ) ?_
 refine jB<|kx [] [(2,some y1)] (zR (kO kF)<|zT (qD kF)<|zZ) ?_
 refine jE ⟨_,(kP (cs:=y1) (d:=(jI (jW.mk (jP (mnL (a.1*b.1) [(a.1*b.2),(a.2*b.1),(a.2*b.2)])) (jP (mxL (a.1*b.1) [(a.1*b.2),(a.2*b.1),(a.2*b.2)]))))) rfl rfl kF rfl rfl .nil),?_⟩
 rfl
theorem j_sq(a:R2)(ha:GL 67108864 a):jQ Tryz.prog 200 [(jI (kS a))] (jI (kS (gsq a))):=by
 refine jG Tryz.func200 rfl cb200 rfl ?_
 show qK _ _ _ _ ⟨[(0,(.d (jI (kS a))))],[]⟩
 refine jB<|kx [(1,(.ref 0 0)),(2,(.ref 1 0))] [(0,some (bx (jI (kS a)))),(1,some (bx (jI (jW.mk qM qM))))] (zN (vN 0)<|zN (uB 1 uC uH)<|zZ) ?_
 refine jB<|kx [(3,(.ref 2 0))] [(2,some (bx (jI (jW.mk (jP (sqL a.1 a.2)) (jP (sqH a.1 a.2))))))] (zR (kO kF)<|zE (jZ (i_square a.1 a.2 (qu ha.1) (qu ha.2.1) ha.2.2))<|zM<|zE vT<|zE vT<|zN (uB 2 uC uH)<|zT (qD kF)<|zM<|zZ) ?_
 refine jB<|kx [] [(1,some (bx (jI (jW.mk (jP (sqL a.1 a.2)) (jP (sqH a.1 a.2))))))] (zR (kO kF)<|zT (qD kF)<|zZ) ?_
 refine jE ⟨_,(kP (cs:=(bx (jI (jW.mk (jP (sqL a.1 a.2)) (jP (sqH a.1 a.2)))))) (d:=(jI (jW.mk (jP (sqL a.1 a.2)) (jP (sqH a.1 a.2))))) rfl rfl kF rfl rfl .nil),?_⟩
 rfl
theorem j_kids(o:Int):jQ Tryz.prog 182 [(.val (.int .i64 (o)))] (.val (.int .i64 ((vJ o)))):=by
 refine jG Tryz.func182 rfl cb182 rfl ?_
 show qK _ _ _ _ ⟨[(0,(vi o))],[]⟩
 refine jB<|kx [] [] (zM<|zZ) ?_
 refine jB<|jB<|kx [(3,(vi o))] [] (zM<|zZ) ?_
 refine jH<|jB<|jB<|kx [(4,(vb (o == 0)))] [] (zE yQ<|zM<|zZ) ?_
 refine jF (b:=(o == 0)) rfl (fun h1=>?_) (fun h1=>?_)
 ·replace h1:=eq_of_beq h1
  refine jD<|jF rfl (fun _=>?_) (fun h=>absurd (Eq.trans (Eq.symm (show ((o == 0))=true from beq_iff_eq.2 h1)) h) (by decide))
  refine jB<|kx [(2,(jV 0))] [] (zM<|zZ) ?_
  refine jE ⟨_,(.tmp (d:=(.val (.int .i64 (0)))) rfl .nil),?_⟩
  show jT.val (.int .i64 _)=_
  unfold vJ;simp [*]
 ·replace h1:=ne_of_beq_false h1
  refine kx [(4,(vb (o == 1)))] [] (zE yQ<|zM<|zZ) ?_
  refine jF (b:=(o == 1)) rfl (fun h2=>?_) (fun h2=>?_)
  ·replace h2:=eq_of_beq h2
   refine jB<|kx [(2,(jV 0))] [] (zM<|zZ) ?_
   refine jE ⟨_,(.tmp (d:=(.val (.int .i64 (0)))) rfl .nil),?_⟩
   show jT.val (.int .i64 _)=_
   unfold vJ;simp [*]
  ·replace h2:=ne_of_beq_false h2
   refine jB<|jB<|kx [(7,(vb (o == 6)))] [] (zE yQ<|zM<|zZ) ?_
   refine jF (b:=(o == 6)) rfl (fun h3=>?_) (fun h3=>?_)
   ·replace h3:=eq_of_beq h3
    refine jD<|jF rfl (fun _=>?_) (fun h=>absurd (Eq.trans (Eq.symm (show ((o == 6))=true from beq_iff_eq.2 h3)) h) (by decide))
    refine jB<|kx [(2,(jV 1))] [] (zM<|zZ) ?_
    refine jE ⟨_,(.tmp (d:=(.val (.int .i64 (1)))) rfl .nil),?_⟩
    show jT.val (.int .i64 _)=_
    unfold vJ;simp [*]
   ·replace h3:=ne_of_beq_false h3
    refine kx [(7,(vb (o == 7)))] [] (zE yQ<|zM<|zZ) ?_
    refine jF (b:=(o == 7)) rfl (fun h4=>?_) (fun h4=>?_)
    ·replace h4:=eq_of_beq h4
     refine jB<|kx [(2,(jV 1))] [] (zM<|zZ) ?_
     refine jE ⟨_,(.tmp (d:=(.val (.int .i64 (1)))) rfl .nil),?_⟩
     show jT.val (.int .i64 _)=_
     unfold vJ;simp [*]
    ·replace h4:=ne_of_beq_false h4
     refine jB<|jB<|kx [(10,(vb (o == 2)))] [] (zE yQ<|zM<|zZ) ?_
     refine jF (b:=(o == 2)) rfl (fun h5=>?_) (fun h5=>?_)
     ·replace h5:=eq_of_beq h5
      refine jD<|jF rfl (fun _=>?_) (fun h=>absurd (Eq.trans (Eq.symm (show ((o == 2))=true from beq_iff_eq.2 h5)) h) (by decide))
      refine jB<|kx [(2,(jV 2))] [] (zM<|zZ) ?_
      refine jE ⟨_,(.tmp (d:=(.val (.int .i64 (2)))) rfl .nil),?_⟩
      show jT.val (.int .i64 _)=_
      unfold vJ;simp [*]
     ·replace h5:=ne_of_beq_false h5
      refine jB<|kx [(10,(vb (o == 3)))] [] (zE yQ<|zM<|zZ) ?_
      refine jF (b:=(o == 3)) rfl (fun h6=>?_) (fun h6=>?_)
      ·replace h6:=eq_of_beq h6
       refine jD<|jF rfl (fun _=>?_) (fun h=>absurd (Eq.trans (Eq.symm (show ((o == 3))=true from beq_iff_eq.2 h6)) h) (by decide))
       refine jB<|kx [(2,(jV 2))] [] (zM<|zZ) ?_
       refine jE ⟨_,(.tmp (d:=(.val (.int .i64 (2)))) rfl .nil),?_⟩
       show jT.val (.int .i64 _)=_
       unfold vJ;simp [*]
      ·replace h6:=ne_of_beq_false h6
       refine jB<|kx [(10,(vb (o == 4)))] [] (zE yQ<|zM<|zZ) ?_
       refine jF (b:=(o == 4)) rfl (fun h7=>?_) (fun h7=>?_)
       ·replace h7:=eq_of_beq h7
        refine jD<|jF rfl (fun _=>?_) (fun h=>absurd (Eq.trans (Eq.symm (show ((o == 4))=true from beq_iff_eq.2 h7)) h) (by decide))
        refine jB<|kx [(2,(jV 2))] [] (zM<|zZ) ?_
        refine jE ⟨_,(.tmp (d:=(.val (.int .i64 (2)))) rfl .nil),?_⟩
        show jT.val (.int .i64 _)=_
        unfold vJ;simp [*]
       ·replace h7:=ne_of_beq_false h7
        refine kx [(10,(vb (o == 5)))] [] (zE yQ<|zM<|zZ) ?_
        refine jF (b:=(o == 5)) rfl (fun h8=>?_) (fun h8=>?_)
        ·replace h8:=eq_of_beq h8
         refine jB<|kx [(2,(jV 2))] [] (zM<|zZ) ?_
         refine jE ⟨_,(.tmp (d:=(.val (.int .i64 (2)))) rfl .nil),?_⟩
         show jT.val (.int .i64 _)=_
         unfold vJ;simp [*]
        ·replace h8:=ne_of_beq_false h8
         refine jD<|jB<|kx [(2,(vi (-1)))] [] (zM<|zZ) ?_
         refine jE ⟨_,(.tmp (d:=(.val (.int .i64 (-1)))) rfl .nil),?_⟩
         show jT.val (.int .i64 _)=_
         unfold vJ;simp [*]
theorem r_kids(o:Int):jQ Tryz.prog 109 [(.val (.int .i64 (o)))] (.val (.int .i64 ((vJ o)))):=by
 refine jG Tryz.func109 rfl cb109 rfl ?_
 show qK _ _ _ _ ⟨[(0,(vi o))],[]⟩
 refine jB<|kx [] [] (zM<|zZ) ?_
 refine jB<|jB<|kx [(3,(vi o))] [] (zM<|zZ) ?_
 refine jH<|jB<|jB<|kx [(4,(vb (o == 0)))] [] (zE yQ<|zM<|zZ) ?_
 refine jF (b:=(o == 0)) rfl (fun h1=>?_) (fun h1=>?_)
 ·replace h1:=eq_of_beq h1
  refine jD<|jF rfl (fun _=>?_) (fun h=>absurd (Eq.trans (Eq.symm (show ((o == 0))=true from beq_iff_eq.2 h1)) h) (by decide))
  refine jB<|kx [(2,(jV 0))] [] (zM<|zZ) ?_
  refine jE ⟨_,(.tmp (d:=(.val (.int .i64 (0)))) rfl .nil),?_⟩
  show jT.val (.int .i64 _)=_
  unfold vJ;simp [*]
 ·replace h1:=ne_of_beq_false h1
  refine kx [(4,(vb (o == 1)))] [] (zE yQ<|zM<|zZ) ?_
  refine jF (b:=(o == 1)) rfl (fun h2=>?_) (fun h2=>?_)
  ·replace h2:=eq_of_beq h2
   refine jB<|kx [(2,(jV 0))] [] (zM<|zZ) ?_
   refine jE ⟨_,(.tmp (d:=(.val (.int .i64 (0)))) rfl .nil),?_⟩
   show jT.val (.int .i64 _)=_
   unfold vJ;simp [*]
  ·replace h2:=ne_of_beq_false h2
   refine jB<|jB<|kx [(7,(vb (o == 6)))] [] (zE yQ<|zM<|zZ) ?_
   refine jF (b:=(o == 6)) rfl (fun h3=>?_) (fun h3=>?_)
   ·replace h3:=eq_of_beq h3
    refine jD<|jF rfl (fun _=>?_) (fun h=>absurd (Eq.trans (Eq.symm (show ((o == 6))=true from beq_iff_eq.2 h3)) h) (by decide))
    refine jB<|kx [(2,(jV 1))] [] (zM<|zZ) ?_
    refine jE ⟨_,(.tmp (d:=(.val (.int .i64 (1)))) rfl .nil),?_⟩
    show jT.val (.int .i64 _)=_
    unfold vJ;simp [*]
   ·replace h3:=ne_of_beq_false h3
    refine kx [(7,(vb (o == 7)))] [] (zE yQ<|zM<|zZ) ?_
    refine jF (b:=(o == 7)) rfl (fun h4=>?_) (fun h4=>?_)
    ·replace h4:=eq_of_beq h4
     refine jB<|kx [(2,(jV 1))] [] (zM<|zZ) ?_
     refine jE ⟨_,(.tmp (d:=(.val (.int .i64 (1)))) rfl .nil),?_⟩
     show jT.val (.int .i64 _)=_
     unfold vJ;simp [*]
    ·replace h4:=ne_of_beq_false h4
     refine jB<|jB<|kx [(10,(vb (o == 2)))] [] (zE yQ<|zM<|zZ) ?_
     refine jF (b:=(o == 2)) rfl (fun h5=>?_) (fun h5=>?_)
     ·replace h5:=eq_of_beq h5
      refine jD<|jF rfl (fun _=>?_) (fun h=>absurd (Eq.trans (Eq.symm (show ((o == 2))=true from beq_iff_eq.2 h5)) h) (by decide))
      refine jB<|kx [(2,(jV 2))] [] (zM<|zZ) ?_
      refine jE ⟨_,(.tmp (d:=(.val (.int .i64 (2)))) rfl .nil),?_⟩
      show jT.val (.int .i64 _)=_
      unfold vJ;simp [*]
     ·replace h5:=ne_of_beq_false h5
      refine jB<|kx [(10,(vb (o == 3)))] [] (zE yQ<|zM<|zZ) ?_
      refine jF (b:=(o == 3)) rfl (fun h6=>?_) (fun h6=>?_)
      ·replace h6:=eq_of_beq h6
       refine jD<|jF rfl (fun _=>?_) (fun h=>absurd (Eq.trans (Eq.symm (show ((o == 3))=true from beq_iff_eq.2 h6)) h) (by decide))
       refine jB<|kx [(2,(jV 2))] [] (zM<|zZ) ?_
       refine jE ⟨_,(.tmp (d:=(.val (.int .i64 (2)))) rfl .nil),?_⟩
       show jT.val (.int .i64 _)=_
       unfold vJ;simp [*]
      ·replace h6:=ne_of_beq_false h6
       refine jB<|kx [(10,(vb (o == 4)))] [] (zE yQ<|zM<|zZ) ?_
       refine jF (b:=(o == 4)) rfl (fun h7=>?_) (fun h7=>?_)
       ·replace h7:=eq_of_beq h7
        refine jD<|jF rfl (fun _=>?_) (fun h=>absurd (Eq.trans (Eq.symm (show ((o == 4))=true from beq_iff_eq.2 h7)) h) (by decide))
        refine jB<|kx [(2,(jV 2))] [] (zM<|zZ) ?_
        refine jE ⟨_,(.tmp (d:=(.val (.int .i64 (2)))) rfl .nil),?_⟩
        show jT.val (.int .i64 _)=_
        unfold vJ;simp [*]
       ·replace h7:=ne_of_beq_false h7
        refine kx [(10,(vb (o == 5)))] [] (zE yQ<|zM<|zZ) ?_
        refine jF (b:=(o == 5)) rfl (fun h8=>?_) (fun h8=>?_)
        ·replace h8:=eq_of_beq h8
         refine jB<|kx [(2,(jV 2))] [] (zM<|zZ) ?_
         refine jE ⟨_,(.tmp (d:=(.val (.int .i64 (2)))) rfl .nil),?_⟩
         show jT.val (.int .i64 _)=_
         unfold vJ;simp [*]
        ·replace h8:=ne_of_beq_false h8
         refine jD<|jB<|kx [(2,(vi (-1)))] [] (zM<|zZ) ?_
         refine jE ⟨_,(.tmp (d:=(.val (.int .i64 (-1)))) rfl .nil),?_⟩
         show jT.val (.int .i64 _)=_
         unfold vJ;simp [*]
theorem dH{L:List JV}{N n a:Nat}(h:∀ x∈L,nY N n x)(ha:a<L.length):nY N n (L.getD a jz):=by
 rw[List.getD_eq_getElem?_getD,List.getElem?_eq_getElem ha];exact h _ (List.getElem_mem _)
def xK(N:Nat)(t:List kN):Prop:=∀ x∈t,mN x.n (qJ x.n) N
theorem tn_get{N:Nat}{t:List kN}(h:xK N t){k:Nat}(hk:k<t.length):mN (t.getD k tz).n (qJ (t.getD k tz).n) N:=by
 rw[List.getD_eq_getElem?_getD,List.getElem?_eq_getElem hk];exact h _ (List.getElem_mem _)
theorem tn_up{M N:Nat}{t:List kN}(h:xK M t)(hm:M≤N):xK N t:=fun x hx=>jR (h x hx) hm
theorem j_unset(x:jO)(p:Rat)(hx:mN x p 1048576):jQ Tryz.prog 210 [(jK x)] (.val (.bool ((unsB x)))):=by
 refine jG Tryz.func210 rfl cb210 rfl ?_
 show qK _ _ _ _ ⟨[(0,(.d (jK x)))],[]⟩
 refine jB<|kx [(1,(.ref 0 0))] [(0,some (bx (jK x)))] (zN (vN 0)<|zM<|zZ) ?_
 refine jB<|kx [(2,(vb (((!x.num.neg&&!x.den.neg)&&(((x.num.gs.length:Nat):Int) == 0))&&(((x.den.gs.length:Nat):Int) == 0))))] [] ?_ ?_
 ·refine zE (kZ yD)<|zE (kZ vD)<|zR (qS aP)<|zE nF<|zE (oV (vb (!x.num.neg)) (kV (by kernel_rfl)))<|?_
  rcases hb1:(!x.num.neg) with _ | _
  ·exact zK<|zK<|zK<|zK<|zE zG<|zM<|zK<|zK<|zK<|zK<|zK<|zE zG<|zM<|zK<|zK<|zK<|zK<|zK<|zE zG<|zM<|zZ
  ·refine zE (kZ xI)<|zE (kZ vD)<|zR (qS aP)<|zE nF<|zE fM<|zE (oV (vb (true&&!x.den.neg)) (kV (by kernel_rfl)))<|?_
   rcases hb2:(true&&!x.den.neg) with _ | _
   ·exact zK<|zK<|zK<|zK<|zK<|zE zG<|zM<|zK<|zK<|zK<|zK<|zK<|zE zG<|zM<|zZ
   ·refine zE (kZ yD)<|zE (kZ vL)<|zR (qS xZ)<|zE (vC kH)<|zE yQ<|zE fM<|zE (oV (vb (true&&(((x.num.gs.length:Nat):Int) == 0))) (kV (by kernel_rfl)))<|?_
    rcases hb3:(true&&(((x.num.gs.length:Nat):Int) == 0)) with _ | _
    ·exact zK<|zK<|zK<|zK<|zK<|zE zG<|zM<|zZ
    ·exact zE (kZ xI)<|zE (kZ vL)<|zR (qS xZ)<|zE (vC kH)<|zE yQ<|zE fM<|zM<|zZ
 refine jE ⟨_,(.tmp (d:=(.val (.bool ((((!x.num.neg&&!x.den.neg)&&(((x.num.gs.length:Nat):Int) == 0))&&(((x.den.gs.length:Nat):Int) == 0)))))) rfl .nil),?_⟩
 rfl
end Go.Proofs.YtnajallgoaiahaaGreatDoor
