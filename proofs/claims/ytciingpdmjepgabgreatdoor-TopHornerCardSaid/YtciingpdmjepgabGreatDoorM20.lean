/- Part 20 of a proof: rules, plain facts, and functions walked. -/
import Derived.Test.YtciingpdmjepgabGreatDoorM19
import Derived.Test.YtciingpdmjepgabGreatDoorM11
set_option linter.all false
namespace Go.Fid
section
variable {P:Program} {S:SL} {B:BS} {o:Oper} {x y:Operand} {k:Nat} {T:TypeId}
end
section
variable {P:Program} {o:Oper}
theorem oQd{S:Nat->SV}{z:SV}(d d2:jT)(h:uC P o S [] z)(e:d=d2)(e0:z=.d d:=by kernel_rfl):uC P o S [] (.d d2):=e▸e0▸h
theorem oQr{S:SL}{B:BS}{k:Nat}{z:SV}(d d2:jT)(h:ROk P o S B k z)(e:d=d2)(e0:z=.d d:=by kernel_rfl):ROk P o S B k (.d d2):=e▸e0▸h
end
theorem clrn_nil(k j:Nat):Clr k [(j,none)]:=yP (mQ k)
theorem clrn_hide{k j:Nat}{c:Option (List SV)}{bs:BS}(h:Clr k ((j,none)::bs)):Clr k ((j,none)::(j,c)::bs):=fun i x hi hb=>h i x hi (by
 rw[jI] at hb ⊢
 split at hb
 ·cases hb
 ·rename_i hne;rw[jI,if_neg hne] at hb;rw[if_neg hne];exact hb)
theorem clrn_at{k j q:Nat}{c:Option (List SV)}{bs:BS}(hc:∀ x,q≠k->c=some x->kZ k x=false)(h:Clr k ((j,none)::bs)):Clr k ((j,none)::(q,c)::bs):=fun i x hi hb=>by
 rw[jI] at hb
 split at hb
 ·cases hb
 ·rename_i hne
  rw[jI] at hb
  split at hb
  ·rename_i hq;exact hc x (fun e=>hi (hq.symm.trans e)) hb
  ·exact h i x hi (by rw[jI,if_neg hne];exact hb)
theorem clrn_self{k j:Nat}{x:Option (List SV)}{bs:BS}(h:Clr k ((j,none)::bs)):Clr k ((j,none)::(k,x)::bs):=clrn_at (fun _ e _=>absurd rfl e) h
theorem clrn_none{k j q:Nat}{bs:BS}(h:Clr k ((j,none)::bs)):Clr k ((j,none)::(q,none)::bs):=clrn_at (fun _ _ e=>by cases e) h
theorem dP{k j q:Nat}{cs:List SV}{bs:BS}(hc:kZ k cs=false)(h:Clr k ((j,none)::bs)):Clr k ((j,none)::(q,some cs)::bs):=clrn_at (fun x _ e=>by injection e with e;subst e;exact hc) h
theorem clrn_map{α:Type}{k j q:Nat}{f:α->jT}{l:List α}{bs:BS}(h:Clr k ((j,none)::bs)):Clr k ((j,none)::(q,some (l.map (fun g=>SV.d (f g))))::bs):=dP (zD k f l) h
theorem clrn_d{k j q:Nat}{l:List jT}{bs:BS}(h:Clr k ((j,none)::bs)):Clr k ((j,none)::(q,some (l.map SV.d))::bs):=dP (zD k id l) h
theorem clrn_bx{k j q:Nat}{d:jT}{bs:BS}(h:Clr k ((j,none)::bs)):Clr k ((j,none)::(q,some (bx d))::bs):=clrn_d h
open Go.RowKit (Below)
def SV.ren(σ:Nat->Nat):SV->SV
 |.ref k o=>.ref (σ k) o
 |.own k t s n=>.own (σ k) t s n
 |.clo f ks=>.clo f (ks.map σ)
 |.view k o n=>.view (σ k) o n
 |.d x=>.d x
 |.emp=>.emp
 |.mp k=>.mp (σ k)
 |.mo ob=>.mo ob
 |.pr k t s n x=>.pr (σ k) t s n x
 |.refx k o b=>.refx (σ k) o b
 |.mpx k b=>.mpx (σ k) b
 |.bnd f k o=>.bnd f (σ k) o
 |.ownx k t s n u=>.ownx (σ k) t s n u
 |.junk=>.junk
theorem repS_ren{w:World}{D:kV}{β:kY}{v:Value}{x:SV}(σ:Nat->Nat):qC w D β v (x.ren σ)↔qC w D (fun k=>β (σ k)) v x:=by
 cases x with
 |d x=>exact Iff.rfl
 |ref k o=>exact Iff.rfl
 |own k t s n=>exact Iff.rfl
 |clo f ks=>
  constructor
  ·rintro ⟨vs,h1,h2,h3⟩
   refine ⟨vs,h1,by simpa using h2,fun i k hk=>h3 i (σ k) (by rw[List.getElem?_map,hk];rfl)⟩
  ·rintro ⟨vs,h1,h2,h3⟩
   refine ⟨vs,h1,by simpa using h2,fun i k hk=>?_⟩
   rw[List.getElem?_map,Option.map_eq_some_iff] at hk
   obtain ⟨j,hj,rfl⟩:=hk
   exact h3 i j hj
 |emp=>exact Iff.rfl
 |view k o n=>exact Iff.rfl
 |mp k=>exact Iff.rfl
 |mo ob=>exact Iff.rfl
 |pr k t s n x=>exact Iff.rfl
 |refx k o b=>exact Iff.rfl
 |mpx k b=>exact Iff.rfl
 |bnd f k o=>exact Iff.rfl
 |ownx k t s n u=>exact Iff.rfl
 |junk=>exact Iff.rfl
theorem ren_mo{σ:Nat->Nat}{x:SV}{ob:Obj}(h:x.ren σ=.mo ob):x=.mo ob:=by
 cases x<;>first | exact h | cases h
theorem ren_mos{σ:Nat->Nat}{cs:List SV}{ob:Obj}(h:cs.map (SV.ren σ)=[.mo ob]):cs=[.mo ob]:=by
 rcases cs with _ | ⟨x,_ | ⟨y,l⟩⟩
 ·cases h
 ·simp at h;rw[ren_mo h]
 ·simp at h
theorem blk_ren{w:World}{D:kV}{β:kY}{k:Nat}{cs:List SV}(σ:Nat->Nat):uA w D β (σ k) (cs.map (SV.ren σ))↔uA w D (fun k=>β (σ k)) k cs:=by
 constructor
 ·rintro ((⟨h1,h2⟩ | ⟨b,ob,h1,h2,h3,h4,h5⟩) | ⟨b,vs,T,h1,h2,h3,h4,h5⟩)
  ·exact .inl (.inl ⟨h1,by simpa using h2⟩)
  ·exact .inl (.inr ⟨b,ob,h1,h2,h3,ren_mos h4,h5⟩)
  ·refine .inr ⟨b,vs,T,h1,h2,by simpa using h3,fun i x hx=>?_,h5⟩
   obtain ⟨u,e1,e2,e3⟩:=h4 i (x.ren σ) (by rw[List.getElem?_map,hx];rfl)
   exact ⟨u,e1,e2,(repS_ren σ).1 e3⟩
 ·rintro ((⟨h1,h2⟩ | ⟨b,ob,h1,h2,h3,h4,h5⟩) | ⟨b,vs,T,h1,h2,h3,h4,h5⟩)
  ·exact .inl (.inl ⟨h1,by simp [h2]⟩)
  ·exact .inl (.inr ⟨b,ob,h1,h2,h3,by rw[h4];rfl,h5⟩)
  ·refine .inr ⟨b,vs,T,h1,h2,by simpa using h3,fun i x hx=>?_,h5⟩
   rw[List.getElem?_map,Option.map_eq_some_iff] at hx
   obtain ⟨y,hy,rfl⟩:=hx
   obtain ⟨u,e1,e2,e3⟩:=h4 i y hy
   exact ⟨u,e1,e2,(repS_ren σ).2 e3⟩
def SV.ptr:SV->Bool
 |.ref _ _=>true
 |.clo _ _=>true
 |_=>false
def SV.pin:SV->Bool
 |.ref _ _=>true
 |.clo _ ks=>ks.any fun j=>!Nat.beq j 9
 |_=>false
def SV.pins(k:Nat):SV->Bool
 |.ref j _=>Nat.beq j k
 |.clo _ ks=>ks.any fun j=>Nat.beq j k&&!Nat.beq j 9
 |_=>false
theorem pins_ptr{k:Nat}{x:SV}(h:x.pins k=true):x.pin=true:=by
 cases x with
 |ref j o=>rfl
 |clo f ks=>
  obtain ⟨j,hj,e⟩:=List.any_eq_true.1 h
  rw[Bool.and_eq_true] at e
  exact List.any_eq_true.2 ⟨j,hj,e.2⟩
 |_=>cases h
structure SPost (w:World) (D:kV) (β:kY) (xs:List SV) (B:BS) (r:SV) (B':BS) (v:Value) (w':World) (D':kV) (β':kY):Prop where
 below:cF (yE β B) w.heap.size w w'
 keep:∀ t g o,D t g o->w'.cell? ⟨g,o,none⟩=w.cell? ⟨g,o,none⟩
 oth:∀ (k:Nat) (o:Obj),w.heap[k]?=some o->o.isCells=false->(Obj.isMp o=true->¬ yE β B k)->w'.heap[k]?=some o
 up:∀ t g o,D t g o->D' t g o
 new:∀ t g o,D' t g o->D t g o\/w.heap.size<=g\/yE β B g
 dok:DOk D' w'
 mem:Mem w' D' β' B'
 high:∀ k c,jY B' k=some c->∀ b,β' k=some b->w.heap.size<=b\/yE β B b
 same:∀ (i:Nat) x,xs[i]?=some x->∀ k,x.pins k=true->β' k=β k
 res:qC w' D' β' v r
structure gV (P:Program) (f:FuncId) (xs:List SV) (B:BS) (r:SV) (B':BS):Prop where
 may:callB P f=true
 run:∀ (w:World) (D:kV) (β:kY) (vs:List Value),DOk D w->Mem w D β B->vs.length=xs.length->(∀ (i:Nat) v x,vs[i]?=some v->xs[i]?=some x->qC w D β v x) ->
  Calls P f vs.toArray w fun e w'=>∃ v D' β',e=.returned v/\SPost w D β xs B r B' v w' D' β'
def RetPr(rs:List ResultVar)(S:SL)(r:SV):Prop:=∃ t1 t2 k T s n x,rs=[.tmp t1,.tmp t2]/\kA S t1=.own k T s n/\kA S t2=.d x/\r=.pr k T s n x
def RetS(P:Program)(rs:List ResultVar)(xs:List SV)(r:SV)(B':BS):Exit->PS->Prop
 |.ret,st=>(∀ k c,jY B' k=some c->jY st.bs k=some c)/\(∀ (i:Nat) x,xs[i]?=some x->x.pin=true->kA st.sl i=x)/\((∃ ds,cD P st rs ds/\r=.d (retD ds))\/(∃ t,rs=[.tmp t]/\kA st.sl t=r)\/RetPr rs st.sl r)
 |.normal,st=>(∀ k c,jY B' k=some c->jY st.bs k=some c)/\(∀ (i:Nat) x,xs[i]?=some x->x.pin=true->kA st.sl i=x)/\((∃ ds,cD P st rs ds/\r=.d (retD ds))\/(∃ t,rs=[.tmp t]/\kA st.sl t=r)\/RetPr rs st.sl r)
 |_,_=>False
def initX:List SV->Nat->SL
 |[],_=>[]
 |x::l,i=>(i,x)::initX l (i+1)
theorem sget_initX:∀ (l:List SV) (i t:Nat),kA (initX l i) t=if i<=t then (l[t-i]?).getD .junk else .junk
 |[],i,t=>by simp [initX,kA]
 |x::l,i,t=>by
  rw[initX,qM,sget_initX l (i+1) t]
  by_cases h:i=t
  ·subst h;simp
  ·rw[if_neg h]
   by_cases h2:i+1<=t
   ·rw[if_pos h2,if_pos (by omega),show t-i=(t-(i+1))+1 by omega];rfl
   ·rw[if_neg h2,if_neg (by omega)]
section
variable {P:Program}
theorem leaves_S{fn:Func}{a:Act}{st:PS}{D D':kV}{β β':kY}{w w0:World}{ds:List Deferred}{xs:List SV}{B B':BS}{r:SV}(hd:DfOk w0.heap.size w ds)
  (hsl:∀ t,qC w D' β' (a.tmps.getD t undef) (kA st.sl t)) (hm:Mem w D' β' st.bs) (gC:cF (yE β B) w0.heap.size w0 w) (hkeep:∀ t g o,D t g o->w.cell? ⟨g,o,none⟩=w0.cell? ⟨g,o,none⟩)
  (hoth:∀ (k:Nat) (o:Obj),w0.heap[k]?=some o->o.isCells=false->(Obj.isMp o=true->¬ yE β B k)->w.heap[k]?=some o) (hmono:∀ t g o,D t g o->D' t g o) (hnew:∀ t g o,D' t g o->D t g o\/w0.heap.size<=g\/yE β B g) (hdok:DOk D' w)
  (hhigh:∀ k c,jY st.bs k=some c->∀ b,β' k=some b->w0.heap.size<=b\/yE β B b) (hsame:∀ (i:Nat) x,xs[i]?=some x->∀ k,x.pins k=true->β' k=β k)
  (h1:∀ k c,jY B' k=some c->jY st.bs k=some c) (h2:(∃ ds,cD P st fn.results.toList ds/\r=.d (retD ds))\/(∃ t,fn.results.toList=[.tmp t]/\kA st.sl t=r)\/RetPr fn.results.toList st.sl r) :
  LeavesInM Fence.wide 0 P fn a.tmps (fun e w'=>∃ v D' β',e=.returned v/\SPost w0 D β xs B r B' v w' D' β') ds .returning w:=by
 induction ds generalizing w with
 |nil=>
  have fin:∀ v,qC w D' β' v r->SPost w0 D β xs B r B' v w D' β':=fun v hv=>
   ⟨gC,hkeep,hoth,hmono,hnew,hdok,⟨fun k c hk=>hm.ok k c (h1 k c hk),fun k1 k2 c1 c2 q1 q2=>hm.inj k1 k2 c1 c2 (h1 _ _ q1) (h1 _ _ q2)⟩,fun k c hk=>hhigh k c (h1 k c hk),hsame,hv⟩
  rcases h2 with ⟨ds',g1,rfl⟩ | ⟨t,g1,rfl⟩ | ⟨t1,t2,k,T,s,n,x,g1,g2,g3,rfl⟩
  ·obtain ⟨v,e1,e2⟩:=ret_run (P:=P) hsl hm.ok g1
   exact ⟨v,e1,v,D',β',rfl,fin v e2⟩
  ·have hrun:(results fn a.tmps).run P w=.ok (a.tmps.getD t undef) w:=by
    rw[aN,Array.mapM_eq_mapM_toList,Sem.run_bind,Sem.run_map,g1]
    simp [List.mapM_cons,resF]
   exact ⟨_,hrun,_,D',β',rfl,fin _ (hsl t)⟩
  ·have hrun:(results fn a.tmps).run P w=.ok (.tuple #[a.tmps.getD t1 undef,a.tmps.getD t2 undef]) w:=by
    rw[aN,Array.mapM_eq_mapM_toList,Sem.run_bind,Sem.run_map,g1]
    simp [List.mapM_cons,resF]
   have q1:=hsl t1
   have q2:=hsl t2
   rw[g2] at q1
   rw[g3] at q2
   exact ⟨_,hrun,_,D',β',rfl,fin _ ⟨_,_,rfl,q1,q2⟩⟩
 |cons d ds ih=>
  cases hd with
  |cons hqb hqh h3 hr=>
   rename_i q
   have hsz:(w.putObj q (Obj.deferred none)).heap.size=w.heap.size:=by simp [World.putObj]
   refine ⟨by simp,.inl ⟨q,_,rfl,run_takeDeferred hqh,ih (hr.keep fun q' hq' ⟨d,hd,e⟩=>?_) (fun t=>eJ hqh rfl rfl rfl (hsl t)) ⟨fun k cs hk=>turned_blk hqh rfl rfl rfl (hm.ok k cs hk),hm.inj⟩ (turned_belowM gC hqb)
    (fun t g o hd=>(yI hqh rfl rfl g o).trans (hkeep t g o hd)) (fun k o hk ho hmp=>?_) (hdok.kept (by simp [World.putObj]) fun t g o _=>yI hqh rfl rfl g o)⟩⟩
   ·have hne:q'≠q:=fun e'=>h3 d hd (e'▸e)
    exact (World.putObj_heap_other hne).trans hq'
   ·have hne:k≠q:=fun e=>by subst e;have:=qV hk;omega
    exact (World.putObj_heap_other hne).trans (hoth k o hk ho hmp)
theorem gP{f:FuncId}{fn:Func}{c:Code}{xs:List SV}{B:BS}{r:SV}{B':BS}(hf:P.funcs[f]?=some fn)(hb:fn.body=some c)(hc:callB P f=true)(hn:Nat.ble xs.length fn.ntmps=true)
  (h:dR P ⟨xs.length,fn.ntmps,none⟩ c (RetS P fn.results.toList xs r B') ⟨initX xs 0,B⟩):gV P f xs B r B' :=
 ⟨hc,fun w D β vs hD hmem hvl hargs=>by
  refine (callsIn_wide (n:=0)).1 (callsIn_of_wp_marks hf hb trivial ?_)
  have hle:xs.length<=fn.ntmps:=Nat.le_of_ble_eq_true hn
  obtain ⟨a0,ha0⟩:∃ a0:Act,a0={ tmps:=vs.toArray++Array.replicate (fn.ntmps-vs.toArray.size) undef,defers:=[] }:=⟨_,rfl⟩
  have hsz:a0.tmps.size=fn.ntmps:=by rw[ha0];simp;omega
  have hget:∀ t,t<vs.length->vs[t]?=some (a0.tmps.getD t undef):=fun t ht=>by
   rw[ha0,Array.getD_eq_getD_getElem?,Array.getElem?_append_left (by simpa using ht)]
   simp [ht]
  have hsim:fQ ⟨w,D,w,a0.tmps,⟨xs.length,fn.ntmps,none⟩,yE β B⟩ a0 w ⟨initX xs 0,B⟩ D β:=by
   refine ⟨⟨by rw[ha0];exact .nil,hsz,fun _ _ _ _=>rfl,fun _ _ h _ _=>h,fun t _=>rfl,.of (Below.refl _ _),fun _ _ _ h=>h,fun _ _ _ h=>.inl h,hD⟩,hmem,fun k c hk b hb=>.inr ⟨k,c,hk,hb⟩,fun t=>?_⟩
   show qC w D _ _ (kA (initX xs 0) t)
   rw[sget_initX]
   simp only[Nat.zero_le,if_true,Nat.sub_zero]
   cases hd:xs[t]? with
   |none=>trivial
   |some x=>
    have ht:t<vs.length:=by rw[hvl];exact (List.getElem?_eq_some_iff.1 hd).1
    exact hargs t _ x (hget t ht) hd
  rw[<- ha0]
  refine wpIn_mono (h _ _ w 0 rfl ⟨D,β,hsim⟩) fun e a w' ⟨st,⟨D',β',hs⟩,hq⟩=>?_
  have fin:RetS P fn.results.toList xs r B' .ret st->LeavesInM Fence.wide 0 P fn a.tmps (fun e w'=>∃ v D' β',e=.returned v/\SPost w D β xs B r B' v w' D' β') a.defers .returning w':=fun ⟨h1,h2,h3⟩=>by
   refine leaves_S hs.base.defers hs.slots hs.mem hs.base.below hs.base.keep (fun k o hk ho hmp=>hs.base.oth k o hk ho fun e hq=>by rcases hq with hq | hq<;>first | exact hmp e hq | (have:=qV hk;exact absurd hq (Nat.not_le.2 this))) hs.base.dmono hs.base.dnew hs.base.dok hs.high (fun i x hi k hk=>?_) h1 h3
   have hlt:i<xs.length:=(List.getElem?_eq_some_iff.1 hi).1
   have e1:=hs.slots i
   rw[h2 i x hi (pins_ptr hk),hs.base.pin i hlt] at e1
   have e2:=hargs i _ _ (hget i (by omega)) hi
   cases x with
   |ref j o=>
    obtain rfl:j=k:=yJ hk
    obtain ⟨b1,g1,g2⟩:=e1
    obtain ⟨b2,g3,g4⟩:=e2
    rw[g1,g3]
    have e3:=g2.symm.trans g4
    injection e3 with e3
    injection e3 with e3
    injection e3 with e3
    rw[e3]
   |clo g js=>
    obtain ⟨j,hj,e⟩:=List.any_eq_true.1 hk
    rw[Bool.and_eq_true] at e
    obtain rfl:j=k:=yJ e.1
    obtain ⟨vs1,a1,a2,a3⟩:=e1
    obtain ⟨vs2,b1,b2,b3⟩:=e2
    have e3:=a1.symm.trans b1
    injection e3 with _ _ e3
    have e4:vs1=vs2:=by simpa using e3
    subst e4
    obtain ⟨q,hq⟩:=List.getElem?_of_mem hj
    obtain ⟨c1,g1,g2⟩:=a3 q _ hq
    obtain ⟨c2,g3,g4⟩:=b3 q _ hq
    rw[g1,g3]
    rw[g2] at g4
    injection g4 with g4
    injection g4 with g4
    injection g4 with g4
    injection g4 with g4
    rw[g4]
   |_=>cases hk
  cases e with
  |normal=>exact fin hq
  |ret=>exact fin hq
  |exit id=>exact hq.elim
  |goto l=>exact hq.elim
  |panic ch=>exact hq.elim
  |outgrown=>exact hq.elim⟩
end
def sg(ks:List Nat)(M:Nat)(k:Nat):Nat:=(ks[k]?).getD (k+M)
def mmB(ks:List Nat)(k:Nat):Bool:=ks.any (Nat.beq k)
theorem mN{ks:List Nat}{k:Nat}:mmB ks k=true↔k∈ks:=by
 unfold mmB
 rw[List.any_eq_true]
 constructor
 ·rintro ⟨x,hx,e⟩;rw[yJ e];exact hx
 ·intro h;exact ⟨k,h,by simp⟩
def ndB(M:Nat):List Nat->Bool
 |[]=>true
 |k::ks=>Nat.blt k M&&!(mmB ks k)&&ndB M ks
theorem nd_lt{M:Nat}:∀ {ks:List Nat},ndB M ks=true->∀ k∈ks,k<M
 |[],_,k,hk=>by simp at hk
 |q::ks,h,k,hk=>by
  simp only[ndB,Bool.and_eq_true] at h
  rcases List.mem_cons.1 hk with e | e
  ·subst e;simpa [Nat.blt_eq] using h.1.1
  ·exact nd_lt h.2 k e
theorem nd_inj{M:Nat}:∀ {ks:List Nat},ndB M ks=true->∀ {k q j:Nat},ks[k]?=some j->ks[q]?=some j->k=q
 |[],_,k,q,j,h1,_=>by simp at h1
 |p::ks,h,k,q,j,h1,h2=>by
  simp only[ndB,Bool.and_eq_true,Bool.not_eq_true'] at h
  have hno:∀ i:Nat,ks[i]?≠some p:=fun i e=>by
   have:=mN.2 (List.mem_of_getElem? e);rw[h.1.2] at this;cases this
  cases k with
  |zero=>
   cases q with
   |zero=>rfl
   |succ q=>simp at h1 h2;subst h1;exact absurd h2 (hno q)
  |succ k=>
   cases q with
   |zero=>simp at h1 h2;subst h2;exact absurd h1 (hno k)
   |succ q=>simp at h1 h2;rw[nd_inj h.2 h1 h2]
theorem sg_inj{M:Nat}{ks:List Nat}(h:ndB M ks=true){k q:Nat}(e:sg ks M k=sg ks M q):k=q:=by
 unfold sg at e
 cases h1:ks[k]? with
 |none=>
  cases h2:ks[q]? with
  |none=>rw[h1,h2] at e;simp at e;exact e
  |some j=>rw[h1,h2] at e;simp at e;have:=nd_lt h j (List.mem_of_getElem? h2);omega
 |some i=>
  cases h2:ks[q]? with
  |none=>rw[h1,h2] at e;simp at e;have:=nd_lt h i (List.mem_of_getElem? h1);omega
  |some j=>rw[h1,h2] at e;simp at e;subst e;exact nd_inj h h1 h2
inductive RB (ks:List Nat) (M:Nat):BS->BS->Prop
 |nil:RB ks M [] []
 |cons {k j:Nat} {c c2:List SV} {B B2:BS} (hk:ks[k]?=some j) (hc:c.map (SV.ren (sg ks M))=c2) (h:RB ks M B B2):RB ks M ((k,some c)::B) ((j,some c2)::B2)
theorem RB.to{ks:List Nat}{M:Nat}(hn:ndB M ks=true){B B2:BS}(h:RB ks M B B2):∀ {k:Nat} {c:List SV},jY B k=some c->ks[k]?=some (sg ks M k)/\jY B2 (sg ks M k)=some (c.map (SV.ren (sg ks M))):=by
 induction h with
 |nil=>intro k c hk;simp [jY] at hk
 |@cons q j c1 c2 B B2 hk hc h ih=>
  intro k c hg
  rw[jI] at hg
  have e1:sg ks M q=j:=by unfold sg;rw[hk];rfl
  split at hg
  ·rename_i e;subst e
   injection hg with hg;subst hg
   rw[e1]
   exact ⟨hk,by rw[jI,if_pos rfl,hc]⟩
  ·rename_i hne
   obtain ⟨h1,h2⟩:=ih hg
   exact ⟨h1,by rw[jI,if_neg (fun e=>hne (sg_inj hn (e1.trans e))),h2]⟩
theorem RB.back{ks:List Nat}{M:Nat}(hn:ndB M ks=true){B B2:BS}(h:RB ks M B B2):∀ {j:Nat} {c2:List SV},jY B2 j=some c2->∃ k c,j=sg ks M k/\ks[k]?=some j/\jY B k=some c/\c2=c.map (SV.ren (sg ks M)):=by
 induction h with
 |nil=>intro k c hk;simp [jY] at hk
 |@cons q j c1 c2 B B2 hk hc h ih=>
  intro i d hg
  rw[jI] at hg
  have e1:sg ks M q=j:=by unfold sg;rw[hk];rfl
  split at hg
  ·rename_i e;subst e
   injection hg with hg;subst hg
   exact ⟨q,c1,e1.symm,hk,by rw[jI,if_pos rfl],hc.symm⟩
  ·rename_i hne
   obtain ⟨k,c,h1,h2,h3,h4⟩:=ih hg
   exact ⟨k,c,h1,h2,by rw[jI,if_neg (fun e=>by subst e;exact hne (e1.symm.trans h1.symm)),h3],h4⟩
def maskL:List Nat->BS
 |[]=>[]
 |k::ks=>(k,none)::maskL ks
theorem bget_app{X Z:BS}{j:Nat}{c:List SV}:jY (X++Z) j=some c->jY X j=some c\/jY Z j=some c:=by
 induction X with
 |nil=>intro h;exact .inr h
 |cons p X ih=>
  obtain ⟨k,x⟩:=p
  intro h
  rw[List.cons_append,jI] at h
  split at h
  ·rename_i e;rw[jI,if_pos e];exact .inl h
  ·rename_i hne;rw[jI,if_neg hne];exact ih h
theorem bget_mask{ks:List Nat}{Z:BS}{j:Nat}{c:List SV}:jY (maskL ks++Z) j=some c->j∉ks/\jY Z j=some c:=by
 induction ks with
 |nil=>intro h;exact ⟨by simp,h⟩
 |cons k ks ih=>
  intro h
  rw[maskL,List.cons_append,jI] at h
  split at h
  ·cases h
  ·rename_i hne
   obtain ⟨h1,h2⟩:=ih h
   exact ⟨fun hj=>by rcases List.mem_cons.1 hj with e | e;exact hne e.symm;exact h1 e,h2⟩
def okV(ks:List Nat)(M:Nat)(F:List Nat)(B:BS):SV->Bool
 |.ref k _=>mmB F k||(Nat.blt k M&&!(mmB ks k))
 |.view k _ _=>mmB F k||(Nat.blt k M&&!(mmB ks k))
 |.clo _ l=>l.all fun k=>mmB F k||(Nat.blt k M&&!(mmB ks k))
 |.own k _ _ _=>Nat.blt k M&&!(mmB ks k)&&(jY B k).isSome
 |.mp k=>mmB F k||(Nat.blt k M&&!(mmB ks k))
 |.mo _=>true
 |.pr k _ _ _ _=>Nat.blt k M&&!(mmB ks k)&&(jY B k).isSome
 |.refx k _ _=>mmB F k||(Nat.blt k M&&!(mmB ks k))
 |.mpx k _=>mmB F k||(Nat.blt k M&&!(mmB ks k))
 |.bnd _ k _=>mmB F k||(Nat.blt k M&&!(mmB ks k))
 |.ownx k _ _ _ _=>Nat.blt k M&&!(mmB ks k)&&(jY B k).isSome
 |_=>true
def cutS(ks:List Nat)(M:Nat)(F:List Nat)(B:BS):SL->SL
 |[]=>[]
 |(t,x)::r=>(t,bif okV ks M F B x then x else .junk)::cutS ks M F B r
theorem sget_cut(ks:List Nat)(M:Nat)(F:List Nat)(B:BS):∀ (l:SL) (t:Nat),kA (cutS ks M F B l) t=bif okV ks M F B (kA l t) then kA l t else .junk
 |[],t=>by simp [cutS,kA,okV]
 |(j,x)::r,t=>by
  simp only[cutS,qM]
  split
  ·rfl
  ·exact sget_cut ks M F B r t
def RestOk(ks:List Nat)(M:Nat)(F:List Nat)(B0 B:BS):Prop:=∀ j c,j∉ks->jY B j=some c->j<M/\c.all (okV ks M F B0)=true
section
variable {P:Program} {C:Ctx} {a:Act} {w:World} {S0:SL} {B0:BS} {D:kV} {β:kY}
theorem fJ.callS{xs:List SV}{B:BS}{r:SV}{B':BS}{v:Value}{w':World}{D':kV}{β' γ:kY}(h:fJ C a w D)(hp:SPost w D γ xs B r B' v w' D' β')(hm:∀ b,yE γ B b->C.own b):fJ C a w' D' :=
 ⟨h.defers.keep fun q hq _=>hp.oth q _ hq rfl (fun e=>by cases e),h.size,fun t g o hd=>(hp.keep t g o (h.dmono _ _ _ hd)).trans (h.keep t g o hd),fun k o hk ho hmp=>hp.oth k o (h.oth k o hk ho hmp) ho (fun e hq=>hmp e (hm k hq)),h.pin,
  ⟨hp.below.os.trans h.below.os,hp.below.tape.trans h.below.tape,hp.below.output.trans h.below.output,Nat.le_trans h.below.size hp.below.size,fun k hk hn=>(hp.below.block k (Nat.lt_of_lt_of_le hk h.below.size) (fun hq=>by rcases hm k hq with h1 | h1;omega;exact hn h1)).trans (h.below.block k hk hn),fun k hk vs T f h1=>by
   obtain ⟨us,e1,e2⟩:=h.below.shape k hk vs T f h1
   obtain ⟨us',g1,g2⟩:=hp.below.shape k (Nat.lt_of_lt_of_le hk h.below.size) us T f e1
   exact ⟨us',g1,g2.trans e2⟩⟩,
  fun t g o hd=>hp.up _ _ _ (h.dmono _ _ _ hd),fun t g o hd=>by
   rcases hp.new t g o hd with h1 | h1 | h1
   ·exact h.dnew t g o h1
   ·exact .inr (h.fresh h1)
   ·exact .inr (hm g h1),hp.dok⟩
def pinR(ks:List Nat)(M j:Nat):SV->Bool
 |.ref k _=>Nat.beq (sg ks M k) j
 |.clo _ l=>l.any fun k=>Nat.beq (sg ks M k) j&&!Nat.beq k 9
 |_=>false
inductive FixG (ks:List Nat) (M:Nat) (B B':BS):List Nat->Prop
 |nil:FixG ks M B B' []
 |cons {k q o b j:Nat} {G:List Nat} (hj:sg ks M k=j) (h1:jY B q=some [.refx k o b]) (h2:jY B' q=some [.refx k o b]) (h:FixG ks M B B' G):FixG ks M B B' (j::G)
theorem FixG.at{ks:List Nat}{M:Nat}{B B':BS}{G:List Nat}(h:FixG ks M B B' G){j:Nat}(hj:j∈G):∃ k q o b,sg ks M k=j/\jY B q=some [.refx k o b]/\jY B' q=some [.refx k o b]:=by
 induction h with
 |nil=>cases hj
 |cons e h1 h2 h ih=>
  rcases List.mem_cons.1 hj with rfl | hj
  ·exact ⟨_,_,_,_,e,h1,h2⟩
  ·exact ih hj
theorem refx_at{w:World}{D:kV}{β:kY}{B:BS}{k q o b:Nat}(h:Mem w D β B)(hq:jY B q=some [.refx k o b]):β k=some b:=by
 rcases h.ok _ _ hq with (⟨_,e⟩ | ⟨_,_,_,_,_,e,_⟩) | ⟨_,vs,T,_,_,_,g4,_⟩
 ·cases e
 ·cases e
 ·obtain ⟨u,_,_,e3⟩:=g4 0 _ rfl
  exact e3.1
theorem call_core{f:FuncId}{xs:List SV}{B B2:BS}{r:SV}{B' B2':BS}{ks F:List Nat}{M:Nat}{vs:List Value}{dst:Option Tmp}(hf:gV P f xs B r B')(hs:fQ C a w ⟨S0,B0⟩ D β)(hd:yH C.n dst=true)(hn:ndB M ks=true)
  (hB:RB ks M B B2) (hB':RB ks M B' B2') (hb:B2.map (fun p=>jY B0 p.1)=B2.map (·.2)) {G:List Nat} (hG:FixG ks M B B' G) (hF:(F.all fun j=>(xs.any (pinR ks M j))||mmB G j)=true) (hr:RestOk ks M F B0 B0)
  (hvl:vs.length=xs.length) (hv:∀ (i:Nat) v x,vs[i]?=some v->xs[i]?=some x->qC w D β v (x.ren (sg ks M))) :
  Calls P f vs.toArray w fun e w'=>∃ v,e=.returned v/\∃ D' β',fQ C (a.put dst v) w' ⟨fF dst (r.ren (sg ks M)) (cutS ks M F B0 S0),B2'++(maskL ks++B0)⟩ D' β':=by
 have hget2:∀ {j:Nat} {c:List SV},jY B2 j=some c->jY B0 j=some c:=by
  intro j c hj
  clear hB
  induction B2 with
  |nil=>simp [jY] at hj
  |cons p B2 ih=>
   obtain ⟨q,x⟩:=p
   simp only[List.map_cons,List.cons.injEq] at hb
   rw[jI] at hj
   split at hj
   ·rename_i e;subst e;rw[hb.1];exact hj
   ·exact ih hb.2 hj
 have hin:∀ {k:Nat} {c:List SV},jY B k=some c->sg ks M k∈ks/\jY B0 (sg ks M k)=some (c.map (SV.ren (sg ks M))):=fun {k c} hk=>by
  obtain ⟨h1,h2⟩:=hB.to hn hk
  exact ⟨List.mem_of_getElem? h1,hget2 h2⟩
 have hmem:Mem w D (fun k=>β (sg ks M k)) B:=⟨fun k c hk=>(blk_ren _).1 (hs.mem.ok _ _ (hin hk).2),fun k1 k2 c1 c2 q1 q2 b e1 e2=>sg_inj hn (hs.mem.inj _ _ _ _ (hin q1).2 (hin q2).2 b e1 e2)⟩
 have hmine:∀ b,yE (fun k=>β (sg ks M k)) B b->∃ k c,k∈ks/\jY B0 k=some c/\β k=some b:=fun b ⟨k,c,h1,h2⟩=>⟨_,_,(hin h1).1,(hin h1).2,h2⟩
 refine (hf.run w D _ vs hs.base.dok hmem hvl fun i v x h1 h2=>(repS_ren _).1 (hv i v x h1 h2)).mono fun e w' h=>?_
 obtain ⟨v,D',β',he,hp⟩:=h
 refine ⟨v,he,D',?_⟩
 -- where the blocks lie now
 obtain ⟨βn,hβn⟩:∃ βn:kY,(∀ k,βn (sg ks M k)=β' k)/\∀ j,j∉ks->j<M->βn j=β j:=by
  classical
  refine ⟨fun j=>if h:∃ k,sg ks M k=j then β' h.choose else β j,fun k=>?_,fun j h1 h2=>?_⟩
  ·have hx:∃ q,sg ks M q=sg ks M k:=⟨k,rfl⟩
   show (if h:∃ q,sg ks M q=sg ks M k then β' h.choose else β (sg ks M k))=β' k
   rw[dif_pos hx,sg_inj hn hx.choose_spec]
  ·show (if h:∃ q,sg ks M q=j then β' h.choose else β j)=β j
   rw[dif_neg]
   rintro ⟨k,hk⟩
   unfold sg at hk
   cases h3:ks[k]? with
   |none=>rw[h3] at hk;simp at hk;omega
   |some i=>rw[h3] at hk;simp at hk;subst hk;exact h1 (List.mem_of_getElem? h3)
 obtain ⟨hβ1,hβ2⟩:=hβn
 have hβf:(fun k=>βn (sg ks M k))=β':=funext hβ1
 have hkeepβ:∀ {k:Nat},(mmB F k||(Nat.blt k M&&!(mmB ks k)))=true->βn k=β k:=fun {k} h=>by
  rw[Bool.or_eq_true] at h
  rcases h with h | h
  ·have hk:=List.all_eq_true.1 hF k (mN.1 h)
   rw[Bool.or_eq_true] at hk
   rcases hk with hk | hk
   ·obtain ⟨x,hx,e⟩:=List.any_eq_true.1 hk
    obtain ⟨i,hi⟩:=List.getElem?_of_mem hx
    cases x with
    |ref q o=>
     have e:=yJ e
     rw[<- e,hβ1,hp.same i _ hi q (by simp [SV.pins])]
    |clo g js=>
     obtain ⟨q,hq,e⟩:=List.any_eq_true.1 e
     rw[Bool.and_eq_true] at e
     have e1:=yJ e.1
     rw[<- e1,hβ1,hp.same i _ hi q (List.any_eq_true.2 ⟨q,hq,by rw[e.2];simp⟩)]
    |_=>cases e
   ·obtain ⟨q,r,o,b,e,g1,g2⟩:=hG.at (mN.1 hk)
    have e1:=refx_at hmem g1
    have e2:=refx_at hp.mem g2
    rw[<- e,hβ1,e2]
    exact e1.symm
  ·rw[Bool.and_eq_true,Bool.not_eq_true'] at h
   exact hβ2 k (fun hm=>by have:=mN.2 hm;rw[h.2] at this;cases this) (by simpa [Nat.blt_eq] using h.1)
 have holdb:∀ {j:Nat} {c:List SV} {b:Nat},j∉ks->jY B0 j=some c->β j=some b->b<w.heap.size/\¬ yE (fun k=>β (sg ks M k)) B b:=fun {j c b} h1 h2 h3=>by
  refine ⟨(hs.mem.ok j c h2).lt h3,fun hm=>?_⟩
  obtain ⟨k,c',g1,g2,g3⟩:=hmine b hm
  exact h1 (hs.mem.inj j k c c' h2 g2 b h3 g3▸g1)
 have hrep:∀ {u:Value} {x:SV},okV ks M F B0 x=true->qC w D β u x->qC w' D' βn u x:=fun {u x} hx hu=>by
  cases x with
  |d x=>exact uN.mono (fun t g o hd=>⟨hp.up _ _ _ hd,hp.keep t g o hd⟩) hu
  |ref k o=>obtain ⟨b,h1,h2⟩:=hu;exact ⟨b,(hkeepβ hx).trans h1,h2⟩
  |view k o n=>obtain ⟨b,cap,h1,h2⟩:=hu;exact ⟨b,cap,(hkeepβ hx).trans h1,h2⟩
  |clo f' l=>
   obtain ⟨us,h1,h2,h3⟩:=hu
   refine ⟨us,h1,h2,fun i k hk=>?_⟩
   obtain ⟨b,h4,h5⟩:=h3 i k hk
   exact ⟨b,(hkeepβ (List.all_eq_true.1 hx k (List.mem_of_getElem? hk))).trans h4,h5⟩
  |own k t s n=>
   simp only[okV,Bool.and_eq_true,Bool.not_eq_true'] at hx
   obtain ⟨⟨x1,x2⟩,x3⟩:=hx
   have hk1:k∉ks:=fun hm=>by have:=mN.2 hm;rw[x2] at this;cases this
   have hk2:k<M:=by simpa [Nat.blt_eq] using x1
   rcases hu with ⟨h1,h2⟩ | ⟨b,cap,us,h1,h2,h3,h4⟩
   ·exact .inl ⟨(hβ2 k hk1 hk2).trans h1,h2⟩
   ·obtain ⟨c,hc⟩:=Option.isSome_iff_exists.1 x3
    obtain ⟨g1,g2⟩:=holdb hk1 hc h1
    exact .inr ⟨b,cap,us,(hβ2 k hk1 hk2).trans h1,h2,(hp.below.block b g1 g2).trans h3,h4⟩
  |emp=>exact hu
  |mp k=>obtain ⟨b,h1,h2⟩:=hu;exact ⟨b,(hkeepβ hx).trans h1,h2⟩
  |mo ob=>exact hu
  |refx k o b=>exact ⟨(hkeepβ hx).trans hu.1,hu.2⟩
  |mpx k b=>exact ⟨(hkeepβ hx).trans hu.1,hu.2⟩
  |bnd f k o=>obtain ⟨b,h1,h2⟩:=hu;exact ⟨b,(hkeepβ hx).trans h1,h2⟩
  |ownx k t s n u=>
   simp only[okV,Bool.and_eq_true,Bool.not_eq_true'] at hx
   obtain ⟨⟨x1,x2⟩,x3⟩:=hx
   have hk1:k∉ks:=fun hm=>by have:=mN.2 hm;rw[x2] at this;cases this
   have hk2:k<M:=by simpa [Nat.blt_eq] using x1
   refine ⟨hu.1,?_⟩
   rcases hu.2 with ⟨h1,h2⟩ | ⟨b,cap,us,h1,h2,h3,h4⟩
   ·exact .inl ⟨(hβ2 k hk1 hk2).trans h1,h2⟩
   ·obtain ⟨c,hc⟩:=Option.isSome_iff_exists.1 x3
    obtain ⟨g1,g2⟩:=holdb hk1 hc h1
    exact .inr ⟨b,cap,us,(hβ2 k hk1 hk2).trans h1,h2,(hp.below.block b g1 g2).trans h3,h4⟩
  |pr k t s n x=>
   simp only[okV,Bool.and_eq_true,Bool.not_eq_true'] at hx
   obtain ⟨⟨x1,x2⟩,x3⟩:=hx
   have hk1:k∉ks:=fun hm=>by have:=mN.2 hm;rw[x2] at this;cases this
   have hk2:k<M:=by simpa [Nat.blt_eq] using x1
   obtain ⟨v1,v2,e,hu,hu2⟩:=hu
   refine ⟨v1,v2,e,?_,uN.mono (fun t g o hd=>⟨hp.up _ _ _ hd,hp.keep t g o hd⟩) hu2⟩
   rcases hu with ⟨h1,h2⟩ | ⟨b,cap,us,h1,h2,h3,h4⟩
   ·exact .inl ⟨(hβ2 k hk1 hk2).trans h1,h2⟩
   ·obtain ⟨c,hc⟩:=Option.isSome_iff_exists.1 x3
    obtain ⟨g1,g2⟩:=holdb hk1 hc h1
    exact .inr ⟨b,cap,us,(hβ2 k hk1 hk2).trans h1,h2,(hp.below.block b g1 g2).trans h3,h4⟩
  |junk=>trivial
 have hcase:∀ {j:Nat} {c:List SV},jY (B2'++(maskL ks++B0)) j=some c->(∃ k c0,j=sg ks M k/\jY B' k=some c0/\c=c0.map (SV.ren (sg ks M)))\/(j∉ks/\j<M/\jY B0 j=some c/\c.all (okV ks M F B0)=true):=fun {j c} h=>by
  rcases bget_app h with h | h
  ·obtain ⟨k,c0,h1,_,h3,h4⟩:=hB'.back hn h
   exact .inl ⟨k,c0,h1,h3,h4⟩
  ·obtain ⟨h1,h2⟩:=bget_mask h
   obtain ⟨h3,h4⟩:=hr j c h1 h2
   exact .inr ⟨h1,h3,h2,h4⟩
 have hbase:=(hs.base.callS hp fun b hm=>by
  obtain ⟨k,c,_,g2,g3⟩:=hmine b hm
  exact hs.high k c g2 b g3).put hd v
 have hnewb:∀ {k:Nat} {c0:List SV} {b:Nat},jY B' k=some c0->β' k=some b->w.heap.size<=b\/yE (fun k=>β (sg ks M k)) B b:=fun {k c0 b} h1 h2=>hp.high k c0 h1 b h2
 refine ⟨βn,hbase,⟨fun j c hj=>?_,fun j1 j2 c1 c2 q1 q2 b e1 e2=>?_⟩,fun j c hj b hjb=>?_,fun t=>?_⟩
 ·rcases hcase hj with ⟨k,c0,rfl,h2,rfl⟩ | ⟨h1,h2,h3,h4⟩
  ·rw[blk_ren,hβf];exact hp.mem.ok k c0 h2
  ·rcases hs.mem.ok j c h3 with (⟨g1,g2⟩ | ⟨b,ob,g1,g2,g3,g4,g5⟩) | ⟨b,us,T,g1,g2,g3,g4,g5⟩
   ·exact .inl (.inl ⟨(hβ2 j h1 h2).trans g1,g2⟩)
   ·obtain ⟨k1,k2⟩:=holdb h1 h3 g1
    refine .inl (.inr ⟨b,ob,(hβ2 j h1 h2).trans g1,(hp.below.block b k1 k2).trans g2,g3,g4,fun t o hdd=>?_⟩)
    rcases hp.new t b o hdd with h | h | h
    ·exact g5 t o h
    ·omega
    ·exact k2 h
   ·obtain ⟨k1,k2⟩:=holdb h1 h3 g1
    refine .inr ⟨b,us,T,(hβ2 j h1 h2).trans g1,(hp.below.block b k1 k2).trans g2,g3,fun i x hx=>?_,fun t o hdd=>?_⟩
    ·obtain ⟨u,e1,e2,e3⟩:=g4 i x hx
     exact ⟨u,e1,e2,hrep (List.all_eq_true.1 h4 x (List.mem_of_getElem? hx)) e3⟩
    ·rcases hp.new t b o hdd with h | h | h
     ·exact g5 t o h
     ·omega
     ·exact k2 h
 ·rcases hcase q1 with ⟨k1,d1,rfl,g1,_⟩ | ⟨f1,f2,f3,_⟩
  ·rcases hcase q2 with ⟨k2,d2,rfl,g2,_⟩ | ⟨m1,m2,m3,_⟩
   ·rw[hβ1] at e1 e2
    rw[hp.mem.inj k1 k2 d1 d2 g1 g2 b e1 e2]
   ·rw[hβ1] at e1
    rw[hβ2 j2 m1 m2] at e2
    obtain ⟨l1,l2⟩:=holdb m1 m3 e2
    rcases hnewb g1 e1 with h | h
    ·omega
    ·exact absurd h l2
  ·rcases hcase q2 with ⟨k2,d2,rfl,g2,_⟩ | ⟨m1,m2,m3,_⟩
   ·rw[hβ1] at e2
    rw[hβ2 j1 f1 f2] at e1
    obtain ⟨l1,l2⟩:=holdb f1 f3 e1
    rcases hnewb g2 e2 with h | h
    ·omega
    ·exact absurd h l2
   ·rw[hβ2 j1 f1 f2] at e1
    rw[hβ2 j2 m1 m2] at e2
    exact hs.mem.inj j1 j2 c1 c2 f3 m3 b e1 e2
 ·rcases hcase hj with ⟨k,c0,rfl,g1,_⟩ | ⟨f1,f2,f3,_⟩
  ·rw[hβ1] at hjb
   rcases hnewb g1 hjb with h | h
   ·exact hs.base.fresh h
   ·obtain ⟨q,c',_,e2,e3⟩:=hmine b h
    exact hs.high q c' e2 b e3
  ·rw[hβ2 j f1 f2] at hjb
   exact hs.high j c f3 b hjb
 ·rw[uP hs.base.size hd,uH]
  split
  ·rw[repS_ren,hβf];exact hp.res
  ·rw[sget_cut]
   cases hx:okV ks M F B0 (kA S0 t) with
   |false=>trivial
   |true=>exact hrep hx (hs.slots t)
inductive FnV (S:Nat->SV) (y:Operand):FuncId->List SV->Prop
 |fn {f:FuncId} (h:ev S y=.d (.val (.func (.func f) #[] #[]))):FnV S y f []
 |clo {f:FuncId} {kk:List Nat} {ex:List SV} (h:ev S y=.clo f kk) (he:kk.map (fun k=>SV.ref k 0)=ex):FnV S y f ex
 |dat {f:FuncId} {aD:List jT} {ex:List SV} (h:ev S y=.d (.clo f aD)) (he:aD.map SV.d=ex):FnV S y f ex
theorem call_op{o:Oper}{y:Operand}{args:List Operand}{ats:Array TypeId}{ex:List SV}{f:FuncId}{xs:List SV}{B B2:BS}{r:SV}{B' B2':BS}{ks F:List Nat}{M:Nat}{Q:Exit->Act->World->Prop}
  (hf:gV P f xs B r B') (ho:o.op=.call { callee:=.value y,args:=args.toArray,argTypes:=ats }) (hy:FnV (kA S0) y f ex) (hx:args.map (ev (kA S0))++ex=xs.map (SV.ren (sg ks M))) (hd:yH C.n o.dst=true) (hn:ndB M ks=true)
  (hB:RB ks M B B2) (hB':RB ks M B' B2') (hb:B2.map (fun p=>jY B0 p.1)=B2.map (·.2)) {G:List Nat} (hG:FixG ks M B B' G) (hF:(F.all fun j=>(xs.any (pinR ks M j))||mmB G j)=true) (hr:RestOk ks M F B0 B0) (hs:cI C a w ⟨S0,B0⟩) :
  o.wp P a w (fun a' w'=>cI C a' w' ⟨fF o.dst (r.ren (sg ks M)) (cutS ks M F B0 S0),B2'++(maskL ks++B0)⟩) Q:=by
 obtain ⟨D,β,hs⟩:=hs
 have hop:∀ q,qC w D β (a.eval q) (ev (kA S0) q):=fun q=>by
  cases q with
  |tmp t=>exact hs.slots t
  |const v=>exact uN.val v
  |func f=>exact uN.val _
  |global g=>trivial
 obtain ⟨us,hus,hul,hur⟩:∃ us:List Value,(execOp a.eval o).run P w=.ok (.enter f (args.map a.eval++us).toArray) w/\us.length=ex.length/\∀ (i:Nat) v x,us[i]?=some v->ex[i]?=some x->qC w D β v x:=by
  cases hy with
  |fn h=>
   have hv:=hop y
   rw[h] at hv
   have hv:=uO hv
   refine ⟨[],?_,rfl,fun i v x h=>by simp at h⟩
   simp only[execOp,ho,resolve,Deferred.ofValue,hv,Sem.run_bind,Sem.run_pure,Result.andThen_ok,invoke,Array.empty_append,Array.append_empty]
   rw[uY hf.may]
   simp
  |@clo kk _ h he=>
   have hv:=hop y
   rw[h] at hv
   obtain ⟨vs,hv1,hv2,hv3⟩:=hv
   refine ⟨vs,?_,by rw[<- he];simpa using hv2,fun i v x hvi hxi=>?_⟩
   ·simp only[execOp,ho,resolve,Deferred.ofValue,hv1,Sem.run_bind,Sem.run_pure,Result.andThen_ok,invoke,Array.empty_append]
    rw[uY hf.may]
    simp
   ·rw[<- he,List.getElem?_map,Option.map_eq_some_iff] at hxi
    obtain ⟨k,hk,rfl⟩:=hxi
    obtain ⟨b,g1,g2⟩:=hv3 i k hk
    rw[hvi] at g2
    injection g2 with g2
    exact ⟨b,g1,g2⟩
  |@dat aD _ h he=>
   have hv:=hop y
   rw[h] at hv
   generalize hq:a.eval y=q at hv
   cases hv with
   |clo vs hl hr=>
    refine ⟨vs,?_,by rw[<- he];simpa using hl,fun i v x hvi hxi=>?_⟩
    ·simp only[execOp,ho,resolve,Deferred.ofValue,hq,Sem.run_bind,Sem.run_pure,Result.andThen_ok,invoke,Array.empty_append]
     rw[uY hf.may]
     simp
    ·rw[<- he,List.getElem?_map,Option.map_eq_some_iff] at hxi
     obtain ⟨k,hk,rfl⟩:=hxi
     exact hr i v k hvi hk
 have qL:(args.map a.eval++us).length=xs.length:=by
  have:=congrArg List.length hx
  simp only[List.length_append,List.length_map] at this ⊢
  omega
 refine cW hus ((call_core (dst:=o.dst) hf hs hd hn hB hB' hb hG hF hr qL fun i v x hv hxi=>?_).mono fun e w' ⟨v,he,D',β',h⟩=>⟨v,he,D',β',h⟩)
 have hi:=congrArg (fun l:List SV=>l[i]?) hx
 simp only[List.getElem?_map,hxi,Option.map_some] at hi
 by_cases hlt:i<args.length
 ·rw[List.getElem?_append_left (by simpa using hlt)] at hv hi
  rw[List.getElem?_map,Option.map_eq_some_iff] at hv
  obtain ⟨p,hp,rfl⟩:=hv
  rw[List.getElem?_map,hp,Option.map_some,Option.some.injEq] at hi
  rw[<- hi];exact hop p
 ·rw[List.getElem?_append_right (by simpa using hlt)] at hv hi
  simp only[List.length_map] at hv hi
  exact hur _ v _ hv hi
end
section
variable {P:Program} {n:Fr} {ops:Array Oper} {K:SL->BS->Prop} {S:SL} {B:BS} {l:List Oper} {o:Oper}
theorem rest_of{ks:List Nat}{M:Nat}{F:List Nat}{B0:BS}:∀ {B:BS},(∀ p∈B,p.1∈ks\/(p.1<M/\∀ c,p.2=some c->c.all (okV ks M F B0)=true))->RestOk ks M F B0 B
 |[],_=>fun j c _ h=>by simp [jY] at h
 |(k,x)::B,h=>fun j c hj hb=>by
  rw[jI] at hb
  split at hb
  ·rename_i e;subst e
   rcases h _ (.head _) with h1 | ⟨h1,h2⟩
   ·exact absurd h1 hj
   ·exact ⟨h1,h2 c hb⟩
  ·exact rest_of (fun p hp=>h p (.tail _ hp)) j c hj hb
inductive ROk1 (ks:List Nat) (M:Nat) (F:List Nat) (B0:BS):BS->Prop
 |nil:ROk1 ks M F B0 []
 |hid {k:Nat} {x:Option (List SV)} {B:BS} (hk:mmB ks k=true) (h:ROk1 ks M F B0 B):ROk1 ks M F B0 ((k,x)::B)
 |none {k:Nat} {B:BS} (hk:Nat.blt k M=true) (h:ROk1 ks M F B0 B):ROk1 ks M F B0 ((k,.none)::B)
 |dat {k:Nat} {ds:List jT} {B:BS} (hk:Nat.blt k M=true) (h:ROk1 ks M F B0 B):ROk1 ks M F B0 ((k,some (ds.map SV.d))::B)
 |map {α:Type} {k:Nat} {G:α->jT} {L:List α} {B:BS} (hk:Nat.blt k M=true) (h:ROk1 ks M F B0 B):ROk1 ks M F B0 ((k,some (L.map fun g=>SV.d (G g)))::B)
 |cells {k:Nat} {c:List SV} {B:BS} (hk:Nat.blt k M=true) (hc:c.all (okV ks M F B0)=true) (h:ROk1 ks M F B0 B):ROk1 ks M F B0 ((k,some c)::B)
theorem ROk1.ok{ks:List Nat}{M:Nat}{F:List Nat}{B0 B:BS}(h:ROk1 ks M F B0 B):RestOk ks M F B0 B:=by
 refine rest_of ?_
 induction h with
 |nil=>intro p hp;simp at hp
 |hid hk h ih=>
  intro p hp;rcases List.mem_cons.1 hp with e | e
  ·subst e;exact .inl (mN.1 hk)
  ·exact ih p e
 |none hk h ih=>
  intro p hp;rcases List.mem_cons.1 hp with e | e
  ·subst e;exact .inr ⟨by simpa [Nat.blt_eq] using hk,fun c hc=>by cases hc⟩
  ·exact ih p e
 |dat hk h ih=>
  intro p hp;rcases List.mem_cons.1 hp with e | e
  ·subst e;exact .inr ⟨by simpa [Nat.blt_eq] using hk,fun c hc=>by
                                     injection hc with hc;subst hc;simp [okV]⟩
  ·exact ih p e
 |map hk h ih=>
  intro p hp;rcases List.mem_cons.1 hp with e | e
  ·subst e;exact .inr ⟨by simpa [Nat.blt_eq] using hk,fun c hc=>by
                                     injection hc with hc;subst hc;simp [okV]⟩
  ·exact ih p e
 |cells hk hc h ih=>
  intro p hp;rcases List.mem_cons.1 hp with e | e
  ·subst e;exact .inr ⟨by simpa [Nat.blt_eq] using hk,fun c hc'=>by
                                       injection hc' with hc';subst hc';exact hc⟩
  ·exact ih p e
theorem ren_map{α:Type}(σ:Nat->Nat)(G:α->jT)(L:List α):(L.map fun g=>SV.d (G g)).map (SV.ren σ)=L.map fun g=>SV.d (G g):=by rw[List.map_map];rfl
theorem ren_dat(σ:Nat->Nat)(ds:List jT):(ds.map SV.d).map (SV.ren σ)=ds.map SV.d:=by rw[List.map_map];rfl
theorem zS{f:FuncId}{y:Operand}{args:List Operand}{ats:Array TypeId}{ex:List SV}{xs:List SV}{B1 B2:BS}{r:SV}{B1' B2':BS}{M:Nat}(ks F:List Nat)(hf:gV P f xs B1 r B1')(hB:RB ks M B1 B2)(hB':RB ks M B1' B2')(hr:ROk1 ks M F B B)
  (rr:SK P n ops K ((dO o,r.ren (sg ks M))::cutS ks M F B S) (B2'++(maskL ks++B)) l) (ho:o.op=.call { callee:=.value y,args:=args.toArray,argTypes:=ats }:=by exact rfl) (hy:FnV (kA S) y f ex:=by first | exact .fn (by kernel_rfl) | exact .clo (by kernel_rfl) (by kernel_rfl) | exact .dat (by kernel_rfl) (by kernel_rfl)) (g:goK n ops S o=true:=by kernel_rfl)
  (hx:args.map (ev (kA S))++ex=xs.map (SV.ren (sg ks M)):=by kernel_rfl) (hn:ndB M ks=true:=by kernel_rfl) (hb:B2.map (fun p=>jY B p.1)=B2.map (·.2):=by kernel_rfl) (G:List Nat:=[]) (hG:FixG ks M B1 B1' G:=by exact .nil) (hF:(F.all fun j=>(xs.any (pinR ks M j))||mmB G j)=true:=by kernel_rfl):SK P n ops K S B (o::l):=by
 obtain ⟨hd,hg,hdB⟩:=zI g
 refine zX (fun C a w Q hn' hs=>?_) hg rr
 have:=call_op (Q:=Q) hf ho hy hx (by rw[hn',hd];exact hdB) hn hB hB' hb hG hF hr.ok hs
 rw[hd] at this
 exact this
theorem zSe{f:FuncId}{y:Operand}{args:List Operand}{ats:Array TypeId}{ex:List SV}{xs:List SV}{B1 B2:BS}{r:SV}{B1' B2':BS}(ks F:List Nat)(hf:gV P f xs B1 r B1') 
  (rr:SK P n ops K ((dO o,r.ren (sg ks 1000000))::cutS ks 1000000 F B S) (B2'++(maskL ks++B)) l)
  (hB:RB ks 1000000 B1 B2:=by repeat first | exact .nil | refine .cons (by exact rfl) (by first | exact ren_dat _ _ | exact ren_map _ _ _ | kernel_rfl) ?_) (hB':RB ks 1000000 B1' B2':=by repeat first | exact .nil | refine .cons (by exact rfl) (by first | exact ren_dat _ _ | exact ren_map _ _ _ | kernel_rfl) ?_)
  (hr:ROk1 ks 1000000 F B B:=by repeat first | exact .nil | refine .hid rfl ?_ | refine .map rfl ?_ | refine .dat rfl ?_ | refine .none rfl ?_ | refine .cells rfl rfl ?_) (ho:o.op=.call { callee:=.value y,args:=args.toArray,argTypes:=ats }:=by exact rfl) (hy:FnV (kA S) y f ex:=by first | exact .fn (by kernel_rfl) | exact .clo (by kernel_rfl) (by kernel_rfl) | exact .dat (by kernel_rfl) (by kernel_rfl)) (g:goK n ops S o=true:=by kernel_rfl)
  (hx:args.map (ev (kA S))++ex=xs.map (SV.ren (sg ks 1000000)):=by kernel_rfl) (hn:ndB 1000000 ks=true:=by kernel_rfl) (hb:B2.map (fun p=>jY B p.1)=B2.map (·.2):=by kernel_rfl) (G:List Nat:=[]) (hG:FixG ks 1000000 B1 B1' G:=by exact .nil) (hF:(F.all fun j=>(xs.any (pinR ks 1000000 j))||mmB G j)=true:=by kernel_rfl):SK P n ops K S B (o::l):=zS ks F hf hB hB' hr rr ho hy g hx hn hb G hG hF
theorem mD{B' B:BS}(h:B'.map (fun p=>jY B p.1)=B'.map (·.2)):∀ k c,jY B' k=some c->jY B k=some c:=by
 intro k c hk
 induction B' with
 |nil=>simp [jY] at hk
 |cons p B' ih=>
  obtain ⟨q,x⟩:=p
  simp only[List.map_cons,List.cons.injEq] at h
  rw[jI] at hk
  split at hk
  ·rename_i e;subst e;rw[h.1];exact hk
  ·exact ih h.2 hk
def svE:SV->SV->Bool
 |.ref k o,.ref k' o'=>Nat.beq k k'&&Nat.beq o o'
 |.clo f ks,.clo g js=>Nat.beq f g&&decide (ks=js)
 |_,_=>false
theorem svE_eq{x y:SV}(hp:y.pin=true)(h:svE x y=true):x=y:=by
 cases y with
 |ref k o=>
  cases x with
  |ref k' o'=>simp only[svE,Bool.and_eq_true] at h;rw[yJ h.1,yJ h.2]
  |_=>cases h
 |clo f ks=>
  cases x with
  |clo g js=>simp only[svE,Bool.and_eq_true,decide_eq_true_eq] at h;rw[yJ h.1,h.2]
  |_=>cases h
 |_=>cases hp
def refB(sl:SL):List SV->Nat->Bool
 |[],_=>true
 |x::l,i=>(!x.pin||svE (kA sl i) x)&&refB sl l (i+1)
theorem refs_at{sl:SL}:∀ {xs:List SV} {i:Nat},refB sl xs i=true->∀ (j:Nat) x,xs[j]?=some x->x.pin=true->kA sl (i+j)=x
 |[],i,_=>fun j x h=>by simp at h
 |y::xs,i,h=>fun j x hj hp=>by
  simp only[refB,Bool.and_eq_true] at h
  cases j with
  |zero=>
   simp only[List.getElem?_cons_zero,Option.some.injEq] at hj
   subst hj
   have h1:=h.1
   rw[hp] at h1
   rw[Nat.add_zero]
   exact svE_eq hp (by simpa using h1)
  |succ j=>
   have:=refs_at h.2 j x (by simpa using hj) hp
   rw[show i+(j+1)=i+1+j by omega];exact this
theorem dE{sl:SL}{xs:List SV}(h:refB sl xs 0=true):∀ (i:Nat) x,xs[i]?=some x->x.pin=true->kA sl i=x:=fun i x hi hp=>by
 have:=refs_at h i x hi hp;rwa [Nat.zero_add] at this
theorem n_boxS{S:Nat->SV}{T:TypeId}{y:Operand}{x:SV}(k:Nat)(ho:o.op=.box T y)(hx:ev S y=x)(h1:x.ptr=true)(hn:x.names k=false):NOk P o S k [x] (.ref k 0) :=
 fun a w D β Q hop hD=>by
  have hp:=hop y (by simp [ho,Op.operands])
  rw[hx] at hp
  have eO:(a.eval y).oneCell'=true/\(a.eval y).cells=#[a.eval y]:=by
   cases x with
   |ref j o'=>obtain ⟨b,_,h2⟩:=hp;rw[h2];exact ⟨rfl,rfl⟩
   |clo f ks=>obtain ⟨vs,h2,_⟩:=hp;rw[h2];exact ⟨rfl,rfl⟩
   |d x=>cases h1
   |own=>cases h1
   |emp=>cases h1
   |view=>cases h1
   |mp=>cases h1
   |mo=>cases h1
   |pr=>cases h1
   |refx=>cases h1
   |mpx=>cases h1
   |bnd=>cases h1
   |ownx=>cases h1
   |junk=>cases h1
  have hβ:∀ j,j≠k->(β.set k w.heap.size) j=β j:=fun j hj=>by simp [kY.set,hj]
  have hb:Below w.heap.size w (w.alloc (.cells #[a.eval y] T)):=(Below.refl _ _).alloc (Nat.le_refl _) _
  have hrun:(execOp a.eval o).run P w=.ok (.value (.pointer (some ⟨w.heap.size,0,none⟩))) (w.alloc (.cells #[a.eval y] T)):=by
   simp only[execOp,ho,Instr.box,newVar,newRow,eO.2,Sem.run_bind,run_newObj,Result.andThen_ok,Sem.run_pure]
   rfl
  refine mF hrun ⟨_,D,w.heap.size,rfl,hb,aF.of_same D,Nat.le_refl _,by simp,fun t o hd=>Nat.lt_irrefl _ (hD.lt t _ o hd),.inr ⟨w.heap.size,#[a.eval y],T,by simp [kY.set],World.alloc_heap_new w _,by simp,fun i z hz=>?_,fun t o hd=>Nat.lt_irrefl _ (hD.lt t _ o hd)⟩,⟨w.heap.size,by simp [kY.set],rfl⟩⟩
  cases i with
  |zero=>
   simp only[List.getElem?_cons_zero,Option.some.injEq] at hz
   subst hz
   exact ⟨a.eval y,by simp,eO.1,(hp.up hb (aF.of_same D) hD).frame hβ hn⟩
  |succ i=>simp at hz
theorem oBy{S:Nat->SV}{T:TypeId}{y:Operand}{x:SV}(b:Nat)(ho:o.op=.box T y:=by exact rfl)(hx:ev S y=x:=by exact rfl)(h1:x.ptr=true:=by kernel_rfl)(hn:x.names b=false:=by kernel_rfl):NOk P o S b [x] (.ref b 0):=n_boxS b ho hx h1 hn
end
variable {P:Program} {o:Oper} {S:Nat->SV} {T T':TypeId} {x y:Operand} {k k':IntKind}
theorem e_and{m n r:Int}(ho:o.op=.binOp .and T x y T')(hx:ev S x=.d (.val (.int k m)))(hy:ev S y=.d (.val (.int k n)))(hr:k.wrap (((BitVec.ofInt k.bits m &&& BitVec.ofInt k.bits n).toNat:Nat):Int)=r):uC P o S [] (.d (.val (.int k r))) :=
 eE ho hx hy rfl fun w=>by subst hr;simp [binOp,Op.intBits]
theorem and_i64{m n:Nat}(hm:m<9223372036854775808)(hn:n<9223372036854775808):IntKind.i64.wrap (((BitVec.ofInt IntKind.i64.bits ((m:Nat):Int) &&& BitVec.ofInt IntKind.i64.bits ((n:Nat):Int)).toNat:Nat):Int)=((m &&& n:Nat):Int):=by
 have h1:(m &&& n)<=m:=Nat.and_le_left
 have e:(BitVec.ofInt IntKind.i64.bits ((m:Nat):Int) &&& BitVec.ofInt IntKind.i64.bits ((n:Nat):Int)).toNat=m &&& n:=by
  rw[BitVec.toNat_and]
  show (BitVec.ofInt 64 ((m:Nat):Int)).toNat &&& (BitVec.ofInt 64 ((n:Nat):Int)).toNat=_
  rw[BitVec.toNat_ofInt,BitVec.toNat_ofInt]
  congr 1<;>omega
 rw[e]
 exact wi64 rfl (by omega) (by omega)
theorem oAb{m n:Nat}(r:Nat)(ho:o.op=.binOp .and T x y T':=by exact rfl)(hx:ev S x=.d (.val (.int .i64 ((m:Nat):Int))):=by exact rfl)(hy:ev S y=.d (.val (.int .i64 ((n:Nat):Int))):=by exact rfl)(hm:m<9223372036854775808:=by omega)(hn:n<9223372036854775808:=by omega)(hr:(m &&& n)=r:=by exact rfl):uC P o S [] (.d (.val (.int .i64 ((r:Nat):Int)))) :=
 hr▸e_and ho hx hy (and_i64 hm hn)
theorem shr1(m:Nat):((m:Nat):Int).fdiv (2 ^ (min 1 IntKind.i64.bits))=((m / 2:Nat):Int):=by
 rw[Int.fdiv_eq_ediv_of_nonneg _ (by decide)]
 show ((m:Nat):Int) / (2 ^ 1)=_
 omega
def strB(P:Program)(T:TypeId):Bool:=match P.underlying T with | some .string=>true | _=>false
theorem str_of{T:TypeId}(h:strB P T=true):P.underlying T=some .string:=by
 unfold strB at h
 split at h
 ·assumption
 ·cases h
theorem oLstr{b:ByteArray}(hT:strB P T=true)(r:Nat)(ho:o.op=.call { callee:=.builtin .len,args:=#[x],argTypes:=#[T] }:=by exact rfl)(hx:ev S x=.d (.val (.string b)):=by exact rfl)(hr:b.size=r:=by exact rfl):uC P o S [] (.d (.val (.int .i64 ((r:Nat):Int)))) :=
 uC.same fun a w D β hop _=>by
  have h1:=hop x (by simp [ho,Op.operands,Call.operands])
  rw[hx] at h1
  subst hr
  exact ⟨.int .i64 ((b.size:Nat):Int),by simp [execOp,ho,resolve,invoke,builtin,uO h1,Builtin.len_,run_underlying (str_of hT),goInt],.val _⟩
theorem oSstr{b r:ByteArray}{l h:Nat}{lo hi:Operand}{kl kh:IntKind}(hT:strB P T=true)(ho:o.op=.slice T x (some lo) (some hi) none:=by exact rfl)(hx:ev S x=.d (.val (.string b)):=by exact rfl)(hlo:ev S lo=.d (.val (.int kl ((l:Nat):Int))):=by exact rfl)(hhi:ev S hi=.d (.val (.int kh ((h:Nat):Int))):=by exact rfl)
  (h1:l<=h:=by decide) (h2:h<=b.size:=by decide) (hr:b.extract l h=r:=by kernel_rfl):uC P o S [] (.d (.val (.string r))) :=
 uC.same fun a w D β hop _=>by
  have p1:=hop x (by simp [ho,Op.operands])
  have p2:=hop lo (by simp [ho,Op.operands])
  have p3:=hop hi (by simp [ho,Op.operands])
  rw[hx] at p1
  rw[hlo] at p2
  rw[hhi] at p3
  subst hr
  have b1:∀ c:BoundsCode,(Instr.sliceBound (.int kh (h:Int)) b.size c).run P w=.ok h w:=fun _=>gF h2 w
  have b2:∀ c:BoundsCode,(Instr.sliceBound (.int kl (l:Int)) h c).run P w=.ok l w:=fun _=>gF h1 w
  exact ⟨.string (b.extract l h),by simp [execOp,ho,uO p1,uO p2,uO p3,Instr.sliceAt,run_underlying (str_of hT),Instr.slice,Instr.sliceBounds,b1,b2],.val _⟩
end Go.Fid
namespace Go.Fid
theorem bit_and(n b:Nat):(n &&& 2 ^ b=0)↔n / 2 ^ b % 2=0:=by
 have hb:n.testBit b=decide (n / 2 ^ b % 2=1):=Nat.testBit_eq_decide_div_mod_eq
 have key:(n &&& 2 ^ b=0)↔n.testBit b=false:=by
  constructor
  ·intro h
   have:=congrArg (fun m:Nat=>m.testBit b) h
   simpa [Nat.testBit_and,Nat.testBit_two_pow] using this
  ·intro h
   apply Nat.eq_of_testBit_eq
   intro i
   rw[Nat.testBit_and,Nat.testBit_two_pow,Nat.zero_testBit]
   by_cases e:b=i
   ·subst e;rw[h];rfl
   ·simp [e]
 rw[key,hb,decide_eq_false_iff_not]
 omega
end Go.Fid
