/- Part 21 of a proof: rules, plain facts, and functions walked. -/
import Derived.Test.YteimogfidbkpnabGreatM20
import Derived.Maps.RangeRun
set_option linter.all false
namespace Go.Fid
open Go.RowKit (Below)
def SV.isHob:SV→Bool
 |.hob _ _ _=>true
 |_=>false
def noHobS(sl:SL):Bool:=sl.all fun p=>!p.2.isHob
def NoHobB(bs:BS):Prop:=∀ k cs,kD bs k=some cs→(cs.all fun x=>!x.isHob)=true
theorem nh_nil:NoHobB []:=fun k cs h=>by simp [kD] at h
theorem nh_cons{k:Nat}{cs:List SV}{bs:BS}(h1:(cs.all fun x=>!x.isHob)=true)(h:NoHobB bs):NoHobB ((k,some cs)::bs):=fun j c hc=>by
 rw[jR] at hc
 split at hc
 ·injection hc with hc;subst hc;exact h1
 ·exact h j c hc
theorem nh_map{α:Type}(f:α→kF)(l:List α):((l.map fun g=>SV.d (f g)).all fun x=>!x.isHob)=true:=by
 rw[List.all_map,List.all_eq_true];intro x _;rfl
theorem noHob_get{sl:SL}(h:noHobS sl=true)(t:Nat):(jY sl t).isHob=false:=by
 induction sl with
 |nil=>rfl
 |cons p l ih=>
  obtain ⟨j,x⟩:=p
  simp only[noHobS,List.all_cons,Bool.and_eq_true] at h
  rw[qG]
  split
  ·simpa using h.1
  ·exact ih h.2
theorem turned_repM{w:World}{q:Nat}{ob ob':Obj}(h:w.heap[q]?=some ob)(hc:ob.isCells=false)(hc':ob'.isCells=false){D:kU}{β:qE}{v:Value}{x:SV}(hx0:x.isHob=false)(hx:qB w D β v x):qB (w.putObj q ob') D β v x:=by
 cases x with
 |d x=>exact uD.mono (fun t g o hd=>⟨hd,gB h hc hc' g o⟩) hx
 |ref k o=>exact hx
 |own k t s n=>
  rcases hx with hx | ⟨b,cap,vs,h1,h2,h3,h4⟩
  ·exact .inl hx
  ·have hne:b≠q:=fun e=>by subst e;rw[h] at h3;injection h3 with h3;subst h3;cases hc
   exact .inr ⟨b,cap,vs,h1,h2,(World.putObj_heap_other hne).trans h3,h4⟩
 |clo f ks=>exact hx
 |emp=>exact hx
 |view k o n=>exact hx
 |hob u b ob'=>cases hx0
 |pr k t s n x=>
  obtain ⟨v1,v2,e,g1,g2⟩:=hx
  refine ⟨v1,v2,e,?_,uD.mono (fun t g o hd=>⟨hd,gB h hc hc' g o⟩) g2⟩
  rcases g1 with hx | ⟨b,cap,vs,h1,h2,h3,h4⟩
  ·exact .inl hx
  ·have hne:b≠q:=fun e=>by subst e;rw[h] at h3;injection h3 with h3;subst h3;cases hc
   exact .inr ⟨b,cap,vs,h1,h2,(World.putObj_heap_other hne).trans h3,h4⟩
 |refx k o b=>exact hx
 |bnd f k o=>exact hx
 |ownx k t s n u=>
  refine ⟨hx.1,?_⟩
  rcases hx.2 with hx | ⟨b,cap,vs,h1,h2,h3,h4⟩
  ·exact .inl hx
  ·have hne:b≠q:=fun e=>by subst e;rw[h] at h3;injection h3 with h3;subst h3;cases hc
   exact .inr ⟨b,cap,vs,h1,h2,(World.putObj_heap_other hne).trans h3,h4⟩
 |junk=>trivial
section
variable {P:Program} {n:Fr} {C:dS} {a:Act} {w:World} {st:PS}
theorem sim_turnedM{q:Nat}{ob ob':Obj}(h:gE C a w st)(hs1:noHobS st.sl=true)(hs2:NoHobB st.bs)(hq:w.heap[q]?=some ob)(hc:ob.isCells=false)(hc':ob'.isCells=false)(h0:C.w0.heap.size≤q)(h1:∀ o,C.w1.heap[q]?=some o→o.isCells=true)(hne:∀ ds,ob≠.deferred ds):gE C a (w.putObj q ob') st:=by
 obtain ⟨D,β,h⟩:=h
 have hsz:(w.putObj q ob').heap.size=w.heap.size:=by simp [World.putObj]
 refine ⟨D,β,⟨h.base.defers.keep fun q' hq' _=>?_,h.base.size,fun t g o hd=>(gB hq hc hc' g o).trans (h.base.keep t g o hd),fun k o hk ho=>?_,h.base.pin,eL h.base.below h0,h.base.dmono,h.base.dnew,fun t g o hd=>by rw[hsz];exact h.base.dok t g o hd⟩,
  ⟨fun k cs hk=>?_,h.mem.inj⟩,h.high,fun t=>turned_repM hq hc hc' (noHob_get hs1 t) (h.slots t)⟩
 ·have:q'≠q:=fun e=>by subst e;rw[hq] at hq';injection hq' with e;exact hne _ e
  exact (World.putObj_heap_other this).trans hq'
 ·have:k≠q:=fun e=>by subst e;rw[h1 o hk] at ho;cases ho
  exact (World.putObj_heap_other this).trans (h.base.oth k o hk ho)
 ·rcases h.mem.ok k cs hk with hx | ⟨b,vs,T,g1,g2,g3,g4,g5⟩
  ·exact .inl hx
  ·have hne:b≠q:=fun e=>by subst e;rw[hq] at g2;injection g2 with g2;subst g2;cases hc
   refine .inr ⟨b,vs,T,g1,(World.putObj_heap_other hne).trans g2,g3,fun i x hi=>?_,g5⟩
   obtain ⟨u,e1,e2,e3⟩:=g4 i x hi
   have hnh:=List.all_eq_true.1 (hs2 k cs hk) x (List.mem_of_getElem? hi)
   exact ⟨u,e1,e2,turned_repM hq hc hc' (by simpa using hnh) e3⟩
abbrev OSt:=List (Nat × Obj)
structure ObjOk (C:dS) (w:World) (b:Nat) (o:Obj):Prop where
 at_:w.heap[b]?=some o
 nc:o.isCells=false
 nd:∀ ds,o≠.deferred ds
 h0:C.w0.heap.size≤b
 h1:∀ o',C.w1.heap[b]?=some o'→o'.isCells=true
def aF(C:dS)(w:World)(os:OSt):Prop:=∀ p∈os,ObjOk C w p.1 p.2
structure XS where
 st:PS
 os:OSt
def SimO(C:dS)(a:Act)(w:World)(x:XS):Prop:=gE C a w x.st∧aF C w x.os
def OWp(P:Program)(n:Fr)(c:Code)(Q:Exit→XS→Prop)(x:XS):Prop :=
 ∀ (C:dS) (a:Act) (w:World) (N:Nat),C.n=n→SimO C a w x→c.wpIn (fen n) N P (fun e a' w'=>∃ x',SimO C a' w' x'∧Q e x') a w
def OThen(next:XS→Prop)(Q:Exit→XS→Prop):Exit→XS→Prop
 |.normal,x=>next x
 |e,x=>Q e x
def OBlock(id:Nat)(Q:Exit→XS→Prop):Exit→XS→Prop
 |.exit id',x=>if id'=id then Q .normal x else Q (.exit id') x
 |e,x=>Q e x
def OImp(x y:XS):Prop:=∀ (C:dS) (a:Act) (w:World),SimO C a w x→SimO C a w y
variable {Q Q':Exit→XS→Prop} {x y:XS} {os:OSt}
theorem aF.kept{w':World}{st':PS}{a':Act}(h:aF C w os)(hs:gE { C with w1:=w } a' w' st'):aF C w' os:=fun p hp=>by
 obtain ⟨D,β,hb⟩:=hs
 have g:=h p hp
 exact ⟨hb.base.oth p.1 p.2 g.at_ g.nc,g.nc,g.nd,g.h0,g.h1⟩
theorem vZ{c:Code}(h:qU P n c (fun e s=>Q e ⟨s,os⟩) st):OWp P n c Q ⟨st,os⟩:=fun C a w N hn ⟨hs,ho⟩=>by
 refine wpIn_mono (h { C with w1:=w } a w N hn (sim_from hs)) fun e a' w' ⟨s,h1,h2⟩=>⟨⟨s,os⟩,⟨sim_back h1 hs,ho.kept h1⟩,h2⟩
theorem owp_down{c:Code}{Q:Exit→PS→Prop}(h:OWp P n c (fun e x=>Q e x.st) ⟨st,[]⟩):qU P n c Q st:=fun C a w N hn hs=>
 wpIn_mono (h C a w N hn ⟨hs,fun p hp=>by cases hp⟩) fun e a' w' ⟨x,h1,h2⟩=>⟨x.st,h1.1,h2⟩
theorem cR{c:Code}(h:OImp x y)(hp:OWp P n c Q y):OWp P n c Q x:=fun C a w N hn hs=>hp C a w N hn (h C a w hs)
theorem xU{st':PS}(h:kK st st'):OImp ⟨st,os⟩ ⟨st',os⟩:=fun C a w ⟨h1,h2⟩=>⟨h C a w h1,h2⟩
theorem oimp_drop{os':OSt}(h:∀ p∈os',p∈os):OImp ⟨st,os⟩ ⟨st,os'⟩:=fun C a w ⟨h1,h2⟩=>⟨h1,fun p hp=>h2 p (h p hp)⟩
theorem OImp.trans{z:XS}(h:OImp x y)(k:OImp y z):OImp x z:=fun C a w hs=>k C a w (h C a w hs)
theorem OImp.refl(x:XS):OImp x x:=fun _ _ _ h=>h
theorem uV{c d:Code}(h:OWp P n c (OThen (OWp P n d Q) Q) x):OWp P n (.seq c d) Q x:=fun C a w N hn hs=>by
 refine wpIn_seq (wpIn_mono (h C a w N hn hs) fun e a' w' ⟨s,h1,h2⟩=>?_)
 cases e with
 |normal=>exact h2 C a' w' N hn h1
 |_=>exact ⟨s,h1,h2⟩
theorem owp_skip(h:Q .normal x):OWp P n .skip Q x:=fun _ _ _ _ _ hs=>wpIn_skip ⟨x,hs,h⟩
theorem owp_exit{id:Nat}(h:Q (.exit id) x):OWp P n (.exit id) Q x:=fun _ _ _ _ _ hs=>wpIn_exit ⟨x,hs,h⟩
theorem cS{id:Nat}{c:Code}(h:OWp P n c (OBlock id Q) x):OWp P n (.block id c) Q x:=fun C a w N hn hs=>by
 refine wpIn_block (wpIn_mono (h C a w N hn hs) fun e a' w' ⟨s,h1,h2⟩=>?_)
 cases e with
 |exit id'=>
  simp only[Exit.inBlock]
  simp only[OBlock] at h2
  split
  ·rename_i e;rw[if_pos e] at h2;exact ⟨s,h1,h2⟩
  ·rename_i e;rw[if_neg e] at h2;exact ⟨s,h1,h2⟩
 |_=>exact ⟨s,h1,h2⟩
theorem fM{c:Operand}{d e:Code}{b:Bool}(hc:ev (jY st.sl) c=.d (.val (.bool b)))(h1:b=true→OWp P n d Q ⟨st,os⟩)(h2:b=false→OWp P n e Q ⟨st,os⟩):OWp P n (.cond c d e) Q ⟨st,os⟩:=fun C a w N hn hs=>by
 obtain ⟨D,β,hs'⟩:=id hs.1
 have hv:a.eval c=.bool b:=by
  have:qB w D β (a.eval c) (ev (jY st.sl) c):=by
   cases c with
   |tmp t=>exact hs'.slots t
   |const v=>exact uD.val v
   |func f=>exact uD.val _
   |global g=>trivial
  rw[hc] at this
  exact rep_bool this
 exact wpIn_cond_split hv (fun e=>h1 e C a w N hn hs) (fun e=>h2 e C a w N hn hs)
theorem owp_loop{α:Type}{c:Code}(S:α→XS)(I:α→Prop)(μ:α→Nat)(x0:α)(h0:OImp x (S x0))(hI:I x0)(round:∀ y,I y→OWp P n c (OThen (fun s=>∃ z,OImp s (S z)∧I z∧μ z<μ y) Q) (S y)):OWp P n (.loop c) Q x:=fun C a w N hn hs=>by
 refine wpIn_loop_ghost (fun m a w=>∃ y,I y∧μ y=m∧SimO C a w (S y)) (μ x0) ⟨x0,hI,rfl,h0 C a w hs⟩ ?_
 rintro m a w ⟨y,hy,rfl,hsy⟩
 refine wpIn_mono (round y hy C a w N hn hsy) fun e a' w' ⟨s,h1,h2⟩=>?_
 cases e with
 |normal=>
  obtain ⟨z,g1,g2,g3⟩:=h2
  exact ⟨μ z,g3,z,g2,rfl,g1 C a' w' h1⟩
 |_=>exact ⟨s,h1,h2⟩
inductive OStep (P:Program) (n:Fr) (ops:Array Oper):XS→Oper→XS→Prop
 |old {st st':PS} {o:Oper} {os:OSt} (h:Step P n ops st o st'):OStep P n ops ⟨st,os⟩ o ⟨st',os⟩
 |sem {x:XS} {o:Oper} {x':XS} (h:∀ (C:dS) (a:Act) (w:World) (K:Act→World→Prop) (Q:Exit→Act→World→Prop),C.n=n→SimO C a w x→(∀ a' w',SimO C a' w' x'→K a' w')→o.wp P a w K Q) (hg:o.guard=none):OStep P n ops x o x'
inductive yL (P:Program) (n:Fr) (ops:Array Oper) (Y:XS→Prop):XS→List Oper→Prop
 |nil {x:XS} (h:Y x):yL P n ops Y x []
 |cons {x x':XS} {o:Oper} {l:List Oper} (h:OStep P n ops x o x') (hr:yL P n ops Y x' l):yL P n ops Y x (o::l)
 |new {x:XS} {o:Oper} {l:List Oper} (X:Nat→XS) (h:∀ (C:dS) (a:Act) (w:World) (K:Act→World→Prop) (Q:Exit→Act→World→Prop),C.n=n→SimO C a w x→(∀ a' w' b,SimO C a' w' (X b)→K a' w')→o.wp P a w K Q) (hg:o.guard=none) (hr:∀ b,yL P n ops Y (X b) l):yL P n ops Y x (o::l)
 |ex {α:Type} {x:XS} {o:Oper} {l:List Oper} (X:α→XS) (I:α→Prop) (h:∀ (C:dS) (a:Act) (w:World) (K:Act→World→Prop) (Q:Exit→Act→World→Prop),C.n=n→SimO C a w x→(∀ a' w' b,I b→SimO C a' w' (X b)→K a' w')→o.wp P a w K Q) (hg:o.guard=none) (hr:∀ b,I b→yL P n ops Y (X b) l):yL P n ops Y x (o::l)
theorem wanted_none{o:Oper}(hg:o.guard=none)(f:Nat→Option Bool):Region.wanted o f=true:=by simp [Region.wanted,hg]
theorem osteps_sound{ops:Array Oper}{Y:XS→Prop}{l:List Oper}(h:yL P n ops Y x l)(hp:l.all yB=true)(hn:C.n=n){N:Nat}{Q:Exit→Act→World→Prop}(hk:∀ a' w' y,SimO C a' w' y→Y y→Q .normal a' w'):∀ {a:Act} {w:World},SimO C a w x→wpListIn (fen n) N P ops Q l a w:=by
 induction h with
 |nil hY=>intro a w hs;exact wpListIn_nil (hk a w _ hs hY)
 |cons h hr ih=>
  intro a w hs
  simp only[List.all_cons,Bool.and_eq_true] at hp
  refine wpListIn_step fun K hK=>?_
  cases h with
  |old h=>
   have h1:=step_sound (C:={ C with w1:=w }) h hn (sim_from hs.1) (Q:=Q) fun a' w' hs'=>hK a' w' (ih hp.2 ⟨sim_back hs' hs.1,hs.2.kept hs'⟩)
   split
   ·rename_i e;rw[if_pos e] at h1;exact mN hp.1 h1
   ·rename_i e;rw[if_neg e] at h1;exact ⟨fun _ _=>trivial,h1⟩
  |sem h hg=>
   rw[if_pos (wanted_none hg _)]
   exact mN hp.1 (h C a w K Q hn hs fun a' w' hs'=>hK a' w' (ih hp.2 hs'))
 |new X h hg hr ih=>
  intro a w hs
  simp only[List.all_cons,Bool.and_eq_true] at hp
  refine wpListIn_step fun K hK=>?_
  rw[if_pos (wanted_none hg _)]
  exact mN hp.1 (h C a w K Q hn hs fun a' w' b hs'=>hK a' w' (ih b hp.2 hs'))
 |ex X I h hg hr ih=>
  intro a w hs
  simp only[List.all_cons,Bool.and_eq_true] at hp
  refine wpListIn_step fun K hK=>?_
  rw[if_pos (wanted_none hg _)]
  exact mN hp.1 (h C a w K Q hn hs fun a' w' b hb hs'=>hK a' w' (ih b hb hp.2 hs'))
theorem nY{id:Nat}{l:List Oper}(h:yL P n l.toArray (Q .normal) x l)(hp:l.all yB=true:=by rfl):OWp P n (.region id l.toArray false) Q x:=fun C _ _ _ hn hs=>by
 subst hn
 exact wpIn_region_lit (osteps_sound (C:=C) h hp rfl (fun _ _ y hs' hY=>⟨y,hs',hY⟩) hs)
theorem oimp_hob{t b:Nat}{v:Value}{o:Obj}(ht:jY st.sl t=.d (.val v))(hm:(b,o)∈os)(ho:Obj.isMp o=true):OImp ⟨st,os⟩ ⟨⟨(t,.hob v b o)::st.sl,st.bs⟩,os⟩:=fun C a w ⟨⟨D,β,hs⟩,h2⟩=>by
 refine ⟨⟨D,β,hs.base,hs.mem,hs.high,fun u=>?_⟩,h2⟩
 rw[qG]
 split
 ·rename_i e
  subst e
  have h1:=hs.slots t
  rw[ht] at h1
  exact ⟨qM h1,(h2 _ hm).at_,ho⟩
 ·exact hs.slots u
theorem simp_hob{t b:Nat}{v:Value}{o:Obj}(ht:jY st.sl t=.hob v b o):kK st ⟨(t,.d (.val v))::st.sl,st.bs⟩ :=
 recast ht fun w D β v' h=>by rw[h.1];exact uD.val _
end
def cE(p:List Int):List MapEntry:=(List.range p.length).map fun i=>{ key:=.int .i64 ((i:Nat):Int),val:=.int .i64 (p.getD i 0),born:=i }
def gO(p:List Int):Obj:=.map (cE p).toArray p.length
theorem yW{p:List Int}{i:Nat}(h:i<p.length):(cE p)[i]?=some { key:=.int .i64 ((i:Nat):Int),val:=.int .i64 (p.getD i 0),born:=i }:=by
 simp [cE,List.getElem?_map,List.getElem?_range h]
theorem dM(p:List Int):(cE p).length=p.length:=by simp [cE]
theorem ents_key{p:List Int}{x:MapEntry}(h:x∈cE p):∃ i,i<p.length∧x={ key:=.int .i64 ((i:Nat):Int),val:=.int .i64 (p.getD i 0),born:=i }:=by
 obtain ⟨i,h1,h2⟩:=List.mem_map.1 h
 exact ⟨i,by simpa using h1,h2.symm⟩
theorem ents_isKey(p:List Int):∀ x∈(cE p).toArray.toList,MapKept.IsKey (.int .i64) x.key:=fun x hx=>by
 obtain ⟨i,_,rfl⟩:=ents_key (by simpa using hx);rfl
theorem find_in{p:List Int}{k:Nat}(h:k<p.length):Instr.findNow (.int .i64) (.int .i64 ((k:Nat):Int)) (cE p).toArray.toList 0=some (some (k,.int .i64 (p.getD k 0))):=by
 rcases MapKept.findNow_spec (d:=.int .i64) (k:=.int .i64 ((k:Nat):Int)) rfl (cE p).toArray.toList 0 (ents_isKey p) with ⟨h1,h2⟩ | ⟨j,e,h1,h2,h3⟩
 ·exact absurd rfl (h2 _ (by simpa using List.mem_of_getElem? (yW h)))
 ·rw[List.toList_toArray] at h2
  have hj:j<p.length:=by have:=(List.getElem?_eq_some_iff.1 h2).1;rwa [dM] at this
  rw[yW hj] at h2
  injection h2 with h2
  subst h2
  simp only[Value.int.injEq,true_and] at h3
  obtain rfl:j=k:=by omega
  rw[h1,Nat.zero_add]
theorem find_out{p:List Int}:Instr.findNow (.int .i64) (.int .i64 ((p.length:Nat):Int)) (cE p).toArray.toList 0=some none:=by
 rcases MapKept.findNow_spec (d:=.int .i64) (k:=.int .i64 ((p.length:Nat):Int)) rfl (cE p).toArray.toList 0 (ents_isKey p) with ⟨h1,h2⟩ | ⟨j,e,h1,h2,h3⟩
 ·exact h1
 ·rw[List.toList_toArray] at h2
  have hj:j<p.length:=by have:=(List.getElem?_eq_some_iff.1 h2).1;rwa [dM] at this
  rw[yW hj] at h2
  injection h2 with h2
  subst h2
  simp only[Value.int.injEq,true_and] at h3
  omega
theorem ents_set{p:List Int}{k:Nat}{v:Int}(h:k<p.length):(cE p).toArray.modify k (fun e=>{ e with key:=.int .i64 ((k:Nat):Int),val:=.int .i64 v })=(cE (p.set k v)).toArray:=by
 apply Array.ext_getElem?
 intro i
 rw[Array.getElem?_modify,List.getElem?_toArray,List.getElem?_toArray]
 by_cases hi:i<p.length
 ·rw[yW hi,yW (by simpa using hi)]
  by_cases hk:k=i
  ·subst hk
   simp [List.getD_eq_getElem?_getD,List.getElem?_set,h]
  ·simp [List.getD_eq_getElem?_getD,List.getElem?_set,hk]
 ·rw[List.getElem?_eq_none (by rw[dM];omega),List.getElem?_eq_none (by rw[dM];simp;omega)]
  simp
theorem ents_push(p:List Int)(v:Int):(cE p).toArray.push { key:=.int .i64 ((p.length:Nat):Int),val:=.int .i64 v,born:=p.length }=(cE (p++[v])).toArray:=by
 apply Array.ext_getElem?
 intro i
 rw[Array.getElem?_push,List.getElem?_toArray,List.getElem?_toArray]
 simp only[List.size_toArray,dM]
 by_cases h1:i=p.length
 ·subst h1
  rw[if_pos rfl,yW (by simp)]
  simp [List.getD_eq_getElem?_getD]
 ·rw[if_neg h1]
  by_cases h2:i<p.length
  ·rw[yW h2,yW (by simp;omega)]
   simp [List.getD_eq_getElem?_getD,List.getElem?_append_left h2]
  ·rw[List.getElem?_eq_none (by rw[dM];omega),List.getElem?_eq_none (by rw[dM];simp;omega)]
section
variable {P:Program} {T K E:TypeId} {w:World} {b:Nat} {p:List Int}
def mapB(P:Program)(T:TypeId):Bool:=match P.underlying T with
 |some (.map K E)=>(match P.underlying K,P.underlying E with
  |some (.int .i64),some (.int .i64)=>true
  |_,_=>false)
 |_=>false
theorem map_of(h:mapB P T=true):∃ K E,P.underlying T=some (.map K E)∧P.underlying K=some (.int .i64)∧P.underlying E=some (.int .i64):=by
 unfold mapB at h
 split at h
 ·rename_i K E hT
  split at h
  ·rename_i hK hE;exact ⟨K,E,hT,hK,hE⟩
  ·cases h
 ·cases h
theorem run_look(hT:mapB P T=true)(hb:w.heap[b]?=some (gO p)){k:Nat}(hk:k<p.length):(Instr.lookup T (.map (some b)) (.int .i64 ((k:Nat):Int)) false).run P w=.ok (.int .i64 (p.getD k 0)) w:=by
 obtain ⟨K,E,h1,h2,h3⟩:=map_of hT
 have hck:∀ e,(Instr.checkKey e 10000 K (.int .i64 ((k:Nat):Int))).run P w=.ok () w:=fun e=>MapKept.run_checkKey (k:=.int .i64 ((k:Nat):Int)) h2 rfl e 9999
 simp [Instr.lookup,run_underlying h1,MapKept.run_getObj_map hb,hck,MapKept.run_findKey h2 (find_in hk),Result.andThen]
theorem run_set(hT:mapB P T=true)(hb:w.heap[b]?=some (gO p)){k:Nat}(hk:k<p.length)(v:Int):(Instr.mapUpdate T (.map (some b)) (.int .i64 ((k:Nat):Int)) (.int .i64 v)).run P w=.ok () (w.putObj b (gO (p.set k v))):=by
 obtain ⟨K,E,h1,h2,h3⟩:=map_of hT
 have hck:∀ e,(Instr.checkKey e 10000 K (.int .i64 ((k:Nat):Int))).run P w=.ok () w:=fun e=>MapKept.run_checkKey (k:=.int .i64 ((k:Nat):Int)) h2 rfl e 9999
 have hj:(cE p).toArray[k]?=some { key:=.int .i64 ((k:Nat):Int),val:=.int .i64 (p.getD k 0),born:=k }:=by rw[List.getElem?_toArray,yW hk]
 have hks:(Instr.keyThatStays (.int .i64 ((k:Nat):Int)) (.int .i64 ((k:Nat):Int))).run P w=.ok (.int .i64 ((k:Nat):Int)) w:=MapKept.run_keyThatStays (d:=.int .i64) rfl
 simp only[Instr.mapUpdate,Sem.run_bind,run_underlying h1,MapKept.run_getObj_map hb,hck,MapKept.run_findKey h2 (find_in hk),Result.andThen_ok,hj,Option.map_some,Option.getD_some,hks,MapKept.run_setObj_map _ hb,ents_set hk]
 simp [World.putObj,gO]
theorem run_ins(hT:mapB P T=true)(hb:w.heap[b]?=some (gO p))(v:Int):(Instr.mapUpdate T (.map (some b)) (.int .i64 ((p.length:Nat):Int)) (.int .i64 v)).run P w=.ok () (w.putObj b (gO (p++[v]))):=by
 obtain ⟨K,E,h1,h2,h3⟩:=map_of hT
 have hck:∀ e,(Instr.checkKey e 10000 K (.int .i64 ((p.length:Nat):Int))).run P w=.ok () w:=fun e=>MapKept.run_checkKey (k:=.int .i64 ((p.length:Nat):Int)) h2 rfl e 9999
 simp only[Instr.mapUpdate,Sem.run_bind,run_underlying h1,MapKept.run_getObj_map hb,hck,MapKept.run_findKey h2 find_out,Result.andThen_ok,MapKept.run_setObj_map _ hb,ents_push]
 simp [World.putObj,gO]
end
section
variable {P:Program} {n:Fr} {ops:Array Oper} {o:Oper} {S:Nat→SV}
theorem e_look{T:TypeId}{x y:Operand}{p:List Int}{b k:Nat}(ho:o.op=.lookup T x y false)(hT:mapB P T=true)(hx:ev S x=.hob (.map (some b)) b (gO p))(hy:ev S y=.d (.val (.int .i64 ((k:Nat):Int))))(hk:k<p.length):qW P o S [] (.d (.val (.int .i64 (p.getD k 0)))) :=
 qW.same fun a w D β hop _=>by
  have h1:=hop x (by simp [ho,Op.operands])
  have h2:=hop y (by simp [ho,Op.operands])
  rw[hx] at h1
  rw[hy] at h2
  obtain ⟨e1,e2,_⟩:=h1
  have e3:=qM h2
  exact ⟨_,by simp [execOp,ho,e1,e3,run_look hT e2 hk],.val _⟩
theorem e_lookZ{T:TypeId}{x y:Operand}{p:List Int}{b:Nat}{z:Int}(ho:o.op=.lookup T x y false)(hT:mapB P T=true)(hx:ev S x=.hob (.map (some b)) b (gO p))(hy:ev S y=.d (.val (.int .i64 z)))(h0:0≤z)(hk:z.toNat<p.length):qW P o S [] (.d (.val (.int .i64 (p.getD z.toNat 0)))) :=
 e_look ho hT hx (hy.trans (by rw[Int.toNat_of_nonneg h0])) hk
variable {st:PS} {os:OSt} {b:Nat}
theorem opnd{C:dS}{a:Act}{w:World}{D:kU}{β:qE}(hs:eF C a w st D β)(y:Operand):qB w D β (a.eval y) (ev (jY st.sl) y):=by
 cases y with
 |tmp t=>exact hs.slots t
 |const v=>exact uD.val v
 |func f=>exact uD.val _
 |global g=>trivial
theorem putJ{C:dS}{a:Act}{w:World}{dst:Option Tmp}{v:Value}(h:gE C a w st)(hd:xK C.n dst=true):gE C (a.put dst v) w ⟨yY dst .junk st.sl,st.bs⟩:=by
 obtain ⟨D,β,hs⟩:=h
 refine ⟨D,β,hs.base.put hd v,hs.mem,hs.high,fun t=>?_⟩
 rw[qX hs.base.size hd,qN]
 split
 ·trivial
 ·exact hs.slots t
theorem putV{C:dS}{a:Act}{w:World}{dst:Option Tmp}{v:Value}(h:gE C a w st)(hd:xK C.n dst=true):gE C (a.put dst v) w ⟨yY dst (.d (.val v)) st.sl,st.bs⟩:=by
 obtain ⟨D,β,hs⟩:=h
 refine ⟨D,β,hs.base.put hd v,hs.mem,hs.high,fun t=>?_⟩
 rw[qX hs.base.size hd,qN]
 split
 ·exact uD.val v
 ·exact hs.slots t
theorem objs_turn{C:dS}{w:World}{o0 o1:Obj}{os:OSt}(h:aF C w ((b,o0)::os))(hb:∀ q∈os,q.1≠b)(h1:o1.isCells=false)(h2:∀ ds,o1≠.deferred ds):aF C (w.putObj b o1) ((b,o1)::os):=fun q hq=>by
 have g:=h (b,o0) (.head _)
 rcases List.mem_cons.1 hq with rfl | hq
 ·exact ⟨World.putObj_heap_same (qK g.at_),h1,h2,g.h0,g.h1⟩
 ·have g2:=h q (.tail _ hq)
  exact ⟨(World.putObj_heap_other (hb q hq)).trans g2.at_,g2.nc,g2.nd,g2.h0,g2.h1⟩
theorem o_set{T:TypeId}{x y z:Operand}{p:List Int}{k:Nat}{v:Int}(ho:o.op=.mapUpdate T x y z)(hT:mapB P T=true)(hx:ev (jY st.sl) x=.d (.val (.map (some b))))(hy:ev (jY st.sl) y=.d (.val (.int .i64 ((k:Nat):Int))))(hz:ev (jY st.sl) z=.d (.val (.int .i64 v)))
  (hk:k<p.length) (hb:∀ q∈os,q.1≠b) (hd:xK n o.dst=true) (h1:noHobS st.sl=true) (h2:NoHobB st.bs) (hg:o.guard=none):OStep P n ops ⟨st,(b,gO p)::os⟩ o ⟨⟨yY o.dst .junk st.sl,st.bs⟩,(b,gO (p.set k v))::os⟩ :=
 .sem (fun C a w K Q hn hs hK=>by
  subst hn
  obtain ⟨D,β,hs1⟩:=hs.1
  have e1:=opnd hs1 x
  have e2:=opnd hs1 y
  have e3:=opnd hs1 z
  rw[hx] at e1
  rw[hy] at e2
  rw[hz] at e3
  have g:=hs.2 (b,gO p) (.head _)
  refine wp_skip_ (w':=w.putObj b (gO (p.set k v))) (by simp [execOp,ho,qM e1,qM e2,qM e3,run_set hT g.at_ hk]) (hK _ _ ⟨putJ (sim_turnedM hs.1 h1 h2 g.at_ rfl rfl g.h0 g.h1 g.nd) hd,objs_turn hs.2 hb rfl (fun ds e=>by cases e)⟩)) hg
theorem o_ins{T:TypeId}{x y z:Operand}{p:List Int}{v:Int}(ho:o.op=.mapUpdate T x y z)(hT:mapB P T=true)(hx:ev (jY st.sl) x=.d (.val (.map (some b))))(hy:ev (jY st.sl) y=.d (.val (.int .i64 ((p.length:Nat):Int))))(hz:ev (jY st.sl) z=.d (.val (.int .i64 v)))
  (hb:∀ q∈os,q.1≠b) (hd:xK n o.dst=true) (h1:noHobS st.sl=true) (h2:NoHobB st.bs) (hg:o.guard=none):OStep P n ops ⟨st,(b,gO p)::os⟩ o ⟨⟨yY o.dst .junk st.sl,st.bs⟩,(b,gO (p++[v]))::os⟩ :=
 .sem (fun C a w K Q hn hs hK=>by
  subst hn
  obtain ⟨D,β,hs1⟩:=hs.1
  have e1:=opnd hs1 x
  have e2:=opnd hs1 y
  have e3:=opnd hs1 z
  rw[hx] at e1
  rw[hy] at e2
  rw[hz] at e3
  have g:=hs.2 (b,gO p) (.head _)
  refine wp_skip_ (w':=w.putObj b (gO (p++[v]))) (by simp [execOp,ho,qM e1,qM e2,qM e3,run_ins hT g.at_]) (hK _ _ ⟨putJ (sim_turnedM hs.1 h1 h2 g.at_ rfl rfl g.h0 g.h1 g.nd) hd,objs_turn hs.2 hb rfl (fun ds e=>by cases e)⟩)) hg
theorem sim_alloc{C:dS}{a:Act}{w:World}{ob:Obj}(h:gE C a w st):gE C a (w.alloc ob) st:=by
 obtain ⟨D,β,hs⟩:=h
 have hb:Below w.heap.size w (w.alloc ob):=(Below.refl _ _).alloc (Nat.le_refl _) _
 exact ⟨D,β,hs.base.up hb (fR.of_same D),hs.mem.up hb (fR.of_same D) hs.base.dok,hs.high,fun t=>(hs.slots t).up hb (fR.of_same D) hs.base.dok⟩
theorem objs_alloc{C:dS}{a:Act}{w:World}{ob:Obj}(hs:gE C a w st)(h:aF C w os)(h1:ob.isCells=false)(h2:∀ ds,ob≠.deferred ds):aF C (w.alloc ob) ((w.heap.size,ob)::os):=fun q hq=>by
 obtain ⟨D,β,hs⟩:=hs
 rcases List.mem_cons.1 hq with rfl | hq
 ·refine ⟨World.alloc_heap_new w ob,h1,h2,hs.base.below.size,fun o' ho'=>?_⟩
  cases hc:o'.isCells with
  |true=>rfl
  |false=>have:=qK (hs.base.oth _ _ ho' hc);omega
 ·have g:=h q hq
  have hb:Below w.heap.size w (w.alloc ob):=(Below.refl _ _).alloc (Nat.le_refl _) _
  exact ⟨(hb.block _ (qK g.at_)).trans g.at_,g.nc,g.nd,g.h0,g.h1⟩
theorem os_make{Y:XS→Prop}{T:TypeId}{l:List Oper}(ho:o.op=.makeMap T none)(hT:mapB P T=true)(hd:xK n o.dst=true)(hg:o.guard=none)(hr:∀ b,(∀ q∈os,q.1≠b)→yL P n ops Y ⟨⟨yY o.dst (.d (.val (.map (some b)))) st.sl,st.bs⟩,(b,gO [])::os⟩ l):yL P n ops Y ⟨st,os⟩ (o::l) :=
 .ex (fun b:Nat=>⟨⟨yY o.dst (.d (.val (.map (some b)))) st.sl,st.bs⟩,(b,gO [])::os⟩) (fun b=>∀ q∈os,q.1≠b) (fun C a w K Q hn hs hK=>by
  subst hn
  have hrun:(execOp a.eval o).run P w=.ok (.value (.map (some w.heap.size))) (w.alloc (.map #[] 0)):=by
   simp [execOp,ho,Instr.makeMap]
  exact zV hrun (hK _ _ w.heap.size (fun q hq e=>by have:=qK (hs.2 q hq).at_;omega) ⟨putV (sim_alloc hs.1) hd,objs_alloc hs.1 hs.2 rfl (fun ds e=>by cases e)⟩)) hg hr
def itO(m since:Nat)(seen:List Nat):Obj:=.mapIter (some m) since seen.toArray since
theorem os_range{Y:XS→Prop}{T:TypeId}{x:Operand}{p:List Int}{m:Nat}{l:List Oper}(ho:o.op=.range T x)(hT:mapB P T=true)(hx:ev (jY st.sl) x=.d (.val (.map (some m))))(hm:(m,gO p)∈os)(hd:xK n o.dst=true)(hg:o.guard=none)
  (hr:∀ r,(∀ q∈os,q.1≠r)→yL P n ops Y ⟨⟨yY o.dst (.d (.val (.pointer (some ⟨r,0,none⟩)))) st.sl,st.bs⟩,(r,itO m p.length [])::os⟩ l):yL P n ops Y ⟨st,os⟩ (o::l) :=
 .ex (fun r:Nat=>⟨⟨yY o.dst (.d (.val (.pointer (some ⟨r,0,none⟩)))) st.sl,st.bs⟩,(r,itO m p.length [])::os⟩) (fun r=>∀ q∈os,q.1≠r) (fun C a w K Q hn hs hK=>by
  subst hn
  obtain ⟨D,β,hs1⟩:=hs.1
  have e1:=opnd hs1 x
  rw[hx] at e1
  obtain ⟨K',E,h1,h2,h3⟩:=map_of hT
  have g:=hs.2 _ hm
  have hrun:(execOp a.eval o).run P w=.ok (.value (.pointer (some ⟨w.heap.size,0,none⟩))) (w.alloc (itO m p.length [])):=by
   simp [execOp,ho,qM e1,Instr.range,run_underlying h1,MapKept.run_getObj_map (show w.heap[m]?=some (.map (cE p).toArray p.length) from g.at_),itO]
  exact zV hrun (hK _ _ w.heap.size (fun q hq e=>by have:=qK (hs.2 q hq).at_;omega) ⟨putV (sim_alloc hs.1) hd,objs_alloc hs.1 hs.2 rfl (fun ds e=>by cases e)⟩)) hg hr
theorem mem_leftE{p:List Int}{seen:List Nat}{e:MapEntry}(h:e∈(leftOf (cE p).toArray seen.toArray).toList):∃ k,k<p.length∧k∉seen∧e={ key:=.int .i64 ((k:Nat):Int),val:=.int .i64 (p.getD k 0),born:=k }:=by
 unfold leftOf at h
 rw[Array.toList_filter,List.mem_filter] at h
 obtain ⟨i,h1,rfl⟩:=ents_key (by simpa using h.1)
 refine ⟨i,h1,?_,rfl⟩
 have h2:=h.2
 simp only[Bool.not_eq_true',List.contains_toArray] at h2
 intro hm
 rw[← Bool.not_eq_true] at h2
 exact h2 (by simpa using hm)
theorem left_none{p:List Int}{seen:List Nat}(h:(leftOf (cE p).toArray seen.toArray).size=0):∀ k,k<p.length→k∈seen:=fun k hk=>by
 apply Classical.byContradiction
 intro hn
 have hm:({ key:=.int .i64 ((k:Nat):Int),val:=.int .i64 (p.getD k 0),born:=k }:MapEntry)∈(leftOf (cE p).toArray seen.toArray).toList:=by
  unfold leftOf
  rw[Array.toList_filter,List.mem_filter]
  refine ⟨by simpa using List.mem_of_getElem? (yW hk),?_⟩
  simp only[Bool.not_eq_true',List.contains_toArray]
  rw[← Bool.not_eq_true]
  simpa using hn
 have h0:(leftOf (cE p).toArray seen.toArray).toList=[]:=by
  apply List.eq_nil_of_length_eq_zero
  simpa using h
 rw[h0] at hm;cases hm
theorem run_nextE{w:World}{ty:TypeId}{m r N:Nat}{p:List Int}{seen:List Nat}(hr:w.heap[r]?=some (itO m p.length seen))(hm:w.heap[m]?=some (gO p)) :
  ((∀ k,k<p.length→k∈seen)∧(Instr.next (.pointer (some ⟨r,0,none⟩)) false ty).run P w=.ok (.tuple #[.bool false]) w) ∨
  ∃ k,k<p.length∧k∉seen∧∃ w1:World,(w1=w∨w1=w.drew)∧(Instr.next (.pointer (some ⟨r,0,none⟩)) false ty).run P w=.ok (.tuple #[.bool true,.int .i64 ((k:Nat):Int),.int .i64 (p.getD k 0)]) (w1.putObj r (itO m p.length (seen++[k]))):=by
 rcases run_next_at (P:=P) w ty r m p.length p.length seen.toArray (cE p).toArray p.length hr hm (fun x hx=>by obtain ⟨i,h1,rfl⟩:=ents_key (by simpa using hx);exact h1) (Nat.le_refl _) with ⟨h1,h2⟩ | ⟨e,he,w1,h1,h2⟩
 ·exact .inl ⟨left_none h1,h2⟩
 ·obtain ⟨k,g1,g2,rfl⟩:=mem_leftE he
  refine .inr ⟨k,g1,g2,w1,h1,?_⟩
  rw[h2]
  simp [World.putObj,Go.ChangeMaps.setBlock,itO]
theorem run_entryE{w:World}{m r:Nat}{p:List Int}{seen:List Nat}{k:Nat}(hr:w.heap[r]?=some (itO m p.length (seen++[k])))(hm:w.heap[m]?=some (gO p))(hk:k<p.length):(Instr.entry (.pointer (some ⟨r,0,none⟩))).run P w=.ok (.tuple #[.int .i64 ((k:Nat):Int),.int .i64 (p.getD k 0)]) w:=by
 have h:=run_entry_at (P:=P) w r m p.length seen.toArray (cE p).toArray p.length { key:=.int .i64 ((k:Nat):Int),val:=.int .i64 (p.getD k 0),born:=k } (by rw[hr];simp [itO]) hm (by simpa using List.mem_of_getElem? (yW hk)) (by
  have e:((cE p).toArray.toList.map (·.born))=List.range p.length:=by
   simp [cE,List.map_map,Function.comp_def]
  rw[e];exact List.nodup_range)
 exact h
theorem sim_drew{C:dS}{a:Act}{w:World}(h:gE C a w st):gE C a w.drew st:=by
 obtain ⟨D,β,hs⟩:=h
 exact ⟨D,β,hs.base.draw,hs.mem.up (below_draw w) (fR.of_same D) hs.base.dok,hs.high,fun t=>(hs.slots t).up (below_draw w) (fR.of_same D) hs.base.dok⟩
theorem os_next{Y:XS→Prop}{it:Operand}{p:List Int}{m r N:Nat}{seen:List Nat}{l:List Oper}(hN:N=p.length)(ho:o.op=.next it false)(hx:ev (jY st.sl) it=.d (.val (.pointer (some ⟨r,0,none⟩))))(hm:(m,gO p)∈os)(hb:∀ q∈os,q.1≠r)(hd:xK n o.dst=true)(h1:noHobS st.sl=true)(h2:NoHobB st.bs)(hg:o.guard=none)
  (hr:∀ (q:Option Nat),(match q with | none=>∀ k,k<p.length→k∈seen | some k=>k<p.length∧k∉seen)→yL P n ops Y (match q with
   |none=>⟨⟨yY o.dst (.d (.tup [.val (.bool false)])) st.sl,st.bs⟩,(r,itO m N seen)::os⟩
   |some k=>⟨⟨yY o.dst (.d (.tup [.val (.bool true),.val (.int .i64 ((k:Nat):Int)),.val (.int .i64 (p.getD k 0))])) st.sl,st.bs⟩,(r,itO m N (seen++[k]))::os⟩) l):yL P n ops Y ⟨st,(r,itO m N seen)::os⟩ (o::l) :=
 .ex (fun q:Option Nat=>match q with
   |none=>⟨⟨yY o.dst (.d (.tup [.val (.bool false)])) st.sl,st.bs⟩,(r,itO m N seen)::os⟩
   |some k=>⟨⟨yY o.dst (.d (.tup [.val (.bool true),.val (.int .i64 ((k:Nat):Int)),.val (.int .i64 (p.getD k 0))])) st.sl,st.bs⟩,(r,itO m N (seen++[k]))::os⟩)
  (fun q=>match q with | none=>∀ k,k<p.length→k∈seen | some k=>k<p.length∧k∉seen) (fun C a w K Q hn hs hK=>by
  subst hn hN
  obtain ⟨D,β,hs1⟩:=hs.1
  have e1:=opnd hs1 it
  rw[hx] at e1
  have g1:=hs.2 _ (.head _)
  have g2:=hs.2 _ (.tail _ hm)
  have tupOk:∀ (vs:List Value) {w':World} {st':PS} {a':Act},gE C a' w' st'→gE C (a'.put o.dst (.tuple vs.toArray)) w' ⟨yY o.dst (.d (.tup (vs.map kF.val))) st'.sl,st'.bs⟩:=fun vs {w' st' a'} h=>by
   obtain ⟨D',β',h'⟩:=h
   refine ⟨D',β',h'.base.put hd _,h'.mem,h'.high,fun t=>?_⟩
   rw[qX h'.base.size hd,qN]
   split
   ·refine uD.tup vs (by simp) fun i v d hv hd'=>?_
    rw[List.getElem?_map,hv] at hd'
    injection hd' with hd'
    subst hd';exact .val v
   ·exact h'.slots t
  rcases run_nextE (P:=P) (ty:=o.type) (N:=0) g1.at_ g2.at_ with ⟨q1,q2⟩ | ⟨k,q1,q2,w1,q3,q4⟩
  ·exact zV (w':=w) (v:=.tuple #[.bool false]) (by simp [execOp,ho,qM e1,q2]) (hK _ _ none q1 ⟨tupOk [.bool false] hs.1,hs.2⟩)
  ·have hs3:gE C a w1 st:=by rcases q3 with rfl | rfl;exact hs.1;exact sim_drew hs.1
   have ho3:aF C w1 ((r,itO m p.length seen)::os):=by rcases q3 with rfl | rfl;exact hs.2;exact fun q hq=>have g:=hs.2 q hq;⟨g.at_,g.nc,g.nd,g.h0,g.h1⟩
   have g3:=ho3 _ (.head _)
   exact zV (w':=w1.putObj r (itO m p.length (seen++[k]))) (v:=.tuple #[.bool true,.int .i64 ((k:Nat):Int),.int .i64 (p.getD k 0)]) (by simp [execOp,ho,qM e1,q4])
    (hK _ _ (some k) ⟨q1,q2⟩ ⟨tupOk [.bool true,.int .i64 ((k:Nat):Int),.int .i64 (p.getD k 0)] (sim_turnedM hs3 h1 h2 g3.at_ rfl rfl g3.h0 g3.h1 g3.nd),objs_turn ho3 hb rfl (fun ds e=>by cases e)⟩)) hg hr
theorem o_entry{it:Operand}{p:List Int}{m r k N:Nat}{seen:List Nat}(hN:N=p.length)(ho:o.op=.entry it)(hx:ev (jY st.sl) it=.d (.val (.pointer (some ⟨r,0,none⟩))))(hm:(m,gO p)∈os)(hi:(r,itO m N (seen++[k]))∈os)(hk:k<p.length)(hd:xK n o.dst=true)(hg:o.guard=none) :
  OStep P n ops ⟨st,os⟩ o ⟨⟨yY o.dst (.d (.tup [.val (.int .i64 ((k:Nat):Int)),.val (.int .i64 (p.getD k 0))])) st.sl,st.bs⟩,os⟩ :=
 .sem (fun C a w K Q hn hs hK=>by
  subst hn hN
  obtain ⟨D,β,hs1⟩:=hs.1
  have e1:=opnd hs1 it
  rw[hx] at e1
  have hrun:(execOp a.eval o).run P w=.ok (.value (.tuple #[.int .i64 ((k:Nat):Int),.int .i64 (p.getD k 0)])) w:=by
   simp [execOp,ho,qM e1,run_entryE (hs.2 _ hi).at_ (hs.2 _ hm).at_ hk]
  refine zV hrun (hK _ _ ⟨⟨D,β,hs1.base.put hd _,hs1.mem,hs1.high,fun t=>?_⟩,hs.2⟩)
  rw[qX hs1.base.size hd,qN]
  split
  ·refine uD.tup [.int .i64 ((k:Nat):Int),.int .i64 (p.getD k 0)] rfl fun i v d hv hd'=>?_
   match i with
   |0=>simp at hv hd';subst hv;subst hd';exact .val _
   |1=>simp at hv hd';subst hv;subst hd';exact .val _
   |i+2=>simp at hv
  ·exact hs1.slots t) hg
end
section
variable {P:Program} {n:Fr} {ops:Array Oper} {o:Oper} {S:SL} {B:BS} {os:OSt} {Y:XS→Prop} {l:List Oper}
theorem oE{x:SV}(h:qW P o (jY S) [] x)(r:yL P n ops Y ⟨⟨(dO o,x)::S,B⟩,os⟩ l)(g:goK n ops S o=true:=by kernel_rfl):yL P n ops Y ⟨⟨S,B⟩,os⟩ (o::l):=by
 obtain ⟨hd,hg,hb⟩:=yV g
 have hs:=Step.e (P:=P) (n:=n) (ops:=ops) (st:=⟨S,B⟩) (o:=o) h hg (by rw[hd];exact hb) (by simp)
 rw[hd] at hs
 exact .cons (.old hs) r
theorem oM(r:yL P n ops Y ⟨⟨(dO o,mvV S o)::S,B⟩,os⟩ l)(h:mvK o=true:=by kernel_rfl)(g:goK n ops S o=true:=by kernel_rfl):yL P n ops Y ⟨⟨S,B⟩,os⟩ (o::l):=oE (kZ h) r g
end
section
variable {F:Fence} {N:Nat} {P:Program} {Q:Exit→Act→World→Prop} {a:Act} {w:World} {b:Frame} {k:List Item} {cs:List Frame}
theorem nB{c:Code}:step P (lone (b.atR a (.code (.scope c)::k)) cs w)=.next (lone (b.atR a (.code c::.inScope c::k)) cs w) :=
 step_lone_go (by simp [stepG,stepG.exec,Frame.atR])
theorem stepR_inScope{c:Code}:step P (lone (b.atR a (.inScope c::k)) cs w)=.next (lone (b.atR a k) cs w) :=
 step_lone_go (by simp [stepG,stepG.exec,Frame.atR])
theorem wpIn_scope{c:Code}(h:c.wpIn F N P (fun e a w=>match e with | .goto _=>False | e=>Q e a w) a w):(Code.scope c).wpIn F N P Q a w:=by
 intro b k cs hro hb hr
 have h0:(lone (b.atR a (.code (.scope c)::k)) cs w).fenced P F:=fenced_calm hb hr rfl
 obtain ⟨e,a₁,w₁,hq,harr⟩:=h b (.inScope c::k) cs hro hb hr
 cases e with
 |normal=>exact ⟨.normal,a₁,w₁,hq,.head h0 nB (StepsIn.trans harr (.one (fenced_calm hb hr rfl) stepR_inScope))⟩
 |exit id=>
  have hx:exitTo id (.inScope c::k)=exitTo id k:=by simp [exitTo]
  exact ⟨.exit id,a₁,w₁,hq,fun k' hk=>.head h0 nB (harr.1 k' (by rw[hx];exact hk)),
   fun hr' hk=>let ⟨k₁,h1,h2⟩:=harr.2 hr' (by rw[hx];exact hk);⟨k₁,h1,.head h0 nB h2⟩⟩
 |goto l=>exact hq.elim
 |ret=>exact ⟨_,a₁,w₁,hq,.of_steps (.one h0 nB) harr⟩
 |panic ch=>exact ⟨_,a₁,w₁,hq,.of_steps (.one h0 nB) harr⟩
 |outgrown=>exact ⟨_,a₁,w₁,hq,.of_steps (.one h0 nB) harr⟩
end
def PScope(Q:Exit→PS→Prop):Exit→PS→Prop
 |.goto _,_=>False
 |e,st=>Q e st
theorem pwp_scope{P:Program}{n:Fr}{Q:Exit→PS→Prop}{st:PS}{c:Code}(h:qU P n c (PScope Q) st):qU P n (.scope c) Q st:=fun C a w N hn hs=>by
 refine wpIn_scope (wpIn_mono (h C a w N hn hs) fun e a' w' ⟨s,h1,h2⟩=>?_)
 cases e with
 |goto l=>exact h2.elim
 |_=>exact ⟨s,h1,h2⟩
section
variable {P:Program} {n:Fr} {Q:Exit→PS→Prop} {st:PS}
def Met{α:Type}(St:α→PS)(I:α→Prop)(s:PS):Prop:=∃ y,kK s (St y)∧I y
theorem pwp_meet{α:Type}{c d:Code}(St:α→PS)(I:α→Prop)(h1:qU P n c (PThen (Met St I) Q) st)(h2:∀ y,I y→qU P n d Q (St y)):qU P n (.seq c d) Q st :=
 jA (pwp_mono h1 fun e s hs=>by
  cases e with
  |normal=>
   obtain ⟨y,g1,g2⟩:=hs
   exact kX g1 (h2 y g2)
  |_=>exact hs)
theorem met{α:Type}{St:α→PS}{I:α→Prop}{s:PS}(y:α)(h1:kK s (St y))(h2:I y):Met St I s:=⟨y,h1,h2⟩
end
end Go.Fid
