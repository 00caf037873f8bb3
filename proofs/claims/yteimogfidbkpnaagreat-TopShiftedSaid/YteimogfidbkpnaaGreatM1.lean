/- Part 1 of a proof: rules, plain facts, and functions walked. -/
import Derived.WalkKit
import Derived.WalkSpells
import Derived.WalkLawsBesides
import Derived.Orders
import Derived.KernelRfl
import Derived.RangeFuncFrom
import Derived.RangeFuncLeaves
import Derived.OrdersIn
import Derived.TacticsIn
set_option linter.all false
namespace Go.Fid
open Go.RowKit (Below)
abbrev qE:=TypeId→Nat→Nat→Prop
abbrev qD:=Nat→Option Nat
inductive jQ where
 |val (v:Value)
 |sl (t:TypeId) (s:Nat) (es:List jQ)
 |agg (cs:List jQ)
 |tup (vs:List jQ)
 |cptr (t:TypeId) (cs:List jQ) (off:Nat)
 |clo (f:FuncId) (caps:List jQ)
instance:Inhabited jQ:=⟨.tup []⟩
def jQ.cells:jQ→List jQ
 |.agg cs=>cs
 |d=>[d]
def qA(es:List jQ):List jQ:=es.flatMap jQ.cells
theorem flat_nil:qA []=[]:=rfl
theorem gN(e:jQ)(es:List jQ):qA (e::es)=e.cells++qA es:=by simp [qA]
theorem flat_append(a b:List jQ):qA (a++b)=qA a++qA b:=by simp [qA]
theorem uZ{s:Nat}:∀ {es:List jQ},(∀ e∈es,e.cells.length=s)→(qA es).length=es.length*s
 |[],_=>by simp [qA]
 |e::es,h=>by
  rw[gN,List.length_append,h e (by simp),uZ (es:=es) (fun x hx=>h x (by simp [hx])),List.length_cons,Nat.add_mul]
  omega
theorem flat_get{s:Nat}:∀ {es:List jQ} {i j:Nat} {e:jQ},(∀ e∈es,e.cells.length=s)→es[i]?=some e→j<s→(qA es)[i*s+j]?=e.cells[j]?
 |[],i,j,e,_,h,_=>by simp at h
 |x::es,0,j,e,hs,h,hj=>by
  simp at h
  subst h
  rw[gN,Nat.zero_mul,Nat.zero_add,List.getElem?_append_left (by rw[hs x (by simp)];exact hj)]
 |x::es,i+1,j,e,hs,h,hj=>by
  have hx:=hs x (by simp)
  have ih:=flat_get (es:=es) (i:=i) (j:=j) (e:=e) (fun y hy=>hs y (by simp [hy])) (by simpa using h) hj
  have h1:(i+1)*s=i*s+s:=by rw[Nat.add_mul];omega
  rw[gN,List.getElem?_append_right (by omega),hx,← ih]
  congr 1
  omega
inductive uT (w:World) (D:qE):Value→jQ→Prop
 |val (v:Value):uT w D v (.val v)
 |sl {t:TypeId} {s:Nat} {es:List jQ} {a:Option Addr} {n cap:Nat} (g off:Nat) (u:Nat→Value) (hn:n=es.length) (hc:n≤cap) (hm:cap≤maxLen)
   (hs:∀ e∈es,e.cells.length=s) (ha:0<n→a=some ⟨g,off,none⟩)
   (hD:∀ i,i<(qA es).length→D t g (off+i)) (hu:∀ i,i<(qA es).length→w.cell? ⟨g,off+i,none⟩=some (u i))
   (h1:∀ i,i<(qA es).length→(u i).oneCell'=true) (hr:∀ (i:Nat) d,(qA es)[i]?=some d→uT w D (u i) d):uT w D (.slice a n cap) (.sl t s es)
 |agg {cs:List jQ} (vs:List Value) (hl:vs.length=cs.length) (h1:∀ v∈vs,v.oneCell'=true) (hr:∀ (i:Nat) v d,vs[i]?=some v→cs[i]?=some d→uT w D v d):uT w D (.agg vs.toArray) (.agg cs)
 |tup {ds:List jQ} (vs:List Value) (hl:vs.length=ds.length) (hr:∀ (i:Nat) v d,vs[i]?=some v→ds[i]?=some d→uT w D v d):uT w D (.tuple vs.toArray) (.tup ds)
 |cptr {t:TypeId} {cs:List jQ} {off:Nat} (g o:Nat) (u:Nat→Value)
   (hD:∀ i,i<cs.length→D t g (o+i)) (hu:∀ i,i<cs.length→w.cell? ⟨g,o+i,none⟩=some (u i))
   (h1:∀ i,i<cs.length→(u i).oneCell'=true) (hr:∀ (i:Nat) d,cs[i]?=some d→uT w D (u i) d):uT w D (.pointer (some ⟨g,o+off,none⟩)) (.cptr t cs off)
 |clo {f:FuncId} {caps:List jQ} (vs:List Value) (hl:vs.length=caps.length) (hr:∀ (i:Nat) v d,vs[i]?=some v→caps[i]?=some d→uT w D v d):uT w D (.func (.func f) #[] vs.toArray) (.clo f caps)
theorem uT.mono{w w':World}{D D':qE}(hk:∀ t g o,D t g o→D' t g o∧w'.cell? ⟨g,o,none⟩=w.cell? ⟨g,o,none⟩){v:Value}{d:jQ}(h:uT w D v d):uT w' D' v d:=by
 induction h with
 |val v=>exact .val v
 |sl g off u hn hc hm hs ha hD hu h1 hr ih=>exact .sl g off u hn hc hm hs ha (fun i hi=>(hk _ _ _ (hD i hi)).1) (fun i hi=>((hk _ _ _ (hD i hi)).2).trans (hu i hi)) h1 ih
 |agg vs hl h1 hr ih=>exact .agg vs hl h1 ih
 |tup vs hl hr ih=>exact .tup vs hl ih
 |cptr g o u hD hu h1 hr ih=>exact .cptr g o u (fun i hi=>(hk _ _ _ (hD i hi)).1) (fun i hi=>((hk _ _ _ (hD i hi)).2).trans (hu i hi)) h1 ih
 |clo vs hl hr ih=>exact .clo vs hl ih
def Obj.isMp:Obj→Bool
 |.map _ _=>true
 |_=>false
inductive SV where
 |d (x:jQ)
 |ref (k o:Nat)
 |own (k:Nat) (t:TypeId) (s n:Nat)
 |clo (f:FuncId) (ks:List Nat)
 |emp
 |view (k o n:Nat)
 |hob (v:Value) (b:Nat) (ob:Obj)
 |pr (k:Nat) (t:TypeId) (s n:Nat) (x:jQ)
 |refx (k o b:Nat)
 |bnd (f k o:Nat)
 |ownx (k:Nat) (t:TypeId) (s n:Nat) (u:Value)
 |junk
instance:Inhabited SV:=⟨.junk⟩
def qG(w:World)(D:qE)(β:qD):Value→SV→Prop
 |v,.d x=>uT w D v x
 |v,.ref k o=>∃ b,β k=some b∧v=.pointer (some ⟨b,o,none⟩)
 |v,.own k t s n=>(β k=none∧n=0∧v=.slice none 0 0)∨∃ b cap vs,β k=some b∧v=.slice (some ⟨b,0,none⟩) n cap∧w.heap[b]?=some (.cells vs t (0,0))∧vs.size=cap*s∧n≤cap∧cap≤maxLen
 |v,.clo f ks=>∃ vs:List Value,v=.func (.func f) #[] vs.toArray∧vs.length=ks.length∧∀ (i k:Nat),ks[i]?=some k→∃ b,β k=some b∧vs[i]?=some (.pointer (some ⟨b,0,none⟩))
 |v,.emp=>∃ ao,v=.slice ao 0 0
 |v,.view k o n=>∃ b cap,β k=some b∧v=.slice (some ⟨b,o,none⟩) n cap∧n≤cap∧cap≤maxLen
 |v,.hob u b ob=>v=u∧w.heap[b]?=some ob∧Obj.isMp ob=true
 |v,.pr k t s n x=>∃ v1 v2,v=.tuple #[v1,v2]∧((β k=none∧n=0∧v1=.slice none 0 0)∨∃ b cap vs,β k=some b∧v1=.slice (some ⟨b,0,none⟩) n cap∧w.heap[b]?=some (.cells vs t (0,0))∧vs.size=cap*s∧n≤cap∧cap≤maxLen)∧uT w D v2 x
 |v,.refx k o b=>β k=some b∧v=.pointer (some ⟨b,o,none⟩)
 |v,.bnd f k o=>∃ b,β k=some b∧v=.func (.func f) #[.pointer (some ⟨b,o,none⟩)] #[]
 |v,.ownx k t s n u=>v=u∧((β k=none∧n=0∧v=.slice none 0 0)∨∃ b cap vs,β k=some b∧v=.slice (some ⟨b,0,none⟩) n cap∧w.heap[b]?=some (.cells vs t (0,0))∧vs.size=cap*s∧n≤cap∧cap≤maxLen)
 |_,.junk=>True
def SV.names(k:Nat):SV→Bool
 |.ref j _=>Nat.beq k j
 |.own j _ _ _=>Nat.beq k j
 |.view j _ _=>Nat.beq k j
 |.clo _ ks=>ks.any (Nat.beq k)
 |.pr j _ _ _ _=>Nat.beq k j
 |.refx j _ _=>Nat.beq k j
 |.bnd _ j _=>Nat.beq k j
 |.ownx j _ _ _ _=>Nat.beq k j
 |_=>false
abbrev BS:=List (Nat × Option (List SV))
def kD:BS→Nat→Option (List SV)
 |[],_=>none
 |(j,c)::r,k=>bif Nat.beq j k then c else kD r k
abbrev SL:=List (Nat × SV)
def jW:SL→Nat→SV
 |[],_=>.junk
 |(j,x)::r,t=>bif Nat.beq j t then x else jW r t
theorem beq_true_eq{a b:Nat}(h:Nat.beq a b=true):a=b:=Nat.eq_of_beq_eq_true h
theorem fP{a b:Nat}(h:Nat.beq a b=false):a≠b:=Nat.ne_of_beq_eq_false h
theorem qO(j:Nat)(x:SV)(r:SL)(t:Nat):jW ((j,x)::r) t=if j=t then x else jW r t:=by
 simp only[jW]
 by_cases h:j=t
 ·subst h;simp
 ·have:Nat.beq j t=false:=by rw[← Bool.not_eq_true];exact fun e=>h (Nat.eq_of_beq_eq_true e)
  simp [this,h]
theorem jK(j:Nat)(x:Option (List SV))(r:BS)(t:Nat):kD ((j,x)::r) t=if j=t then x else kD r t:=by
 simp only[kD]
 by_cases h:j=t
 ·subst h;simp
 ·have:Nat.beq j t=false:=by rw[← Bool.not_eq_true];exact fun e=>h (Nat.eq_of_beq_eq_true e)
  simp [this,h]
def vA(w:World)(D:qE)(β:qD)(k:Nat)(cs:List SV):Prop :=
 (β k=none∧cs=[])∨∃ b vs T,β k=some b∧w.heap[b]?=some (.cells vs T (0,0))∧cs.length≤vs.size ∧
  (∀ (i:Nat) x,cs[i]?=some x→∃ u,vs[i]?=some u∧u.oneCell'=true∧qG w D β u x)∧∀ t o,¬ D t b o
structure Mem (w:World) (D:qE) (β:qD) (bs:BS):Prop where
 ok:∀ k cs,kD bs k=some cs→vA w D β k cs
 inj:∀ k1 k2 c1 c2,kD bs k1=some c1→kD bs k2=some c2→∀ b,β k1=some b→β k2=some b→k1=k2
def DOk(D:qE)(w:World):Prop:=∀ t g o,D t g o→g<w.heap.size
structure DUp (D D':qE) (w w':World):Prop where
 up:∀ t g o,D t g o→D' t g o
 new:∀ t g o,D' t g o→D t g o∨(w.heap.size≤g∧g<w'.heap.size)
theorem nX{B:Nat}{w w':World}(h:Below B w w'){g o:Nat}(hg:g<B):w'.cell? ⟨g,o,none⟩=w.cell? ⟨g,o,none⟩:=h.cell (p:=⟨g,o,none⟩) hg
theorem DUp.refl(D:qE)(w:World):DUp D D w w:=⟨fun _ _ _ h=>h,fun _ _ _ h=>.inl h⟩
theorem DUp.of_same(D:qE){w w':World}:DUp D D w w':=⟨fun _ _ _ h=>h,fun _ _ _ h=>.inl h⟩
theorem DUp.ok{D D':qE}{w w':World}(h:DUp D D' w w')(hD:DOk D w)(hs:w.heap.size≤w'.heap.size):DOk D' w':=fun t g o hd=>by
 rcases h.new t g o hd with h1 | h1
 ·have:=hD t g o h1;omega
 ·exact h1.2
section
variable {w w':World} {D D':qE} {β:qD}
theorem uT.up(hb:Below w.heap.size w w')(hu:DUp D D' w w')(hD:DOk D w){v:Value}{d:jQ}(h:uT w D v d):uT w' D' v d :=
 h.mono fun t g o hd=>⟨hu.up t g o hd,nX hb (hD t g o hd)⟩
theorem uN{k:Nat}{o:Obj}(h:w.heap[k]?=some o):k<w.heap.size:=(Array.getElem?_eq_some_iff.1 h).1
theorem qG.up(hb:Below w.heap.size w w')(hu:DUp D D' w w')(hD:DOk D w){v:Value}{x:SV}(h:qG w D β v x):qG w' D' β v x:=by
 cases x with
 |d x=>exact uT.up hb hu hD h
 |ref k o=>exact h
 |own k t s n=>
  rcases h with h | ⟨b,cap,vs,h1,h2,h3,h4⟩
  ·exact .inl h
  ·exact .inr ⟨b,cap,vs,h1,h2,(hb.block b (uN h3)).trans h3,h4⟩
 |clo f ks=>exact h
 |emp=>exact h
 |view k o n=>exact h
 |hob u b ob=>exact ⟨h.1,(hb.block b (uN h.2.1)).trans h.2.1,h.2.2⟩
 |pr k t s n x=>
  obtain ⟨v1,v2,e,h1,h2⟩:=h
  refine ⟨v1,v2,e,?_,uT.up hb hu hD h2⟩
  rcases h1 with h | ⟨b,cap,vs,h1,h2,h3,h4⟩
  ·exact .inl h
  ·exact .inr ⟨b,cap,vs,h1,h2,(hb.block b (uN h3)).trans h3,h4⟩
 |refx k o b=>exact h
 |bnd f k o=>exact h
 |ownx k t s n u=>
  refine ⟨h.1,?_⟩
  rcases h.2 with h | ⟨b,cap,vs,h1,h2,h3,h4⟩
  ·exact .inl h
  ·exact .inr ⟨b,cap,vs,h1,h2,(hb.block b (uN h3)).trans h3,h4⟩
 |junk=>trivial
theorem vA.up(hb:Below w.heap.size w w')(hu:DUp D D' w w')(hD:DOk D w){k:Nat}{cs:List SV}(h:vA w D β k cs):vA w' D' β k cs:=by
 rcases h with h | ⟨b,vs,T,h1,h2,h3,h4,h5⟩
 ·exact .inl h
 ·refine .inr ⟨b,vs,T,h1,(hb.block b (uN h2)).trans h2,h3,fun i x hx=>?_,fun t o hd=>?_⟩
  ·obtain ⟨u,e1,e2,e3⟩:=h4 i x hx
   exact ⟨u,e1,e2,e3.up hb hu hD⟩
  ·rcases hu.new t b o hd with h6 | h6
   ·exact h5 t o h6
   ·have:=uN h2;omega
theorem Mem.up(hb:Below w.heap.size w w')(hu:DUp D D' w w')(hD:DOk D w){bs:BS}(h:Mem w D β bs):Mem w' D' β bs :=
 ⟨fun k cs hk=>(h.ok k cs hk).up hb hu hD,h.inj⟩
end
def qD.set(β:qD)(k b:Nat):qD:=fun j=>if j=k then some b else β j
theorem qG.frame{w:World}{D:qE}{β β':qD}{k:Nat}{v:Value}{x:SV}(hβ:∀ j,j≠k→β' j=β j)(hx:x.names k=false)(h:qG w D β v x):qG w D β' v x:=by
 cases x with
 |d x=>exact h
 |ref j o=>
  have hj:j≠k:=fun e=>by subst e;simp [SV.names] at hx
  obtain ⟨b,h1,h2⟩:=h
  exact ⟨b,(hβ j hj).trans h1,h2⟩
 |own j t s n=>
  have hj:j≠k:=fun e=>by subst e;simp [SV.names] at hx
  rcases h with ⟨h1,h2⟩ | ⟨b,cap,vs,h1,h2⟩
  ·exact .inl ⟨(hβ j hj).trans h1,h2⟩
  ·exact .inr ⟨b,cap,vs,(hβ j hj).trans h1,h2⟩
 |clo f ks=>
  obtain ⟨vs,h1,h2,h3⟩:=h
  refine ⟨vs,h1,h2,fun i j hj=>?_⟩
  obtain ⟨b,h4,h5⟩:=h3 i j hj
  have hne:j≠k:=fun e=>by
   subst e
   simp only[SV.names,List.any_eq_false] at hx
   exact hx j (List.mem_of_getElem? hj) (by simp)
  exact ⟨b,(hβ j hne).trans h4,h5⟩
 |emp=>exact h
 |view j o n=>
  have hj:j≠k:=fun e=>by subst e;simp [SV.names] at hx
  obtain ⟨b,cap,h1,h2⟩:=h
  exact ⟨b,cap,(hβ j hj).trans h1,h2⟩
 |hob u b ob=>exact h
 |pr j t s n x=>
  have hj:j≠k:=fun e=>by subst e;simp [SV.names] at hx
  obtain ⟨v1,v2,e,h1,h2⟩:=h
  refine ⟨v1,v2,e,?_,h2⟩
  rcases h1 with ⟨h1,h2⟩ | ⟨b,cap,vs,h1,h2⟩
  ·exact .inl ⟨(hβ j hj).trans h1,h2⟩
  ·exact .inr ⟨b,cap,vs,(hβ j hj).trans h1,h2⟩
 |refx j o b=>
  have hj:j≠k:=fun e=>by subst e;simp [SV.names] at hx
  exact ⟨(hβ j hj).trans h.1,h.2⟩
 |bnd f j o=>
  have hj:j≠k:=fun e=>by subst e;simp [SV.names] at hx
  obtain ⟨b,h1,h2⟩:=h
  exact ⟨b,(hβ j hj).trans h1,h2⟩
 |ownx j t s n u=>
  have hj:j≠k:=fun e=>by subst e;simp [SV.names] at hx
  refine ⟨h.1,?_⟩
  rcases h.2 with ⟨h1,h2⟩ | ⟨b,cap,vs,h1,h2⟩
  ·exact .inl ⟨(hβ j hj).trans h1,h2⟩
  ·exact .inr ⟨b,cap,vs,(hβ j hj).trans h1,h2⟩
 |junk=>trivial
def qM(k:Nat)(cs:List SV):Bool:=cs.any (SV.names k)
theorem vA.frame{w:World}{D:qE}{β β':qD}{k j:Nat}{cs:List SV}(hβ:∀ i,i≠k→β' i=β i)(hj:j≠k)(hx:qM k cs=false)(h:vA w D β j cs):vA w D β' j cs:=by
 rcases h with ⟨h1,h2⟩ | ⟨b,vs,T,h1,h2,h3,h4,h5⟩
 ·exact .inl ⟨(hβ j hj).trans h1,h2⟩
 ·refine .inr ⟨b,vs,T,(hβ j hj).trans h1,h2,h3,fun i x hi=>?_,h5⟩
  obtain ⟨u,e1,e2,e3⟩:=h4 i x hi
  simp only[qM,List.any_eq_false] at hx
  exact ⟨u,e1,e2,e3.frame hβ (by simpa using hx x (List.mem_of_getElem? hi))⟩
structure Wrote (b:Nat) (w w':World):Prop where
 os:w'.os=w.os
 tape:w'.tape=w.tape
 output:w'.output=w.output
 size:w'.heap.size=w.heap.size
 block:∀ k,k≠b→w'.heap[k]?=w.heap[k]?
 own:∀ vs T f,w.heap[b]?=some (.cells vs T f)→∃ vs',w'.heap[b]?=some (.cells vs' T f)∧vs'.size=vs.size
 oth:∀ ob,w.heap[b]?=some ob→Obj.isMp ob=true→w'.heap[b]?=some ob
theorem Wrote.rep{w w':World}{D:qE}{b:Nat}(hw:Wrote b w w')(hp:∀ t o,¬ D t b o){v:Value}{d:jQ}(h:uT w D v d):uT w' D v d :=
 h.mono fun t g o hd=>⟨hd,by
  have:g≠b:=fun e=>hp t o (e▸hd)
  exact World.cell?_of_block (hw.block g this)⟩
theorem Wrote.repS{w w':World}{D:qE}{β:qD}{b:Nat}(hw:Wrote b w w')(hp:∀ t o,¬ D t b o){v:Value}{x:SV}(h:qG w D β v x):qG w' D β v x:=by
 cases x with
 |d x=>exact hw.rep hp h
 |ref j o=>exact h
 |own j t s n=>
  rcases h with h | ⟨c,cap,vs,h1,h2,h3,h4,h5⟩
  ·exact .inl h
  ·by_cases hc:c=b
   ·subst hc
    obtain ⟨vs',e1,e2⟩:=hw.own _ _ _ h3
    exact .inr ⟨c,cap,vs',h1,h2,e1,e2.trans h4,h5⟩
   ·exact .inr ⟨c,cap,vs,h1,h2,(hw.block c hc).trans h3,h4,h5⟩
 |clo f ks=>exact h
 |emp=>exact h
 |view j o n=>exact h
 |hob u c ob=>
  refine ⟨h.1,?_,h.2.2⟩
  by_cases hc:c=b
  ·subst hc;exact hw.oth _ h.2.1 h.2.2
  ·exact (hw.block c hc).trans h.2.1
 |pr j t s n x=>
  obtain ⟨v1,v2,e,h1,h2⟩:=h
  refine ⟨v1,v2,e,?_,hw.rep hp h2⟩
  rcases h1 with h | ⟨c,cap,vs,h1,h2,h3,h4,h5⟩
  ·exact .inl h
  ·by_cases hc:c=b
   ·subst hc
    obtain ⟨vs',e1,e2⟩:=hw.own _ _ _ h3
    exact .inr ⟨c,cap,vs',h1,h2,e1,e2.trans h4,h5⟩
   ·exact .inr ⟨c,cap,vs,h1,h2,(hw.block c hc).trans h3,h4,h5⟩
 |refx j o b=>exact h
 |bnd f j o=>exact h
 |ownx j t s n u=>
  refine ⟨h.1,?_⟩
  rcases h.2 with h | ⟨c,cap,vs,h1,h2,h3,h4,h5⟩
  ·exact .inl h
  ·by_cases hc:c=b
   ·subst hc
    obtain ⟨vs',e1,e2⟩:=hw.own _ _ _ h3
    exact .inr ⟨c,cap,vs',h1,h2,e1,e2.trans h4,h5⟩
   ·exact .inr ⟨c,cap,vs,h1,h2,(hw.block c hc).trans h3,h4,h5⟩
 |junk=>trivial
theorem Wrote.blk{w w':World}{D:qE}{β:qD}{b k:Nat}{cs:List SV}(hw:Wrote b w w')(hp:∀ t o,¬ D t b o)(hk:β k≠some b)(h:vA w D β k cs):vA w' D β k cs:=by
 rcases h with h | ⟨c,vs,T,h1,h2,h3,h4,h5⟩
 ·exact .inl h
 ·have hc:c≠b:=fun e=>hk (e▸h1)
  refine .inr ⟨c,vs,T,h1,(hw.block c hc).trans h2,h3,fun i x hi=>?_,h5⟩
  obtain ⟨u,e1,e2,e3⟩:=h4 i x hi
  exact ⟨u,e1,e2,hw.repS hp e3⟩
theorem vM{p:Prop}[inst:Decidable p](h:decide p=true):p:=of_decide_eq_true h
theorem vK{p:Prop}[inst:Decidable p](h:decide p=false):¬ p:=of_decide_eq_false h
def ev(S:Nat→SV):Operand→SV
 |.tmp t=>S t
 |.const v=>.d (.val v)
 |.func f=>.d (.val (.func (.func f) #[] #[]))
 |.global _=>.junk
def Opnds(w:World)(D:qE)(β:qD)(a:Act)(o:Oper)(S:Nat→SV):Prop:=∀ y∈o.op.operands,qG w D β (a.eval y) (ev S y)
def EPost(a:Act)(w:World)(D:qE)(β:qD)(dst:Option Tmp)(x:SV)(a':Act)(w':World):Prop :=
 ∃ v D',a'=a.put dst v∧Below w.heap.size w w'∧DUp D D' w w'∧qG w' D' β v x
def qX(P:Program)(o:Oper)(S:Nat→SV)(rd:List (Nat × List SV))(x:SV):Prop :=
 ∀ (a:Act) (w:World) (D:qE) (β:qD) (Q:Exit→Act→World→Prop),Opnds w D β a o S→(∀ p∈rd,vA w D β p.1 p.2)→DOk D w→o.wp P a w (EPost a w D β o.dst x) Q
def NPost(a:Act)(w:World)(D:qE)(β:qD)(dst:Option Tmp)(k:Nat)(cs:List SV)(x:SV)(a':Act)(w':World):Prop :=
 ∃ v D' b,a'=a.put dst v∧Below w.heap.size w w'∧DUp D D' w w'∧w.heap.size≤b∧b<w'.heap.size∧(∀ t o,¬ D' t b o)∧vA w' D' (β.set k b) k cs∧qG w' D' (β.set k b) v x
def NOk(P:Program)(o:Oper)(S:Nat→SV)(k:Nat)(cs:List SV)(x:SV):Prop :=
 ∀ (a:Act) (w:World) (D:qE) (β:qD) (Q:Exit→Act→World→Prop),Opnds w D β a o S→DOk D w→o.wp P a w (NPost a w D β o.dst k cs x) Q
def TPost(a:Act)(w:World)(D:qE)(β:qD)(dst:Option Tmp)(k:Nat)(cs:List SV)(a':Act)(w':World):Prop :=
 a'=a.put dst undef∧∃ b,β k=some b∧Wrote b w w'∧(∀ t o,¬ D t b o)∧vA w' D β k cs
def TOk(P:Program)(o:Oper)(S:Nat→SV)(k:Nat)(old cs:List SV):Prop :=
 ∀ (a:Act) (w:World) (D:qE) (β:qD) (Q:Exit→Act→World→Prop),Opnds w D β a o S→vA w D β k old→DOk D w→o.wp P a w (TPost a w D β o.dst k cs) Q
def APost(a:Act)(w:World)(D:qE)(β:qD)(dst:Option Tmp)(k k':Nat)(cs:List SV)(x:SV)(a':Act)(w':World):Prop :=
 ∃ v b,a'=a.put dst v∧vA w' D (β.set k' b) k' cs∧qG w' D (β.set k' b) v x∧((Below w.heap.size w w'∧w.heap.size≤b∧b<w'.heap.size)∨(β k=some b∧Wrote b w w'∧∀ t o,¬ D t b o))
def AOk(P:Program)(o:Oper)(S:Nat→SV)(k k':Nat)(old cs:List SV)(x:SV):Prop :=
 ∀ (a:Act) (w:World) (D:qE) (β:qD) (Q:Exit→Act→World→Prop),Opnds w D β a o S→vA w D β k old→DOk D w→o.wp P a w (APost a w D β o.dst k k' cs x) Q
section
variable {P:Program} {o:Oper} {S:Nat→SV}
theorem mM{a:Act}{w w':World}{K:Act→World→Prop}{Q:Exit→Act→World→Prop}{v:Value}(h:(execOp a.eval o).run P w=.ok (.value v) w')(hk:K (a.put o.dst v) w'):o.wp P a w K Q:=by
 unfold Oper.wp;rw[h];exact hk
theorem wp_skip_{a:Act}{w w':World}{K:Act→World→Prop}{Q:Exit→Act→World→Prop}(h:(execOp a.eval o).run P w=.ok .skip w')(hk:K (a.put o.dst undef) w'):o.wp P a w K Q:=by
 unfold Oper.wp;rw[h];exact hk
theorem cD{a:Act}{w w':World}{K:Act→World→Prop}{Q:Exit→Act→World→Prop}{f:FuncId}{args:Array Value}(h:(execOp a.eval o).run P w=.ok (.enter f args) w')
  (hk:Calls P f args w' fun e w''=>∃ v,e=.returned v∧K (a.put o.dst v) w''):o.wp P a w K Q:=by
 unfold Oper.wp;rw[h]
 exact hk.mono fun e w'' ⟨v,he,hK⟩=>by subst he;exact hK
theorem qX.same{rd:List (Nat × List SV)}{x:SV}(h:∀ (a:Act) (w:World) (D:qE) (β:qD),Opnds w D β a o S→(∀ p∈rd,vA w D β p.1 p.2)→∃ v,(execOp a.eval o).run P w=.ok (.value v) w∧qG w D β v x):qX P o S rd x :=
 fun a w D β Q hop hrd _=>by
  obtain ⟨v,h1,h2⟩:=h a w D β hop hrd
  exact mM h1 ⟨v,D,rfl,Below.refl _ _,DUp.refl _ _,h2⟩
theorem e_move{x:Operand}(ho:o.op=.move x∨o.op=.assign x):qX P o S [] (ev S x) :=
 qX.same fun a w D β hop _=>⟨a.eval x,by rcases ho with ho | ho<;>simp [execOp,ho],by
  rcases ho with ho | ho<;>exact hop x (by simp [ho,Op.operands])⟩
theorem fN(w:World)(D:qE)(t:TypeId)(s:Nat):uT w D (.slice none 0 0) (.sl t s []) :=
 .sl 0 0 (fun _=>undef) rfl (Nat.le_refl _) (by simp [maxLen]) (by simp) (by simp) (by simp [qA]) (by simp [qA]) (by simp [qA]) (by simp [qA])
theorem e_nil(t:TypeId)(s:Nat)(ho:o.op=.move (.const (.slice none 0 0))∨o.op=.assign (.const (.slice none 0 0))):qX P o S [] (.d (.sl t s [])) :=
 qX.same fun a w D β _ _=>⟨.slice none 0 0,by rcases ho with ho | ho<;>simp [execOp,ho,Act.eval],fN w D t s⟩
theorem rep_bool{w:World}{D:qE}{v:Value}{b:Bool}(h:uT w D v (.val (.bool b))):v=.bool b:=by cases h;rfl
theorem uF{w:World}{D:qE}{v u:Value}(h:uT w D v (.val u)):v=u:=by cases h;rfl
theorem e_pick{c x y:Operand}{b:Bool}(ho:o.op=.pick c x y)(hc:ev S c=.d (.val (.bool b))):qX P o S [] (if b then ev S x else ev S y) :=
 qX.same fun a w D β hop _=>by
  have h1:=hop c (by simp [ho,Op.operands])
  rw[hc] at h1
  have h2:a.eval c=.bool b:=rep_bool h1
  refine ⟨if b then a.eval x else a.eval y,by simp [execOp,ho,h2,asBool],?_⟩
  cases b
  ·exact hop y (by simp [ho,Op.operands])
  ·exact hop x (by simp [ho,Op.operands])
def isAggD:TypeDesc→Bool
 |.struct _ | .array _ _=>true
 |_=>false
def kZ(P:Program)(T:TypeId):Option (Bool × Nat) :=
 match P.underlying T,P.info? T with
 |some d,some i=>some (isAggD d,i.size)
 |_,_=>none
theorem shape_of{T:TypeId}{agg:Bool}{sz:Nat}(h:kZ P T=some (agg,sz)):∃ d i,P.underlying T=some d∧P.info? T=some i∧isAggD d=agg∧i.size=sz:=by
 unfold kZ at h
 cases h1:P.underlying T with
 |none=>simp [h1] at h
 |some d=>
  cases h2:P.info? T with
  |none=>simp [h1,h2] at h
  |some i=>
   simp [h1,h2] at h
   exact ⟨d,i,rfl,rfl,h.1,h.2⟩
theorem eF{T:TypeId}{d:TypeDesc}(h:P.underlying T=some d)(w:World):(isAgg T).run P w=.ok (isAggD d) w:=by
 unfold isAgg
 simp only[Sem.run_bind,run_underlying h,Result.andThen_ok]
 cases d<;>rfl
theorem vE{T:TypeId}{i:TypeInfo}(h:P.info? T=some i)(w:World):(sizeOf T).run P w=.ok i.size w:=by
 simp [sizeOf,typeInfo,h]
theorem mP{T:TypeId}{sz:Nat}(h:kZ P T=some (true,sz))(w:World)(ad:Addr)(us:List Value)(hl:us.length=sz)(hc:∀ (j:Nat) u,us[j]?=some u→w.cell? (ad.add j)=some u) :
  (loadVar T ad).run P w=.ok (.agg us.toArray) w:=by
 obtain ⟨d,i,h1,h2,h3,h4⟩:=shape_of h
 subst hl
 have hl:=run_loadCells_list (P:=P) w ad us hc
 rw[← h4] at hl
 unfold loadVar
 simp [eF h1,h3,vE h2,hl]
theorem mQ{T:TypeId}{sz:Nat}(h:kZ P T=some (false,sz))(w:World)(ad:Addr){u:Value}(hc:w.cell? ad=some u) :
  (loadVar T ad).run P w=.ok u w:=by
 obtain ⟨d,i,h1,h2,h3,h4⟩:=shape_of h
 unfold loadVar
 simp [eF h1,h3,hc]
def unD:List SV→Option (List jQ)
 |[]=>some []
 |.d x::r=>match unD r with
  |some l=>some (x::l)
  |none=>none
 |_::_=>none
theorem unD_spec:∀ {l:List SV} {ds:List jQ},unD l=some ds→l=ds.map .d
 |[],ds,h=>by simp [unD] at h;subst h;rfl
 |.d x::r,ds,h=>by
  simp only[unD] at h
  cases h1:unD r with
  |none=>simp [h1] at h
  |some l=>
   simp [h1] at h
   subst h
   simp [unD_spec h1]
 |.ref _ _::r,ds,h=>by simp [unD] at h
 |.own _ _ _ _::r,ds,h=>by simp [unD] at h
 |.clo _ _::r,ds,h=>by simp [unD] at h
 |.junk::r,ds,h=>by simp [unD] at h
def yC(agg:Bool)(l:List SV):SV :=
 match agg with
 |true=>match unD l with
  |some ds=>.d (.agg ds)
  |none=>.junk
 |false=>match l with
  |[x]=>x
  |_=>.junk
theorem blk_cells{w:World}{D:qE}{β:qD}{k b:Nat}{cs:List SV}(h:vA w D β k cs)(hb:β k=some b) :
  ∃ vs:List Value,vs.length=cs.length∧(∀ (j:Nat) u,vs[j]?=some u→w.cell? ⟨b,j,none⟩=some u∧u.oneCell'=true)∧∀ (j:Nat) u x,vs[j]?=some u→cs[j]?=some x→qG w D β u x:=by
 rcases h with ⟨h1,_⟩ | ⟨b',vs,T,h1,h2,h3,h4,_⟩
 ·rw[h1] at hb;cases hb
 ·obtain rfl:b'=b:=by rw[h1] at hb;injection hb
  refine ⟨vs.toList.take cs.length,by simp;omega,fun j u hu=>?_,fun j u x hu hx=>?_⟩
  ·have hj:j<cs.length:=by
    rcases Nat.lt_or_ge j cs.length with hj | hj
    ·exact hj
    ·rw[List.getElem?_eq_none (by simp;omega)] at hu;cases hu
   obtain ⟨u',e1,e2,_⟩:=h4 j _ (List.getElem?_eq_getElem hj)
   rw[List.getElem?_take_of_lt hj,Array.getElem?_toList,e1] at hu
   injection hu with hu
   subst hu
   exact ⟨by rw[cell_of_row w b' j vs T (0,0) h2];exact e1,e2⟩
  ·have hj:j<cs.length:=(List.getElem?_eq_some_iff.1 hx).1
   obtain ⟨u',e1,_,e3⟩:=h4 j _ hx
   rw[List.getElem?_take_of_lt hj,Array.getElem?_toList,e1] at hu
   injection hu with hu
   subst hu
   exact e3
theorem repS_agg{w:World}{D:qE}{β:qD}{l:List SV}{vs:List Value}(hl:vs.length=l.length)(h1:∀ v∈vs,v.oneCell'=true)(hr:∀ (i:Nat) v x,vs[i]?=some v→l[i]?=some x→qG w D β v x):qG w D β (.agg vs.toArray) (yC true l):=by
 unfold yC
 cases h:unD l with
 |none=>trivial
 |some ds=>
  have hd:=unD_spec h
  subst hd
  refine uT.agg vs (by simpa using hl) h1 fun i v d hv hd=>?_
  exact hr i v (.d d) hv (by simp [hd])
theorem e_load_ref{T:TypeId}{x:Operand}{k off sz:Nat}{agg:Bool}{cs:List SV}(ho:o.op=.load T x)(hx:ev S x=.ref k off)(hs:kZ P T=some (agg,sz))(h1:agg=false→sz=1)(hl:off+sz≤cs.length) :
  qX P o S [(k,cs)] (yC agg ((cs.drop off).take sz)) :=
 qX.same fun a w D β hop hrd=>by
  have hp:=hop x (by simp [ho,Op.operands])
  rw[hx] at hp
  obtain ⟨b,hb,hv⟩:=hp
  obtain ⟨vs,e1,e2,e3⟩:=blk_cells (hrd (k,cs) (by simp)) hb
  dsimp only at e1 e2 e3
  have hun:(execOp a.eval o)=(do pure (.value (← loadVar T ⟨b,off,none⟩))):=by simp [execOp,ho,hv,Instr.loadAt,Instr.sureAddr]
  rw[hun]
  cases agg with
  |true=>
   refine ⟨.agg ((vs.drop off).take sz).toArray,?_,repS_agg (by simp;omega) (fun v hv=>?_) (fun i v y hv hy=>?_)⟩
   ·rw[Sem.run_bind,mP hs w _ ((vs.drop off).take sz) (by simp;omega) (fun j u hu=>?_)]
    ·rfl
    ·have hj:j<sz:=by
      have:=(List.getElem?_eq_some_iff.1 hu).1
      simp at this;omega
     rw[List.getElem?_take_of_lt hj,List.getElem?_drop] at hu
     rw[Addr.add_lit]
     exact (e2 _ _ hu).1
   ·have hm:=List.mem_of_mem_drop (List.mem_of_mem_take hv)
    obtain ⟨j,hj⟩:=List.getElem?_of_mem hm
    exact (e2 j v hj).2
   ·have hj:i<sz:=by
     have:=(List.getElem?_eq_some_iff.1 hv).1
     simp at this;omega
    rw[List.getElem?_take_of_lt hj,List.getElem?_drop] at hv hy
    exact e3 _ _ _ hv hy
  |false=>
   obtain rfl:=h1 rfl
   have hlt:off<cs.length:=by omega
   have hlt':off<vs.length:=by omega
   have hu:vs[off]?=some vs[off]:=List.getElem?_eq_getElem hlt'
   have hy:cs[off]?=some cs[off]:=List.getElem?_eq_getElem hlt
   refine ⟨vs[off],by rw[Sem.run_bind,mQ hs w _ (e2 _ _ hu).1];rfl,?_⟩
   have:(cs.drop off).take 1=[cs[off]]:=by
    rw[List.drop_eq_getElem_cons hlt];rfl
   rw[this]
   exact e3 _ _ _ hu hy
theorem rep_cptr{w:World}{D:qE}{v:Value}{t:TypeId}{cs:List jQ}{off:Nat}(h:uT w D v (.cptr t cs off)) :
  ∃ g p,v=.pointer (some ⟨g,p+off,none⟩)∧∃ vs:List Value,vs.length=cs.length∧(∀ (j:Nat) u,vs[j]?=some u→w.cell? ⟨g,p+j,none⟩=some u∧u.oneCell'=true)∧(∀ i,i<cs.length→D t g (p+i)) ∧
   ∀ (j:Nat) u x,vs[j]?=some u→cs[j]?=some x→uT w D u x:=by
 cases h with
 |cptr g p u hD hu h1 hr=>
  have key:∀ (j:Nat) x,((List.range cs.length).map u)[j]?=some x→j<cs.length∧x=u j:=fun j x hx=>by
   have hj:j<cs.length:=by simpa using (List.getElem?_eq_some_iff.1 hx).1
   rw[List.getElem?_map,List.getElem?_range hj] at hx
   injection hx with hx
   exact ⟨hj,hx.symm⟩
  refine ⟨g,p,rfl,(List.range cs.length).map u,by simp,fun j x hx=>?_,hD,fun j x y hx hy=>?_⟩
  ·obtain ⟨hj,rfl⟩:=key j x hx
   exact ⟨hu j hj,h1 j hj⟩
  ·obtain ⟨hj,rfl⟩:=key j x hx
   exact hr j y hy
theorem e_load_cptr{T t:TypeId}{x:Operand}{off sz:Nat}{agg:Bool}{cs:List jQ}(ho:o.op=.load T x)(hx:ev S x=.d (.cptr t cs off))(hs:kZ P T=some (agg,sz))(h1:agg=false→sz=1)(hl:off+sz≤cs.length) :
  qX P o S [] (yC agg (((cs.drop off).take sz).map .d)) :=
 qX.same fun a w D β hop _=>by
  have hp:=hop x (by simp [ho,Op.operands])
  rw[hx] at hp
  obtain ⟨g,p,hv,vs,e1,e2,_,e3⟩:=rep_cptr hp
  have hun:(execOp a.eval o)=(do pure (.value (← loadVar T ⟨g,p+off,none⟩))):=by simp [execOp,ho,hv,Instr.loadAt,Instr.sureAddr]
  rw[hun]
  cases agg with
  |true=>
   refine ⟨.agg ((vs.drop off).take sz).toArray,?_,repS_agg (by simp;omega) (fun v hv=>?_) (fun i v y hv hy=>?_)⟩
   ·rw[Sem.run_bind,mP hs w _ ((vs.drop off).take sz) (by simp;omega) (fun j u hu=>?_)]
    ·rfl
    ·have hj:j<sz:=by
      have:=(List.getElem?_eq_some_iff.1 hu).1
      simp at this;omega
     rw[List.getElem?_take_of_lt hj,List.getElem?_drop] at hu
     rw[Addr.add_lit,Nat.add_assoc]
     exact (e2 _ _ hu).1
   ·have hm:=List.mem_of_mem_drop (List.mem_of_mem_take hv)
    obtain ⟨j,hj⟩:=List.getElem?_of_mem hm
    exact (e2 j v hj).2
   ·have hj:i<sz:=by
     have:=(List.getElem?_eq_some_iff.1 hv).1
     simp at this;omega
    rw[List.getElem?_map,Option.map_eq_some_iff] at hy
    obtain ⟨z,hz,rfl⟩:=hy
    rw[List.getElem?_take_of_lt hj,List.getElem?_drop] at hv hz
    exact e3 _ _ _ hv hz
  |false=>
   obtain rfl:=h1 rfl
   have hlt:off<cs.length:=by omega
   have hlt':off<vs.length:=by omega
   have hu:vs[off]?=some vs[off]:=List.getElem?_eq_getElem hlt'
   have hy:cs[off]?=some cs[off]:=List.getElem?_eq_getElem hlt
   refine ⟨vs[off],by rw[Sem.run_bind,mQ hs w _ (e2 _ _ hu).1];rfl,?_⟩
   have:((cs.drop off).take 1).map SV.d=[.d cs[off]]:=by
    rw[List.drop_eq_getElem_cons hlt];rfl
   rw[this]
   exact e3 _ _ _ hu hy
end
section
variable {P:Program} {o:Oper} {S:Nat→SV}
def uA(P:Program)(T:TypeId)(f:Nat):Option Nat :=
 match P.underlying T with
 |some (.struct fs)=>match fs[f]? with
  |some fl=>match P.info? fl.type with
   |some i=>if i.size=0 then none else some fl.offset
   |none=>none
  |none=>none
 |_=>none
def uW(P:Program)(T:TypeId):Option (TypeId × Nat) :=
 match P.underlying T with
 |some (.slice E)=>(P.info? E).map fun i=>(E,i.size)
 |_=>none
def dM(P:Program)(T:TypeId):Option (Nat × TypeId × Nat) :=
 match P.underlying T with
 |some (.array n E)=>(P.info? E).map fun i=>(n,E,i.size)
 |_=>none
def intB(P:Program)(T:TypeId):Option IntKind :=
 match P.underlying T with
 |some (.int k)=>some k
 |_=>none
theorem field_of{T:TypeId}{f off:Nat}(h:uA P T f=some off):∃ fs fl i,P.underlying T=some (.struct fs)∧fs[f]?=some fl∧P.info? fl.type=some i∧i.size≠0∧fl.offset=off:=by
 unfold uA at h
 split at h
 ·rename_i fs hfs
  split at h
  ·rename_i fl hfl
   split at h
   ·rename_i i hi
    split at h
    ·cases h
    ·rename_i hne
     injection h with h
     exact ⟨fs,fl,i,hfs,hfl,hi,hne,h⟩
   ·cases h
  ·cases h
 ·cases h
theorem gZ{T E:TypeId}{s:Nat}(h:uW P T=some (E,s)):∃ i,P.underlying T=some (.slice E)∧P.info? E=some i∧i.size=s:=by
 unfold uW at h
 split at h
 ·rename_i E' hE
  rw[Option.map_eq_some_iff] at h
  obtain ⟨i,h1,h2⟩:=h
  simp only[Prod.mk.injEq] at h2
  obtain ⟨rfl,rfl⟩:=h2
  exact ⟨i,hE,h1,rfl⟩
 ·cases h
theorem arr_of{T E:TypeId}{n s:Nat}(h:dM P T=some (n,E,s)):∃ i,P.underlying T=some (.array n E)∧P.info? E=some i∧i.size=s:=by
 unfold dM at h
 split at h
 ·rename_i n' E' hE
  rw[Option.map_eq_some_iff] at h
  obtain ⟨i,h1,h2⟩:=h
  simp only[Prod.mk.injEq] at h2
  obtain ⟨rfl,rfl,rfl⟩:=h2
  exact ⟨i,hE,h1,rfl⟩
 ·cases h
theorem int_of{T:TypeId}{k:IntKind}(h:intB P T=some k):P.underlying T=some (.int k):=by
 unfold intB at h
 split at h
 ·rename_i k' hk
  injection h with h
  rw[hk,h]
 ·cases h
theorem run_fieldAt{T:TypeId}{f off:Nat}(h:uA P T f=some off)(w:World)(a:Addr):(Instr.fieldAt T (.pointer (some a)) f).run P w=.ok (.pointer (some (a.add off))) w:=by
 obtain ⟨fs,fl,i,h1,h2,h3,h4,h5⟩:=field_of h
 simp [Instr.fieldAt,run_underlying h1,h2,Instr.sureAddr,fieldPlace,vE h3,h4,h5]
theorem e_fieldAddr_ref{T:TypeId}{x:Operand}{f off k p:Nat}(ho:o.op=.fieldAddr T x f)(hx:ev S x=.ref k p)(hf:uA P T f=some off):qX P o S [] (.ref k (p+off)) :=
 qX.same fun a w D β hop _=>by
  have hp:=hop x (by simp [ho,Op.operands])
  rw[hx] at hp
  obtain ⟨b,hb,hv⟩:=hp
  exact ⟨.pointer (some ⟨b,p+off,none⟩),by simp [execOp,ho,hv,run_fieldAt hf,Addr.add_lit],b,hb,rfl⟩
theorem e_fieldAddr_cptr{T t:TypeId}{x:Operand}{f off p:Nat}{cs:List jQ}(ho:o.op=.fieldAddr T x f)(hx:ev S x=.d (.cptr t cs p))(hf:uA P T f=some off):qX P o S [] (.d (.cptr t cs (p+off))) :=
 qX.same fun a w D β hop _=>by
  have hp:=hop x (by simp [ho,Op.operands])
  rw[hx] at hp
  generalize hvv:a.eval x=v at hp
  cases hp with
  |cptr g q u hD hu h1 hr=>
   exact ⟨.pointer (some ⟨g,q+(p+off),none⟩),by simp [execOp,ho,hvv,run_fieldAt hf,Addr.add_lit,Nat.add_assoc],uT.cptr g q u hD hu h1 hr⟩
theorem run_indexAt_sl{T E:TypeId}{s:Nat}(h:uW P T=some (E,s))(w:World)(a:Addr)(n cap:Nat)(k:IntKind)(i:Int)(h0:0≤i)(h1:i<n) :
  (Instr.indexAt T (.slice (some a) n cap) (.int k i)).run P w=.ok (.pointer (some (a.add (i.toNat*s)))) w:=by
 obtain ⟨j,e1,e2,e3⟩:=gZ h
 simp [Instr.indexAt,run_underlying e1,asIntOf,h0,h1,vE e2,e3]
theorem run_indexAt_arr{T E:TypeId}{n s:Nat}(h:dM P T=some (n,E,s))(w:World)(a:Addr)(k:IntKind)(i:Int)(h0:0≤i)(h1:i<n) :
  (Instr.indexAt T (.pointer (some a)) (.int k i)).run P w=.ok (.pointer (some (a.add (i.toNat*s)))) w:=by
 obtain ⟨j,e1,e2,e3⟩:=arr_of h
 simp [Instr.indexAt,run_underlying e1,asIntOf,Instr.sureAddr,h0,h1,vE e2,e3]
theorem e_index_sl{T E t:TypeId}{x ix:Operand}{s:Nat}{es:List jQ}{k:IntKind}{i:Int}{e:jQ}(ho:o.op=.indexAddr T x ix)(hT:uW P T=some (E,s))(hx:ev S x=.d (.sl t s es))(hi:ev S ix=.d (.val (.int k i)))
  (h0:0≤i) (he:es[i.toNat]?=some e):qX P o S [] (.d (.cptr t e.cells 0)) :=
 qX.same fun a w D β hop _=>by
  have hp:=hop x (by simp [ho,Op.operands])
  have hq:=hop ix (by simp [ho,Op.operands])
  rw[hx] at hp
  rw[hi] at hq
  have hiv:=uF hq
  have hlt:i.toNat<es.length:=(List.getElem?_eq_some_iff.1 he).1
  generalize hvv:a.eval x=v at hp
  cases hp with
  |sl g off u hn hc hm hs ha hD hu h1 hr=>
   rename_i ad n cap
   have hse:=hs e (List.mem_of_getElem? he)
   have had:=ha (by omega)
   subst had
   have hfl:=uZ hs
   have hle:i.toNat*s+s≤(qA es).length:=by
    rw[hfl]
    have:=Nat.mul_le_mul_right s (show i.toNat+1≤es.length by omega)
    rw[Nat.add_mul] at this;omega
   refine ⟨.pointer (some ⟨g,(off+i.toNat*s)+0,none⟩),?_,uT.cptr (cs:=e.cells) g (off+i.toNat*s) (fun j=>u (i.toNat*s+j)) (fun j hj=>?_) (fun j hj=>?_) (fun j hj=>?_) (fun j d hd=>?_)⟩
   ·simp [execOp,ho,hvv,hiv,run_indexAt_sl hT w ⟨g,off,none⟩ n cap k i h0 (by omega),Addr.add_lit]
   ·rw[Nat.add_assoc];exact hD _ (by omega)
   ·rw[Nat.add_assoc];exact hu _ (by omega)
   ·exact h1 _ (by omega)
   ·have hj:j<s:=by have:=(List.getElem?_eq_some_iff.1 hd).1;omega
    exact hr _ _ ((flat_get hs he hj).trans hd)
theorem e_index_own{T E t:TypeId}{x ix:Operand}{s b n:Nat}{k:IntKind}{i:Int}(ho:o.op=.indexAddr T x ix)(hT:uW P T=some (E,s))(hx:ev S x=.own b t s n)(hi:ev S ix=.d (.val (.int k i)))
  (h0:0≤i) (h1:i<n):qX P o S [] (.ref b (i.toNat*s)) :=
 qX.same fun a w D β hop _=>by
  have hp:=hop x (by simp [ho,Op.operands])
  have hq:=hop ix (by simp [ho,Op.operands])
  rw[hx] at hp
  rw[hi] at hq
  have hiv:=uF hq
  rcases hp with ⟨_,h3,_⟩ | ⟨c,cap,vs,e1,e2,_⟩
  ·omega
  ·exact ⟨.pointer (some ⟨c,i.toNat*s,none⟩),by simp [execOp,ho,e2,hiv,run_indexAt_sl hT w ⟨c,0,none⟩ n cap k i h0 h1,Addr.add_lit],c,e1,rfl⟩
theorem e_index_aref{T E:TypeId}{x ix:Operand}{s b n p:Nat}{k:IntKind}{i:Int}(ho:o.op=.indexAddr T x ix)(hT:dM P T=some (n,E,s))(hx:ev S x=.ref b p)(hi:ev S ix=.d (.val (.int k i)))
  (h0:0≤i) (h1:i<n):qX P o S [] (.ref b (p+i.toNat*s)) :=
 qX.same fun a w D β hop _=>by
  have hp:=hop x (by simp [ho,Op.operands])
  have hq:=hop ix (by simp [ho,Op.operands])
  rw[hx] at hp
  rw[hi] at hq
  have hiv:=uF hq
  obtain ⟨c,e1,e2⟩:=hp
  exact ⟨.pointer (some ⟨c,p+i.toNat*s,none⟩),by simp [execOp,ho,e2,hiv,run_indexAt_arr hT w ⟨c,p,none⟩ k i h0 h1,Addr.add_lit],c,e1,rfl⟩
theorem e_index_acptr{T E t:TypeId}{x ix:Operand}{s n p:Nat}{cs:List jQ}{k:IntKind}{i:Int}(ho:o.op=.indexAddr T x ix)(hT:dM P T=some (n,E,s))(hx:ev S x=.d (.cptr t cs p))(hi:ev S ix=.d (.val (.int k i)))
  (h0:0≤i) (h1:i<n):qX P o S [] (.d (.cptr t cs (p+i.toNat*s))) :=
 qX.same fun a w D β hop _=>by
  have hp:=hop x (by simp [ho,Op.operands])
  have hq:=hop ix (by simp [ho,Op.operands])
  rw[hx] at hp
  rw[hi] at hq
  have hiv:=uF hq
  generalize hvv:a.eval x=v at hp
  cases hp with
  |cptr g q u hD hu e1 hr=>
   exact ⟨.pointer (some ⟨g,q+(p+i.toNat*s),none⟩),by simp [execOp,ho,hvv,hiv,run_indexAt_arr hT w ⟨g,q+p,none⟩ k i h0 h1,Addr.add_lit,Nat.add_assoc],uT.cptr g q u hD hu e1 hr⟩
theorem e_len_sl{T E t:TypeId}{x:Operand}{s:Nat}{es:List jQ}(ho:o.op=.call { callee:=.builtin .len,args:=#[x],argTypes:=#[T] })(hT:uW P T=some (E,s))(hx:ev S x=.d (.sl t s es)):qX P o S [] (.d (.val (.int .i64 es.length))) :=
 qX.same fun a w D β hop _=>by
  have hp:=hop x (by simp [ho,Op.operands,Call.operands])
  rw[hx] at hp
  obtain ⟨i,e1,e2,e3⟩:=gZ hT
  generalize hvv:a.eval x=v at hp
  cases hp with
  |sl g off u hn hc hm hs ha hD hu h1 hr=>
   subst hn
   exact ⟨.int .i64 es.length,by simp [execOp,ho,resolve,invoke,builtin,hvv,Builtin.len_,run_underlying e1,goInt],.val _⟩
theorem e_len_own{T E t:TypeId}{x:Operand}{s k n:Nat}(ho:o.op=.call { callee:=.builtin .len,args:=#[x],argTypes:=#[T] })(hT:uW P T=some (E,s))(hx:ev S x=.own k t s n):qX P o S [] (.d (.val (.int .i64 n))) :=
 qX.same fun a w D β hop _=>by
  have hp:=hop x (by simp [ho,Op.operands,Call.operands])
  rw[hx] at hp
  obtain ⟨i,e1,e2,e3⟩:=gZ hT
  have:∃ q cap,a.eval x=.slice q n cap:=by
   rcases hp with ⟨_,h3,h4⟩ | ⟨c,cap,vs,_,h4,_⟩
   ·subst h3;exact ⟨_,_,h4⟩
   ·exact ⟨_,_,h4⟩
  obtain ⟨q,cap,hv⟩:=this
  exact ⟨.int .i64 n,by simp [execOp,ho,resolve,invoke,builtin,hv,Builtin.len_,run_underlying e1,goInt],.val _⟩
theorem e_not{T:TypeId}{x:Operand}{b:Bool}(ho:o.op=.unOp .not T x)(hx:ev S x=.d (.val (.bool b))):qX P o S [] (.d (.val (.bool !b))) :=
 qX.same fun a w D β hop _=>by
  have hp:=hop x (by simp [ho,Op.operands])
  rw[hx] at hp
  have hv:=uF hp
  exact ⟨.bool !b,by simp [execOp,ho,hv,Op.unary],.val _⟩
theorem e_neg{T:TypeId}{x:Operand}{k:IntKind}{n r:Int}(ho:o.op=.unOp .neg T x)(hx:ev S x=.d (.val (.int k n)))(hr:k.wrap (0-n)=r):qX P o S [] (.d (.val (.int k r))) :=
 qX.same fun a w D β hop _=>by
  have hp:=hop x (by simp [ho,Op.operands])
  rw[hx] at hp
  have hv:=uF hp
  exact ⟨.int k r,by simp only[execOp,ho,hv,Op.unary,Op.intArith];rw[hr];rfl,.val _⟩
theorem ints2{a:Act}{w:World}{D:qE}{β:qD}{x y:Operand}{op:BinOp}{T T':TypeId}{u v:Value}(ho:o.op=.binOp op T x y T')(hop:Opnds w D β a o S)(hx:ev S x=.d (.val u))(hy:ev S y=.d (.val v)):a.eval x=u∧a.eval y=v:=by
 have h1:=hop x (by simp [ho,Op.operands])
 have h2:=hop y (by simp [ho,Op.operands])
 rw[hx] at h1
 rw[hy] at h2
 exact ⟨uF h1,uF h2⟩
theorem eG{op:BinOp}{T T':TypeId}{x y:Operand}{u v r:Value}(ho:o.op=.binOp op T x y T')(hx:ev S x=.d (.val u))(hy:ev S y=.d (.val v))(hg:eqGuard op T x y u v=pure ())(hr:∀ w,(binOp op T u v).run P w=.ok r w):qX P o S [] (.d (.val r)) :=
 qX.same fun a w D β hop _=>by
  obtain ⟨h1,h2⟩:=ints2 ho hop hx hy
  exact ⟨r,by simp [execOp,ho,h1,h2,hg,hr],.val _⟩
section ints
variable {T T':TypeId} {x y:Operand} {k:IntKind} {m n r:Int}
theorem e_add(ho:o.op=.binOp .add T x y T')(hx:ev S x=.d (.val (.int k m)))(hy:ev S y=.d (.val (.int k n)))(hr:k.wrap (m+n)=r):qX P o S [] (.d (.val (.int k r))) :=
 eG ho hx hy rfl fun w=>by subst hr;simp [binOp,Op.intArith]
theorem e_sub(ho:o.op=.binOp .sub T x y T')(hx:ev S x=.d (.val (.int k m)))(hy:ev S y=.d (.val (.int k n)))(hr:k.wrap (m-n)=r):qX P o S [] (.d (.val (.int k r))) :=
 eG ho hx hy rfl fun w=>by subst hr;simp [binOp,Op.intArith]
theorem e_mul(ho:o.op=.binOp .mul T x y T')(hx:ev S x=.d (.val (.int k m)))(hy:ev S y=.d (.val (.int k n)))(hr:k.wrap (m*n)=r):qX P o S [] (.d (.val (.int k r))) :=
 eG ho hx hy rfl fun w=>by subst hr;simp [binOp,Op.intArith]
theorem e_quo(ho:o.op=.binOp .quo T x y T')(hx:ev S x=.d (.val (.int k m)))(hy:ev S y=.d (.val (.int k n)))(h0:n≠0)(hr:k.wrap (m.tdiv n)=r):qX P o S [] (.d (.val (.int k r))) :=
 eG ho hx hy rfl fun w=>by subst hr;simp [binOp,Op.intDiv,h0]
theorem e_rem(ho:o.op=.binOp .rem T x y T')(hx:ev S x=.d (.val (.int k m)))(hy:ev S y=.d (.val (.int k n)))(h0:n≠0)(hr:m.tmod n=r):qX P o S [] (.d (.val (.int k r))) :=
 eG ho hx hy rfl fun w=>by subst hr;simp [binOp,Op.intDiv,h0]
theorem e_eql(ho:o.op=.binOp .eql T x y T')(hx:ev S x=.d (.val (.int k m)))(hy:ev S y=.d (.val (.int k n))):qX P o S [] (.d (.val (.bool (m == n)))) :=
 eG ho hx hy (by simp [eqGuard]) fun w=>by simp [binOp,Op.intCmp]
theorem e_neq(ho:o.op=.binOp .neq T x y T')(hx:ev S x=.d (.val (.int k m)))(hy:ev S y=.d (.val (.int k n))):qX P o S [] (.d (.val (.bool (m != n)))) :=
 eG ho hx hy (by simp [eqGuard]) fun w=>by simp [binOp,Op.intCmp]
theorem e_lss(ho:o.op=.binOp .lss T x y T')(hx:ev S x=.d (.val (.int k m)))(hy:ev S y=.d (.val (.int k n))):qX P o S [] (.d (.val (.bool (decide (m<n))))) :=
 eG ho hx hy rfl fun w=>by simp [binOp,Op.intCmp]
theorem e_leq(ho:o.op=.binOp .leq T x y T')(hx:ev S x=.d (.val (.int k m)))(hy:ev S y=.d (.val (.int k n))):qX P o S [] (.d (.val (.bool (decide (m≤n))))) :=
 eG ho hx hy rfl fun w=>by simp [binOp,Op.intCmp]
theorem e_gtr(ho:o.op=.binOp .gtr T x y T')(hx:ev S x=.d (.val (.int k m)))(hy:ev S y=.d (.val (.int k n))):qX P o S [] (.d (.val (.bool (decide (n<m))))) :=
 eG ho hx hy rfl fun w=>by simp [binOp,Op.intCmp]
theorem e_geq(ho:o.op=.binOp .geq T x y T')(hx:ev S x=.d (.val (.int k m)))(hy:ev S y=.d (.val (.int k n))):qX P o S [] (.d (.val (.bool (decide (n≤m))))) :=
 eG ho hx hy rfl fun w=>by simp [binOp,Op.intCmp]
end ints
def boolB(P:Program)(T:TypeId):Bool :=
 match P.underlying T with
 |some .bool=>true
 |_=>false
theorem bool_of{T:TypeId}(h:boolB P T=true):P.underlying T=some .bool:=by
 unfold boolB at h
 split at h
 ·assumption
 ·cases h
theorem run_equal_bool{T:TypeId}(hT:boolB P T=true)(p q:Bool)(w:World):(Op.equal T (.bool p) (.bool q)).run P w=.ok (p == q) w:=by
 have hd:=bool_of hT
 have:∀ d:Nat,(Op.equalIn (d+1) T (.bool p) (.bool q)).run P w=.ok (p == q) w:=fun d=>by
  simp [Op.equalIn,run_underlying hd]
 exact this 9999
theorem e_eqlb{T T':TypeId}{x y:Operand}{p q:Bool}(ho:o.op=.binOp .eql T x y T')(hT:boolB P T=true)(hx:ev S x=.d (.val (.bool p)))(hy:ev S y=.d (.val (.bool q))):qX P o S [] (.d (.val (.bool (p == q)))) :=
 eG ho hx hy (by simp [eqGuard]) fun w=>by simp [binOp,run_equal_bool hT]
theorem e_neqb{T T':TypeId}{x y:Operand}{p q:Bool}(ho:o.op=.binOp .neq T x y T')(hT:boolB P T=true)(hx:ev S x=.d (.val (.bool p)))(hy:ev S y=.d (.val (.bool q))):qX P o S [] (.d (.val (.bool (!(p == q))))) :=
 eG ho hx hy (by simp [eqGuard]) fun w=>by simp [binOp,run_equal_bool hT]
theorem e_conv{src dst:TypeId}{x:Operand}{k l:IntKind}{n r:Int}(ho:o.op=.convert src dst x)(hs:(P.underlying src).isSome=true)(hd:intB P dst=some l)(hx:ev S x=.d (.val (.int k n)))(hr:l.wrap n=r):qX P o S [] (.d (.val (.int l r))) :=
 qX.same fun a w D β hop _=>by
  have hp:=hop x (by simp [ho,Op.operands])
  rw[hx] at hp
  have hv:=uF hp
  obtain ⟨d,hd'⟩:=Option.isSome_iff_exists.mp hs
  refine ⟨.int l r,?_,.val _⟩
  subst hr
  simp [execOp,ho,hv,convert,run_underlying hd',run_underlying (int_of hd),Conv.intToInt]
theorem e_max{T T':TypeId}{x y:Operand}{k:IntKind}{m n:Int}(ho:o.op=.call { callee:=.builtin .max,args:=#[x,y],argTypes:=#[T,T'] })(hx:ev S x=.d (.val (.int k m)))(hy:ev S y=.d (.val (.int k n))):qX P o S [] (.d (.val (.int k (if m<n then n else m)))) :=
 qX.same fun a w D β hop _=>by
  have h1:=hop x (by simp [ho,Op.operands,Call.operands])
  have h2:=hop y (by simp [ho,Op.operands,Call.operands])
  rw[hx] at h1
  rw[hy] at h2
  have e1:=uF h1
  have e2:=uF h2
  exact ⟨_,by simp [execOp,ho,resolve,invoke,builtin,e1,e2,Builtin.max_,Builtin.max2],.val _⟩
theorem e_min{T T':TypeId}{x y:Operand}{k:IntKind}{m n:Int}(ho:o.op=.call { callee:=.builtin .min,args:=#[x,y],argTypes:=#[T,T'] })(hx:ev S x=.d (.val (.int k m)))(hy:ev S y=.d (.val (.int k n))):qX P o S [] (.d (.val (.int k (if n<m then n else m)))) :=
 qX.same fun a w D β hop _=>by
  have h1:=hop x (by simp [ho,Op.operands,Call.operands])
  have h2:=hop y (by simp [ho,Op.operands,Call.operands])
  rw[hx] at h1
  rw[hy] at h2
  have e1:=uF h1
  have e2:=uF h2
  exact ⟨_,by simp [execOp,ho,resolve,invoke,builtin,e1,e2,Builtin.min_,Builtin.min2],.val _⟩
theorem rep_agg{w:World}{D:qE}{v:Value}{cs:List jQ}(h:uT w D v (.agg cs)) :
  ∃ vs:List Value,v=.agg vs.toArray∧vs.length=cs.length∧(∀ v∈vs,v.oneCell'=true)∧∀ (i:Nat) v d,vs[i]?=some v→cs[i]?=some d→uT w D v d:=by
 cases h with
 |agg vs hl h1 hr=>exact ⟨vs,rfl,hl,h1,hr⟩
theorem rep_tup{w:World}{D:qE}{v:Value}{cs:List jQ}(h:uT w D v (.tup cs)) :
  ∃ vs:List Value,v=.tuple vs.toArray∧vs.length=cs.length∧∀ (i:Nat) v d,vs[i]?=some v→cs[i]?=some d→uT w D v d:=by
 cases h with
 |tup vs hl hr=>exact ⟨vs,rfl,hl,hr⟩
theorem e_extract{x:Operand}{i:Nat}{ds:List jQ}{d:jQ}(ho:o.op=.extract x i)(hx:ev S x=.d (.tup ds))(hd:ds[i]?=some d):qX P o S [] (.d d) :=
 qX.same fun a w D β hop _=>by
  have hp:=hop x (by simp [ho,Op.operands])
  rw[hx] at hp
  obtain ⟨vs,hv,hl,hr⟩:=rep_tup hp
  have hi:i<vs.length:=by rw[hl];exact (List.getElem?_eq_some_iff.1 hd).1
  exact ⟨vs[i],by simp [execOp,ho,hv,Instr.extract,List.getElem?_eq_getElem hi],hr i _ _ (List.getElem?_eq_getElem hi) hd⟩
theorem run_part{t:TypeId}{agg:Bool}{sz:Nat}(hs:kZ P t=some (agg,sz))(h1:agg=false→sz=1)(w:World)(D:qE){β:qD}(vs:List Value)(cs:List jQ)(off:Nat)(hl:vs.length=cs.length)(dV:∀ v∈vs,v.oneCell'=true)
  (hr:∀ (i:Nat) v d,vs[i]?=some v→cs[i]?=some d→uT w D v d) (hle:off+sz≤cs.length):∃ v,(part t vs.toArray off).run P w=.ok v w∧qG w D β v (yC agg (((cs.drop off).take sz).map .d)):=by
 obtain ⟨d,i,e1,e2,e3,e4⟩:=shape_of hs
 cases agg with
 |true=>
  refine ⟨.agg ((vs.drop off).take sz).toArray,?_,repS_agg (by simp;omega) (fun v hv=>dV v (List.mem_of_mem_drop (List.mem_of_mem_take hv))) (fun j v y hv hy=>?_)⟩
  ·simp only[part,Sem.run_bind,eF e1,e3,Result.andThen_ok,if_true,vE e2,e4,Sem.run_pure]
   congr 2
   simp [List.extract_eq_take_drop]
  ·have hj:j<sz:=by
    have:=(List.getElem?_eq_some_iff.1 hv).1
    simp at this;omega
   rw[List.getElem?_map,Option.map_eq_some_iff] at hy
   obtain ⟨z,hz,rfl⟩:=hy
   rw[List.getElem?_take_of_lt hj,List.getElem?_drop] at hv hz
   exact hr _ _ _ hv hz
 |false=>
  obtain rfl:=h1 rfl
  have hlt:off<cs.length:=by omega
  have hlt':off<vs.length:=by omega
  refine ⟨vs[off],by simp [part,eF e1,e3,List.getElem?_eq_getElem hlt'],?_⟩
  have:((cs.drop off).take 1).map SV.d=[.d cs[off]]:=by
   rw[List.drop_eq_getElem_cons hlt];rfl
  rw[this]
  exact hr _ _ _ (List.getElem?_eq_getElem hlt') (List.getElem?_eq_getElem hlt)
def fH(P:Program)(T:TypeId)(f:Nat):Option (Nat × TypeId) :=
 match P.underlying T with
 |some (.struct fs)=>(fs[f]?).map fun fl=>(fl.offset,fl.type)
 |_=>none
theorem fieldT_of{T t:TypeId}{f off:Nat}(h:fH P T f=some (off,t)):∃ fs fl,P.underlying T=some (.struct fs)∧fs[f]?=some fl∧fl.offset=off∧fl.type=t:=by
 unfold fH at h
 split at h
 ·rename_i fs hfs
  rw[Option.map_eq_some_iff] at h
  obtain ⟨fl,h1,h2⟩:=h
  simp only[Prod.mk.injEq] at h2
  exact ⟨fs,fl,hfs,h1,h2.1,h2.2⟩
 ·cases h
theorem e_field{T t:TypeId}{x:Operand}{f off sz:Nat}{agg:Bool}{cs:List jQ}(ho:o.op=.field T x f)(hx:ev S x=.d (.agg cs))(hf:fH P T f=some (off,t))(hs:kZ P t=some (agg,sz))(h1:agg=false→sz=1)(hle:off+sz≤cs.length) :
  qX P o S [] (yC agg (((cs.drop off).take sz).map .d)) :=
 qX.same fun a w D β hop _=>by
  have hp:=hop x (by simp [ho,Op.operands])
  rw[hx] at hp
  obtain ⟨vs,hv,hl,dV,hr⟩:=rep_agg hp
  obtain ⟨fs,fl,e1,e2,e3,e4⟩:=fieldT_of hf
  subst e3;subst e4
  obtain ⟨v,h2,h3⟩:=run_part (β:=β) hs h1 w D vs cs fl.offset hl dV hr hle
  exact ⟨v,by simp [execOp,ho,hv,Instr.field,run_underlying e1,e2,asAgg,h2],h3⟩
theorem e_index_arr{T E:TypeId}{x ix:Operand}{n s sz:Nat}{agg:Bool}{k:IntKind}{i:Int}{cs:List jQ}(ho:o.op=.index T x ix)(hx:ev S x=.d (.agg cs))(hT:dM P T=some (n,E,s))(hs:kZ P E=some (agg,sz))(h1:agg=false→sz=1)
  (hi:ev S ix=.d (.val (.int k i))) (h0:0≤i) (hn:i<n) (hle:i.toNat*s+sz≤cs.length):qX P o S [] (yC agg (((cs.drop (i.toNat*s)).take sz).map .d)) :=
 qX.same fun a w D β hop _=>by
  have hp:=hop x (by simp [ho,Op.operands])
  have hq:=hop ix (by simp [ho,Op.operands])
  rw[hx] at hp
  rw[hi] at hq
  have hiv:=uF hq
  obtain ⟨vs,hv,hl,dV,hr⟩:=rep_agg hp
  obtain ⟨j,e1,e2,e3⟩:=arr_of hT
  obtain ⟨v,h2,h3⟩:=run_part (β:=β) hs h1 w D vs cs (i.toNat*s) hl dV hr hle
  exact ⟨v,by simp [execOp,ho,hv,hiv,Instr.index,asIntOf,run_underlying e1,h0,hn,vE e2,e3,h2],h3⟩
end
end Go.Fid
