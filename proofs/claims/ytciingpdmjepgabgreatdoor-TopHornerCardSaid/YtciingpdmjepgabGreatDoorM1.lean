/- Part 1 of a proof: rules, plain facts, and functions walked. -/
import Derived.WalkKit
import Derived.WalkSpells
import Derived.WalkLawsBesides
import Derived.Orders
import Derived.KernelRfl
import Derived.RangeFuncFrom
import Derived.RangeFuncLeaves
import Derived.OrdersIn
import Derived.TacticsIn
set_option linter.all false
namespace Go.Fid
open Go.RowKit (Below)
abbrev kV:=TypeId->Nat->Nat->Prop
abbrev kY:=Nat->Option Nat
inductive jT where
 |val (v:Value)
 |sl (t:TypeId) (s:Nat) (es:List jT)
 |agg (cs:List jT)
 |tup (vs:List jT)
 |cptr (t:TypeId) (cs:List jT) (off:Nat)
 |clo (f:FuncId) (aD:List jT)
instance:Inhabited jT:=⟨.tup []⟩
def jT.cells:jT->List jT
 |.agg cs=>cs
 |d=>[d]
def kR(es:List jT):List jT:=es.flatMap jT.cells
theorem nZ(e:jT)(es:List jT):kR (e::es)=e.cells++kR es:=by simp [kR]
theorem eR(a b:List jT):kR (a++b)=kR a++kR b:=by simp [kR]
theorem uQ{s:Nat}:∀ {es:List jT},(∀ e∈es,e.cells.length=s)->(kR es).length=es.length*s
 |[],_=>by simp [kR]
 |e::es,h=>by
  rw[nZ,List.length_append,h e (by simp),uQ (es:=es) (fun x hx=>h x (by simp [hx])),List.length_cons,Nat.add_mul]
  omega
theorem flat_get{s:Nat}:∀ {es:List jT} {i j:Nat} {e:jT},(∀ e∈es,e.cells.length=s)->es[i]?=some e->j<s->(kR es)[i*s+j]?=e.cells[j]?
 |[],i,j,e,_,h,_=>by simp at h
 |x::es,0,j,e,hs,h,hj=>by
  simp at h
  subst h
  rw[nZ,Nat.zero_mul,Nat.zero_add,List.getElem?_append_left (by rw[hs x (by simp)];exact hj)]
 |x::es,i+1,j,e,hs,h,hj=>by
  have hx:=hs x (by simp)
  have ih:=flat_get (es:=es) (i:=i) (j:=j) (e:=e) (fun y hy=>hs y (by simp [hy])) (by simpa using h) hj
  have h1:(i+1)*s=i*s+s:=by rw[Nat.add_mul];omega
  rw[nZ,List.getElem?_append_right (by omega),hx,<- ih]
  congr 1
  omega
inductive uN (w:World) (D:kV):Value->jT->Prop
 |val (v:Value):uN w D v (.val v)
 |sl {t:TypeId} {s:Nat} {es:List jT} {a:Option Addr} {n cap:Nat} (g off:Nat) (u:Nat->Value) (hn:n=es.length) (hc:n<=cap) (hm:cap<=maxLen)
   (hs:∀ e∈es,e.cells.length=s) (ha:0<n->a=some ⟨g,off,none⟩)
   (hD:∀ i,i<(kR es).length->D t g (off+i)) (hu:∀ i,i<(kR es).length->w.cell? ⟨g,off+i,none⟩=some (u i))
   (h1:∀ i,i<(kR es).length->(u i).oneCell'=true) (hr:∀ (i:Nat) d,(kR es)[i]?=some d->uN w D (u i) d):uN w D (.slice a n cap) (.sl t s es)
 |agg {cs:List jT} (vs:List Value) (hl:vs.length=cs.length) (h1:∀ v∈vs,v.oneCell'=true) (hr:∀ (i:Nat) v d,vs[i]?=some v->cs[i]?=some d->uN w D v d):uN w D (.agg vs.toArray) (.agg cs)
 |tup {ds:List jT} (vs:List Value) (hl:vs.length=ds.length) (hr:∀ (i:Nat) v d,vs[i]?=some v->ds[i]?=some d->uN w D v d):uN w D (.tuple vs.toArray) (.tup ds)
 |cptr {t:TypeId} {cs:List jT} {off:Nat} (g o:Nat) (u:Nat->Value)
   (hD:∀ i,i<cs.length->D t g (o+i)) (hu:∀ i,i<cs.length->w.cell? ⟨g,o+i,none⟩=some (u i))
   (h1:∀ i,i<cs.length->(u i).oneCell'=true) (hr:∀ (i:Nat) d,cs[i]?=some d->uN w D (u i) d):uN w D (.pointer (some ⟨g,o+off,none⟩)) (.cptr t cs off)
 |clo {f:FuncId} {aD:List jT} (vs:List Value) (hl:vs.length=aD.length) (hr:∀ (i:Nat) v d,vs[i]?=some v->aD[i]?=some d->uN w D v d):uN w D (.func (.func f) #[] vs.toArray) (.clo f aD)
theorem uN.mono{w w':World}{D D':kV}(hk:∀ t g o,D t g o->D' t g o/\w'.cell? ⟨g,o,none⟩=w.cell? ⟨g,o,none⟩){v:Value}{d:jT}(h:uN w D v d):uN w' D' v d:=by
 induction h with
 |val v=>exact .val v
 |sl g off u hn hc hm hs ha hD hu h1 hr ih=>exact .sl g off u hn hc hm hs ha (fun i hi=>(hk _ _ _ (hD i hi)).1) (fun i hi=>((hk _ _ _ (hD i hi)).2).trans (hu i hi)) h1 ih
 |agg vs hl h1 hr ih=>exact .agg vs hl h1 ih
 |tup vs hl hr ih=>exact .tup vs hl ih
 |cptr g o u hD hu h1 hr ih=>exact .cptr g o u (fun i hi=>(hk _ _ _ (hD i hi)).1) (fun i hi=>((hk _ _ _ (hD i hi)).2).trans (hu i hi)) h1 ih
 |clo vs hl hr ih=>exact .clo vs hl ih
def Obj.isMp:Obj->Bool
 |.map _ _=>true
 |.mapIter _ _ _ _=>true
 |_=>false
inductive SV where
 |d (x:jT)
 |ref (k o:Nat)
 |own (k:Nat) (t:TypeId) (s n:Nat)
 |clo (f:FuncId) (ks:List Nat)
 |emp
 |view (k o n:Nat)
 |mp (k:Nat)
 |mo (ob:Obj)
 |pr (k:Nat) (t:TypeId) (s n:Nat) (x:jT)
 |refx (k o b:Nat)
 |mpx (k b:Nat)
 |bnd (f k o:Nat)
 |ownx (k:Nat) (t:TypeId) (s n:Nat) (u:Value)
 |junk
instance:Inhabited SV:=⟨.junk⟩
def qC(w:World)(D:kV)(β:kY):Value->SV->Prop
 |v,.d x=>uN w D v x
 |v,.ref k o=>∃ b,β k=some b/\v=.pointer (some ⟨b,o,none⟩)
 |v,.own k t s n=>(β k=none/\n=0/\v=.slice none 0 0)\/∃ b cap vs,β k=some b/\v=.slice (some ⟨b,0,none⟩) n cap/\w.heap[b]?=some (.cells vs t (0,0))/\vs.size=cap*s/\n<=cap/\cap<=maxLen
 |v,.clo f ks=>∃ vs:List Value,v=.func (.func f) #[] vs.toArray/\vs.length=ks.length/\∀ (i k:Nat),ks[i]?=some k->∃ b,β k=some b/\vs[i]?=some (.pointer (some ⟨b,0,none⟩))
 |v,.emp=>∃ ao,v=.slice ao 0 0
 |v,.view k o n=>∃ b cap,β k=some b/\v=.slice (some ⟨b,o,none⟩) n cap/\n<=cap/\cap<=maxLen
 |v,.mp k=>∃ b,β k=some b/\v=.map (some b)
 |_,.mo _=>False
 |v,.pr k t s n x=>∃ v1 v2,v=.tuple #[v1,v2]/\((β k=none/\n=0/\v1=.slice none 0 0)\/∃ b cap vs,β k=some b/\v1=.slice (some ⟨b,0,none⟩) n cap/\w.heap[b]?=some (.cells vs t (0,0))/\vs.size=cap*s/\n<=cap/\cap<=maxLen)/\uN w D v2 x
 |v,.refx k o b=>β k=some b/\v=.pointer (some ⟨b,o,none⟩)
 |v,.mpx k b=>β k=some b/\v=.map (some b)
 |v,.bnd f k o=>∃ b,β k=some b/\v=.func (.func f) #[.pointer (some ⟨b,o,none⟩)] #[]
 |v,.ownx k t s n u=>v=u/\((β k=none/\n=0/\v=.slice none 0 0)\/∃ b cap vs,β k=some b/\v=.slice (some ⟨b,0,none⟩) n cap/\w.heap[b]?=some (.cells vs t (0,0))/\vs.size=cap*s/\n<=cap/\cap<=maxLen)
 |_,.junk=>True
def SV.names(k:Nat):SV->Bool
 |.ref j _=>Nat.beq k j
 |.own j _ _ _=>Nat.beq k j
 |.view j _ _=>Nat.beq k j
 |.clo _ ks=>ks.any (Nat.beq k)
 |.pr j _ _ _ _=>Nat.beq k j
 |.refx j _ _=>Nat.beq k j
 |.mpx j _=>Nat.beq k j
 |.bnd _ j _=>Nat.beq k j
 |.ownx j _ _ _ _=>Nat.beq k j
 |.mp j=>Nat.beq k j
 |_=>false
abbrev BS:=List (Nat × Option (List SV))
def jY:BS->Nat->Option (List SV)
 |[],_=>none
 |(j,c)::r,k=>bif Nat.beq j k then c else jY r k
abbrev SL:=List (Nat × SV)
def kA:SL->Nat->SV
 |[],_=>.junk
 |(j,x)::r,t=>bif Nat.beq j t then x else kA r t
theorem yJ{a b:Nat}(h:Nat.beq a b=true):a=b:=Nat.eq_of_beq_eq_true h
theorem dL{a b:Nat}(h:Nat.beq a b=false):a≠b:=Nat.ne_of_beq_eq_false h
theorem qM(j:Nat)(x:SV)(r:SL)(t:Nat):kA ((j,x)::r) t=if j=t then x else kA r t:=by
 simp only[kA]
 by_cases h:j=t
 ·subst h;simp
 ·have:Nat.beq j t=false:=by rw[<- Bool.not_eq_true];exact fun e=>h (Nat.eq_of_beq_eq_true e)
  simp [this,h]
theorem jI(j:Nat)(x:Option (List SV))(r:BS)(t:Nat):jY ((j,x)::r) t=if j=t then x else jY r t:=by
 simp only[jY]
 by_cases h:j=t
 ·subst h;simp
 ·have:Nat.beq j t=false:=by rw[<- Bool.not_eq_true];exact fun e=>h (Nat.eq_of_beq_eq_true e)
  simp [this,h]
def eW(w:World)(D:kV)(β:kY)(k:Nat)(cs:List SV):Prop :=
 (β k=none/\cs=[])\/∃ b ob,β k=some b/\w.heap[b]?=some ob/\Obj.isMp ob=true/\cs=[.mo ob]/\∀ t o,¬ D t b o
def uA(w:World)(D:kV)(β:kY)(k:Nat)(cs:List SV):Prop :=
 eW w D β k cs\/∃ b vs T,β k=some b/\w.heap[b]?=some (.cells vs T (0,0))/\cs.length<=vs.size /\
  (∀ (i:Nat) x,cs[i]?=some x->∃ u,vs[i]?=some u/\u.oneCell'=true/\qC w D β u x)/\∀ t o,¬ D t b o
def SV.isMo:SV->Bool
 |.mo _=>true
 |_=>false
def yQ:List SV->Bool
 |[.mo _]=>true
 |_=>false
theorem gR(l:List jT):yQ (l.map .d)=false:=by
 rcases l with _ | ⟨a,_ | ⟨b,l⟩⟩<;>rfl
theorem mapCs_at{l:List SV}{i:Nat}{x:SV}(h:l[i]?=some x)(hx:x.isMo=false):yQ l=false:=by
 unfold yQ
 split
 ·rename_i ob
  rcases i with _ | i
  ·simp at h;subst h;cases hx
  ·simp at h
 ·rfl
theorem eW.cells{w:World}{D:kV}{β:kY}{k:Nat}{cs:List SV}(h:eW w D β k cs)(hm:yQ cs=false):β k=none/\cs=[]:=by
 rcases h with h | ⟨b,ob,_,_,_,h4,_⟩
 ·exact h
 ·subst h4;cases hm
structure Mem (w:World) (D:kV) (β:kY) (bs:BS):Prop where
 ok:∀ k cs,jY bs k=some cs->uA w D β k cs
 inj:∀ k1 k2 c1 c2,jY bs k1=some c1->jY bs k2=some c2->∀ b,β k1=some b->β k2=some b->k1=k2
def tabG:Option Nat:=none
def tabV:Array Value:=((List.range 20).map fun i=>Value.int .u64 ((10 ^ i:Nat):Int)).toArray
def LtOk(D:kV)(w:World):Prop:=∀ G,tabG=some G->∀ i,D 1000007 G i/\w.cell? ⟨G,i,none⟩=tabV[i]?
theorem LtOk.mono{D D':kV}{w w':World}(h:LtOk D w)(up:∀ t g o,D t g o->D' t g o)(keep:∀ t g o,D t g o->w'.cell? ⟨g,o,none⟩=w.cell? ⟨g,o,none⟩):LtOk D' w':=fun G hG i=>⟨up _ _ _ (h G hG i).1,(keep _ _ _ (h G hG i).1).trans (h G hG i).2⟩
structure DOk (D:kV) (w:World):Prop where
 lt:∀ t g o,D t g o->g<w.heap.size
 tab:LtOk D w
structure aF (D D':kV) (w w':World):Prop where
 up:∀ t g o,D t g o->D' t g o
 new:∀ t g o,D' t g o->D t g o\/(w.heap.size<=g/\g<w'.heap.size)
theorem nK{B:Nat}{w w':World}(h:Below B w w'){g o:Nat}(hg:g<B):w'.cell? ⟨g,o,none⟩=w.cell? ⟨g,o,none⟩:=h.cell (p:=⟨g,o,none⟩) hg
theorem aF.refl(D:kV)(w:World):aF D D w w:=⟨fun _ _ _ h=>h,fun _ _ _ h=>.inl h⟩
theorem aF.of_same(D:kV){w w':World}:aF D D w w':=⟨fun _ _ _ h=>h,fun _ _ _ h=>.inl h⟩
theorem aF.ok{D D':kV}{w w':World}(h:aF D D' w w')(hD:DOk D w)(hb:Below w.heap.size w w'):DOk D' w':=⟨fun t g o hd=>by
 rcases h.new t g o hd with h1 | h1
 ·have:=hD.lt t g o h1;have:=hb.size;omega
 ·exact h1.2,hD.tab.mono h.up fun t g o hd=>nK hb (hD.lt t g o hd)⟩
theorem DOk.more{D D':kV}{w:World}(hD:DOk D w)(up:∀ t g o,D t g o->D' t g o)(h:∀ t g o,D' t g o->g<w.heap.size):DOk D' w:=⟨h,hD.tab.mono up fun _ _ _ _=>rfl⟩
theorem DOk.kept{D:kV}{w w':World}(hD:DOk D w)(hs:w.heap.size<=w'.heap.size)(keep:∀ t g o,D t g o->w'.cell? ⟨g,o,none⟩=w.cell? ⟨g,o,none⟩):DOk D w':=⟨fun t g o hd=>Nat.lt_of_lt_of_le (hD.lt t g o hd) hs,hD.tab.mono (fun _ _ _ h=>h) keep⟩
section
variable {w w':World} {D D':kV} {β:kY}
theorem uN.up(hb:Below w.heap.size w w')(hu:aF D D' w w')(hD:DOk D w){v:Value}{d:jT}(h:uN w D v d):uN w' D' v d :=
 h.mono fun t g o hd=>⟨hu.up t g o hd,nK hb (hD.lt t g o hd)⟩
theorem qV{k:Nat}{o:Obj}(h:w.heap[k]?=some o):k<w.heap.size:=(Array.getElem?_eq_some_iff.1 h).1
theorem qC.up(hb:Below w.heap.size w w')(hu:aF D D' w w')(hD:DOk D w){v:Value}{x:SV}(h:qC w D β v x):qC w' D' β v x:=by
 cases x with
 |d x=>exact uN.up hb hu hD h
 |ref k o=>exact h
 |own k t s n=>
  rcases h with h | ⟨b,cap,vs,h1,h2,h3,h4⟩
  ·exact .inl h
  ·exact .inr ⟨b,cap,vs,h1,h2,(hb.block b (qV h3)).trans h3,h4⟩
 |clo f ks=>exact h
 |emp=>exact h
 |view k o n=>exact h
 |mp k=>exact h
 |mo ob=>exact h
 |pr k t s n x=>
  obtain ⟨v1,v2,e,h1,h2⟩:=h
  refine ⟨v1,v2,e,?_,uN.up hb hu hD h2⟩
  rcases h1 with h | ⟨b,cap,vs,h1,h2,h3,h4⟩
  ·exact .inl h
  ·exact .inr ⟨b,cap,vs,h1,h2,(hb.block b (qV h3)).trans h3,h4⟩
 |refx k o b=>exact h
 |mpx k b=>exact h
 |bnd f k o=>exact h
 |ownx k t s n u=>
  refine ⟨h.1,?_⟩
  rcases h.2 with h | ⟨b,cap,vs,h1,h2,h3,h4⟩
  ·exact .inl h
  ·exact .inr ⟨b,cap,vs,h1,h2,(hb.block b (qV h3)).trans h3,h4⟩
 |junk=>trivial
theorem eW.up(hb:Below w.heap.size w w')(hu:aF D D' w w')(hD:DOk D w){k:Nat}{cs:List SV}(h:eW w D β k cs):eW w' D' β k cs:=by
 rcases h with h | ⟨b,ob,h1,h2,h3,h4,h5⟩
 ·exact .inl h
 ·refine .inr ⟨b,ob,h1,(hb.block b (qV h2)).trans h2,h3,h4,fun t o hd=>?_⟩
  rcases hu.new t b o hd with h6 | h6
  ·exact h5 t o h6
  ·have:=qV h2;omega
theorem uA.lt{k:Nat}{cs:List SV}{b:Nat}(h:uA w D β k cs)(hb:β k=some b):b<w.heap.size:=by
 rcases h with (⟨h1,_⟩ | ⟨b',ob,h1,h2,_⟩) | ⟨b',vs,T,h1,h2,_⟩
 ·rw[h1] at hb;cases hb
 ·rw[h1] at hb;injection hb with e;subst e;exact qV h2
 ·rw[h1] at hb;injection hb with e;subst e;exact qV h2
theorem uA.up(hb:Below w.heap.size w w')(hu:aF D D' w w')(hD:DOk D w){k:Nat}{cs:List SV}(h:uA w D β k cs):uA w' D' β k cs:=by
 rcases h with h | ⟨b,vs,T,h1,h2,h3,h4,h5⟩
 ·exact .inl (h.up hb hu hD)
 ·refine .inr ⟨b,vs,T,h1,(hb.block b (qV h2)).trans h2,h3,fun i x hx=>?_,fun t o hd=>?_⟩
  ·obtain ⟨u,e1,e2,e3⟩:=h4 i x hx
   exact ⟨u,e1,e2,e3.up hb hu hD⟩
  ·rcases hu.new t b o hd with h6 | h6
   ·exact h5 t o h6
   ·have:=qV h2;omega
theorem Mem.up(hb:Below w.heap.size w w')(hu:aF D D' w w')(hD:DOk D w){bs:BS}(h:Mem w D β bs):Mem w' D' β bs :=
 ⟨fun k cs hk=>(h.ok k cs hk).up hb hu hD,h.inj⟩
end
def kY.set(β:kY)(k b:Nat):kY:=fun j=>if j=k then some b else β j
theorem qC.frame{w:World}{D:kV}{β β':kY}{k:Nat}{v:Value}{x:SV}(hβ:∀ j,j≠k->β' j=β j)(hx:x.names k=false)(h:qC w D β v x):qC w D β' v x:=by
 cases x with
 |d x=>exact h
 |ref j o=>
  have hj:j≠k:=fun e=>by subst e;simp [SV.names] at hx
  obtain ⟨b,h1,h2⟩:=h
  exact ⟨b,(hβ j hj).trans h1,h2⟩
 |own j t s n=>
  have hj:j≠k:=fun e=>by subst e;simp [SV.names] at hx
  rcases h with ⟨h1,h2⟩ | ⟨b,cap,vs,h1,h2⟩
  ·exact .inl ⟨(hβ j hj).trans h1,h2⟩
  ·exact .inr ⟨b,cap,vs,(hβ j hj).trans h1,h2⟩
 |clo f ks=>
  obtain ⟨vs,h1,h2,h3⟩:=h
  refine ⟨vs,h1,h2,fun i j hj=>?_⟩
  obtain ⟨b,h4,h5⟩:=h3 i j hj
  have hne:j≠k:=fun e=>by
   subst e
   simp only[SV.names,List.any_eq_false] at hx
   exact hx j (List.mem_of_getElem? hj) (by simp)
  exact ⟨b,(hβ j hne).trans h4,h5⟩
 |emp=>exact h
 |view j o n=>
  have hj:j≠k:=fun e=>by subst e;simp [SV.names] at hx
  obtain ⟨b,cap,h1,h2⟩:=h
  exact ⟨b,cap,(hβ j hj).trans h1,h2⟩
 |mp j=>
  have hj:j≠k:=fun e=>by subst e;simp [SV.names] at hx
  obtain ⟨b,h1,h2⟩:=h
  exact ⟨b,(hβ j hj).trans h1,h2⟩
 |mo ob=>exact h
 |pr j t s n x=>
  have hj:j≠k:=fun e=>by subst e;simp [SV.names] at hx
  obtain ⟨v1,v2,e,h1,h2⟩:=h
  refine ⟨v1,v2,e,?_,h2⟩
  rcases h1 with ⟨h1,h2⟩ | ⟨b,cap,vs,h1,h2⟩
  ·exact .inl ⟨(hβ j hj).trans h1,h2⟩
  ·exact .inr ⟨b,cap,vs,(hβ j hj).trans h1,h2⟩
 |refx j o b=>
  have hj:j≠k:=fun e=>by subst e;simp [SV.names] at hx
  exact ⟨(hβ j hj).trans h.1,h.2⟩
 |mpx j b=>
  have hj:j≠k:=fun e=>by subst e;simp [SV.names] at hx
  exact ⟨(hβ j hj).trans h.1,h.2⟩
 |bnd f j o=>
  have hj:j≠k:=fun e=>by subst e;simp [SV.names] at hx
  obtain ⟨b,h1,h2⟩:=h
  exact ⟨b,(hβ j hj).trans h1,h2⟩
 |ownx j t s n u=>
  have hj:j≠k:=fun e=>by subst e;simp [SV.names] at hx
  refine ⟨h.1,?_⟩
  rcases h.2 with ⟨h1,h2⟩ | ⟨b,cap,vs,h1,h2⟩
  ·exact .inl ⟨(hβ j hj).trans h1,h2⟩
  ·exact .inr ⟨b,cap,vs,(hβ j hj).trans h1,h2⟩
 |junk=>trivial
def kZ(k:Nat)(cs:List SV):Bool:=cs.any (SV.names k)
theorem eW.frame{w:World}{D:kV}{β β':kY}{j:Nat}{cs:List SV}(hβ:β' j=β j)(h:eW w D β j cs):eW w D β' j cs:=by
 rcases h with ⟨h1,h2⟩ | ⟨b,ob,h1,h2⟩
 ·exact .inl ⟨hβ.trans h1,h2⟩
 ·exact .inr ⟨b,ob,hβ.trans h1,h2⟩
theorem eW.more{w:World}{D D':kV}{β:kY}{j g:Nat}{cs:List SV}(h:eW w D β j cs)(hd:∀ t b o,D' t b o->D t b o\/b=g)(hne:β j≠some g):eW w D' β j cs:=by
 rcases h with h | ⟨b,ob,h1,h2,h3,h4,h5⟩
 ·exact .inl h
 ·exact .inr ⟨b,ob,h1,h2,h3,h4,fun t o hD=>by
   rcases hd t b o hD with h6 | h6
   ·exact h5 t o h6
   ·exact hne (h6▸h1)⟩
theorem eW.at_cells{w:World}{D:kV}{β:kY}{k b:Nat}{cs:List SV}{vs:Array Value}{T:TypeId}{f:Nat × Nat}(h:eW w D β k cs)(hk:β k=some b)(hb:w.heap[b]?=some (.cells vs T f)):False:=by
 rcases h with ⟨h1,_⟩ | ⟨b',ob,h1,h2,h3,_⟩
 ·rw[hk] at h1;cases h1
 ·rw[hk] at h1;injection h1 with h1;subst h1;rw[hb] at h2;injection h2 with h2;subst h2;cases h3
theorem uA.frame{w:World}{D:kV}{β β':kY}{k j:Nat}{cs:List SV}(hβ:∀ i,i≠k->β' i=β i)(hj:j≠k)(hx:kZ k cs=false)(h:uA w D β j cs):uA w D β' j cs:=by
 rcases h with h | ⟨b,vs,T,h1,h2,h3,h4,h5⟩
 ·exact .inl (h.frame (hβ j hj))
 ·refine .inr ⟨b,vs,T,(hβ j hj).trans h1,h2,h3,fun i x hi=>?_,h5⟩
  obtain ⟨u,e1,e2,e3⟩:=h4 i x hi
  simp only[kZ,List.any_eq_false] at hx
  exact ⟨u,e1,e2,e3.frame hβ (by simpa using hx x (List.mem_of_getElem? hi))⟩
structure Wrote (b:Nat) (w w':World):Prop where
 os:w'.os=w.os
 tape:w'.tape=w.tape
 output:w'.output=w.output
 size:w'.heap.size=w.heap.size
 block:∀ k,k≠b->w'.heap[k]?=w.heap[k]?
 own:∀ vs T f,w.heap[b]?=some (.cells vs T f)->∃ vs',w'.heap[b]?=some (.cells vs' T f)/\vs'.size=vs.size
theorem Wrote.rep{w w':World}{D:kV}{b:Nat}(hw:Wrote b w w')(hp:∀ t o,¬ D t b o){v:Value}{d:jT}(h:uN w D v d):uN w' D v d :=
 h.mono fun t g o hd=>⟨hd,by
  have:g≠b:=fun e=>hp t o (e▸hd)
  exact World.cell?_of_block (hw.block g this)⟩
theorem Wrote.repS{w w':World}{D:kV}{β:kY}{b:Nat}(hw:Wrote b w w')(hp:∀ t o,¬ D t b o){v:Value}{x:SV}(h:qC w D β v x):qC w' D β v x:=by
 cases x with
 |d x=>exact hw.rep hp h
 |ref j o=>exact h
 |own j t s n=>
  rcases h with h | ⟨c,cap,vs,h1,h2,h3,h4,h5⟩
  ·exact .inl h
  ·by_cases hc:c=b
   ·subst hc
    obtain ⟨vs',e1,e2⟩:=hw.own _ _ _ h3
    exact .inr ⟨c,cap,vs',h1,h2,e1,e2.trans h4,h5⟩
   ·exact .inr ⟨c,cap,vs,h1,h2,(hw.block c hc).trans h3,h4,h5⟩
 |clo f ks=>exact h
 |emp=>exact h
 |view j o n=>exact h
 |mp j=>exact h
 |mo ob=>exact h
 |pr j t s n x=>
  obtain ⟨v1,v2,e,h1,h2⟩:=h
  refine ⟨v1,v2,e,?_,hw.rep hp h2⟩
  rcases h1 with h | ⟨c,cap,vs,h1,h2,h3,h4,h5⟩
  ·exact .inl h
  ·by_cases hc:c=b
   ·subst hc
    obtain ⟨vs',e1,e2⟩:=hw.own _ _ _ h3
    exact .inr ⟨c,cap,vs',h1,h2,e1,e2.trans h4,h5⟩
   ·exact .inr ⟨c,cap,vs,h1,h2,(hw.block c hc).trans h3,h4,h5⟩
 |refx j o b=>exact h
 |mpx j b=>exact h
 |bnd f j o=>exact h
 |ownx j t s n u=>
  refine ⟨h.1,?_⟩
  rcases h.2 with h | ⟨c,cap,vs,h1,h2,h3,h4,h5⟩
  ·exact .inl h
  ·by_cases hc:c=b
   ·subst hc
    obtain ⟨vs',e1,e2⟩:=hw.own _ _ _ h3
    exact .inr ⟨c,cap,vs',h1,h2,e1,e2.trans h4,h5⟩
   ·exact .inr ⟨c,cap,vs,h1,h2,(hw.block c hc).trans h3,h4,h5⟩
 |junk=>trivial
theorem Wrote.blk{w w':World}{D:kV}{β:kY}{b k:Nat}{cs:List SV}(hw:Wrote b w w')(hp:∀ t o,¬ D t b o)(hk:β k≠some b)(h:uA w D β k cs):uA w' D β k cs:=by
 rcases h with h | ⟨c,vs,T,h1,h2,h3,h4,h5⟩
 ·rcases h with h | ⟨c,ob,h1,h2,h3⟩
  ·exact .inl (.inl h)
  ·exact .inl (.inr ⟨c,ob,h1,(hw.block c (fun e=>hk (e▸h1))).trans h2,h3⟩)
 ·have hc:c≠b:=fun e=>hk (e▸h1)
  refine .inr ⟨c,vs,T,h1,(hw.block c hc).trans h2,h3,fun i x hi=>?_,h5⟩
  obtain ⟨u,e1,e2,e3⟩:=h4 i x hi
  exact ⟨u,e1,e2,hw.repS hp e3⟩
theorem xF{p:Prop}[inst:Decidable p](h:decide p=true):p:=of_decide_eq_true h
theorem xH{p:Prop}[inst:Decidable p](h:decide p=false):¬ p:=of_decide_eq_false h
def ev(S:Nat->SV):Operand->SV
 |.tmp t=>S t
 |.const v=>.d (.val v)
 |.func f=>.d (.val (.func (.func f) #[] #[]))
 |.global _=>.junk
def Opnds(w:World)(D:kV)(β:kY)(a:Act)(o:Oper)(S:Nat->SV):Prop:=∀ y∈o.op.operands,qC w D β (a.eval y) (ev S y)
def EPost(a:Act)(w:World)(D:kV)(β:kY)(dst:Option Tmp)(x:SV)(a':Act)(w':World):Prop :=
 ∃ v D',a'=a.put dst v/\Below w.heap.size w w'/\aF D D' w w'/\qC w' D' β v x
def uC(P:Program)(o:Oper)(S:Nat->SV)(rd:List (Nat × List SV))(x:SV):Prop :=
 ∀ (a:Act) (w:World) (D:kV) (β:kY) (Q:Exit->Act->World->Prop),Opnds w D β a o S->(∀ p∈rd,uA w D β p.1 p.2)->DOk D w->o.wp P a w (EPost a w D β o.dst x) Q
def NPost(a:Act)(w:World)(D:kV)(β:kY)(dst:Option Tmp)(k:Nat)(cs:List SV)(x:SV)(a':Act)(w':World):Prop :=
 ∃ v D' b,a'=a.put dst v/\Below w.heap.size w w'/\aF D D' w w'/\w.heap.size<=b/\b<w'.heap.size/\(∀ t o,¬ D' t b o)/\uA w' D' (β.set k b) k cs/\qC w' D' (β.set k b) v x
def NOk(P:Program)(o:Oper)(S:Nat->SV)(k:Nat)(cs:List SV)(x:SV):Prop :=
 ∀ (a:Act) (w:World) (D:kV) (β:kY) (Q:Exit->Act->World->Prop),Opnds w D β a o S->DOk D w->o.wp P a w (NPost a w D β o.dst k cs x) Q
def TPost(a:Act)(w:World)(D:kV)(β:kY)(dst:Option Tmp)(k:Nat)(cs:List SV)(a':Act)(w':World):Prop :=
 a'=a.put dst undef/\∃ b,β k=some b/\Wrote b w w'/\(∀ t o,¬ D t b o)/\uA w' D β k cs
def TOk(P:Program)(o:Oper)(S:Nat->SV)(k:Nat)(old cs:List SV):Prop :=
 ∀ (a:Act) (w:World) (D:kV) (β:kY) (Q:Exit->Act->World->Prop),Opnds w D β a o S->uA w D β k old->DOk D w->o.wp P a w (TPost a w D β o.dst k cs) Q
def APost(a:Act)(w:World)(D:kV)(β:kY)(dst:Option Tmp)(k k':Nat)(cs:List SV)(x:SV)(a':Act)(w':World):Prop :=
 ∃ v b,a'=a.put dst v/\uA w' D (β.set k' b) k' cs/\qC w' D (β.set k' b) v x/\((Below w.heap.size w w'/\w.heap.size<=b/\b<w'.heap.size)\/(β k=some b/\Wrote b w w'/\∀ t o,¬ D t b o))
def AOk(P:Program)(o:Oper)(S:Nat->SV)(k k':Nat)(old cs:List SV)(x:SV):Prop :=
 ∀ (a:Act) (w:World) (D:kV) (β:kY) (Q:Exit->Act->World->Prop),Opnds w D β a o S->uA w D β k old->DOk D w->o.wp P a w (APost a w D β o.dst k k' cs x) Q
section
variable {P:Program} {o:Oper} {S:Nat->SV}
theorem mF{a:Act}{w w':World}{K:Act->World->Prop}{Q:Exit->Act->World->Prop}{v:Value}(h:(execOp a.eval o).run P w=.ok (.value v) w')(hk:K (a.put o.dst v) w'):o.wp P a w K Q:=by
 unfold Oper.wp;rw[h];exact hk
theorem wp_skip_{a:Act}{w w':World}{K:Act->World->Prop}{Q:Exit->Act->World->Prop}(h:(execOp a.eval o).run P w=.ok .skip w')(hk:K (a.put o.dst undef) w'):o.wp P a w K Q:=by
 unfold Oper.wp;rw[h];exact hk
theorem cW{a:Act}{w w':World}{K:Act->World->Prop}{Q:Exit->Act->World->Prop}{f:FuncId}{args:Array Value}(h:(execOp a.eval o).run P w=.ok (.enter f args) w')
  (hk:Calls P f args w' fun e w''=>∃ v,e=.returned v/\K (a.put o.dst v) w''):o.wp P a w K Q:=by
 unfold Oper.wp;rw[h]
 exact hk.mono fun e w'' ⟨v,he,hK⟩=>by subst he;exact hK
theorem uC.same{rd:List (Nat × List SV)}{x:SV}(h:∀ (a:Act) (w:World) (D:kV) (β:kY),Opnds w D β a o S->(∀ p∈rd,uA w D β p.1 p.2)->∃ v,(execOp a.eval o).run P w=.ok (.value v) w/\qC w D β v x):uC P o S rd x :=
 fun a w D β Q hop hrd _=>by
  obtain ⟨v,h1,h2⟩:=h a w D β hop hrd
  exact mF h1 ⟨v,D,rfl,Below.refl _ _,aF.refl _ _,h2⟩
theorem uC.weaken{rd:List (Nat × List SV)}{x y:SV}(h:uC P o S rd x)(hxy:∀ w D β v,qC w D β v x->qC w D β v y):uC P o S rd y :=
 fun a w D β Q hop hrd hD=>Oper.wp_mono (fun _ _ ⟨v,D',h1,h2,h3,h4⟩=>⟨v,D',h1,h2,h3,hxy _ _ _ _ h4⟩) (h a w D β Q hop hrd hD)
theorem e_move{x:Operand}(ho:o.op=.move x\/o.op=.assign x):uC P o S [] (ev S x) :=
 uC.same fun a w D β hop _=>⟨a.eval x,by rcases ho with ho | ho<;>simp [execOp,ho],by
  rcases ho with ho | ho<;>exact hop x (by simp [ho,Op.operands])⟩
theorem eX(w:World)(D:kV)(t:TypeId)(s:Nat):uN w D (.slice none 0 0) (.sl t s []) :=
 .sl 0 0 (fun _=>undef) rfl (Nat.le_refl _) (by simp [maxLen]) (by simp) (by simp) (by simp [kR]) (by simp [kR]) (by simp [kR]) (by simp [kR])
theorem e_nil(t:TypeId)(s:Nat)(ho:o.op=.move (.const (.slice none 0 0))\/o.op=.assign (.const (.slice none 0 0))):uC P o S [] (.d (.sl t s [])) :=
 uC.same fun a w D β _ _=>⟨.slice none 0 0,by rcases ho with ho | ho<;>simp [execOp,ho,Act.eval],eX w D t s⟩
theorem rep_bool{w:World}{D:kV}{v:Value}{b:Bool}(h:uN w D v (.val (.bool b))):v=.bool b:=by cases h;rfl
theorem uO{w:World}{D:kV}{v u:Value}(h:uN w D v (.val u)):v=u:=by cases h;rfl
theorem e_pick{c x y:Operand}{b:Bool}(ho:o.op=.pick c x y)(hc:ev S c=.d (.val (.bool b))):uC P o S [] (if b then ev S x else ev S y) :=
 uC.same fun a w D β hop _=>by
  have h1:=hop c (by simp [ho,Op.operands])
  rw[hc] at h1
  have h2:a.eval c=.bool b:=rep_bool h1
  refine ⟨if b then a.eval x else a.eval y,by simp [execOp,ho,h2,asBool],?_⟩
  cases b
  ·exact hop y (by simp [ho,Op.operands])
  ·exact hop x (by simp [ho,Op.operands])
def isAggD:TypeDesc->Bool
 |.struct _ | .array _ _=>true
 |_=>false
def qD(P:Program)(T:TypeId):Option (Bool × Nat) :=
 match P.underlying T,P.info? T with
 |some d,some i=>some (isAggD d,i.size)
 |_,_=>none
theorem shape_of{T:TypeId}{agg:Bool}{sz:Nat}(h:qD P T=some (agg,sz)):∃ d i,P.underlying T=some d/\P.info? T=some i/\isAggD d=agg/\i.size=sz:=by
 unfold qD at h
 cases h1:P.underlying T with
 |none=>simp [h1] at h
 |some d=>
  cases h2:P.info? T with
  |none=>simp [h1,h2] at h
  |some i=>
   simp [h1,h2] at h
   exact ⟨d,i,rfl,rfl,h.1,h.2⟩
theorem run_isAgg{T:TypeId}{d:TypeDesc}(h:P.underlying T=some d)(w:World):(isAgg T).run P w=.ok (isAggD d) w:=by
 unfold isAgg
 simp only[Sem.run_bind,run_underlying h,Result.andThen_ok]
 cases d<;>rfl
theorem vX{T:TypeId}{i:TypeInfo}(h:P.info? T=some i)(w:World):(sizeOf T).run P w=.ok i.size w:=by
 simp [sizeOf,typeInfo,h]
theorem dA{T:TypeId}{sz:Nat}(h:qD P T=some (true,sz))(w:World)(ad:Addr)(us:List Value)(hl:us.length=sz)(hc:∀ (j:Nat) u,us[j]?=some u->w.cell? (ad.add j)=some u) :
  (loadVar T ad).run P w=.ok (.agg us.toArray) w:=by
 obtain ⟨d,i,h1,h2,h3,h4⟩:=shape_of h
 subst hl
 have hl:=run_loadCells_list (P:=P) w ad us hc
 rw[<- h4] at hl
 unfold loadVar
 simp [run_isAgg h1,h3,vX h2,hl]
theorem cZ{T:TypeId}{sz:Nat}(h:qD P T=some (false,sz))(w:World)(ad:Addr){u:Value}(hc:w.cell? ad=some u) :
  (loadVar T ad).run P w=.ok u w:=by
 obtain ⟨d,i,h1,h2,h3,h4⟩:=shape_of h
 unfold loadVar
 simp [run_isAgg h1,h3,hc]
def unD:List SV->Option (List jT)
 |[]=>some []
 |.d x::r=>match unD r with
  |some l=>some (x::l)
  |none=>none
 |_::_=>none
theorem unD_spec:∀ {l:List SV} {ds:List jT},unD l=some ds->l=ds.map .d
 |[],ds,h=>by simp [unD] at h;subst h;rfl
 |.d x::r,ds,h=>by
  simp only[unD] at h
  cases h1:unD r with
  |none=>simp [h1] at h
  |some l=>
   simp [h1] at h
   subst h
   simp [unD_spec h1]
 |.ref _ _::r,ds,h=>by simp [unD] at h
 |.own _ _ _ _::r,ds,h=>by simp [unD] at h
 |.clo _ _::r,ds,h=>by simp [unD] at h
 |.junk::r,ds,h=>by simp [unD] at h
def yD(agg:Bool)(l:List SV):SV :=
 match agg with
 |true=>match unD l with
  |some ds=>.d (.agg ds)
  |none=>.junk
 |false=>match l with
  |[x]=>x
  |_=>.junk
theorem blk_cells{w:World}{D:kV}{β:kY}{k b:Nat}{cs:List SV}(h:uA w D β k cs)(hb:β k=some b)(hm:yQ cs=false) :
  ∃ vs:List Value,vs.length=cs.length/\(∀ (j:Nat) u,vs[j]?=some u->w.cell? ⟨b,j,none⟩=some u/\u.oneCell'=true)/\∀ (j:Nat) u x,vs[j]?=some u->cs[j]?=some x->qC w D β u x:=by
 rcases h with h | ⟨b',vs,T,h1,h2,h3,h4,_⟩
 ·rw[(h.cells hm).1] at hb;cases hb
 ·obtain rfl:b'=b:=by rw[h1] at hb;injection hb
  refine ⟨vs.toList.take cs.length,by simp;omega,fun j u hu=>?_,fun j u x hu hx=>?_⟩
  ·have hj:j<cs.length:=by
    rcases Nat.lt_or_ge j cs.length with hj | hj
    ·exact hj
    ·rw[List.getElem?_eq_none (by simp;omega)] at hu;cases hu
   obtain ⟨u',e1,e2,_⟩:=h4 j _ (List.getElem?_eq_getElem hj)
   rw[List.getElem?_take_of_lt hj,Array.getElem?_toList,e1] at hu
   injection hu with hu
   subst hu
   exact ⟨by rw[cell_of_row w b' j vs T (0,0) h2];exact e1,e2⟩
  ·have hj:j<cs.length:=(List.getElem?_eq_some_iff.1 hx).1
   obtain ⟨u',e1,_,e3⟩:=h4 j _ hx
   rw[List.getElem?_take_of_lt hj,Array.getElem?_toList,e1] at hu
   injection hu with hu
   subst hu
   exact e3
theorem repS_agg{w:World}{D:kV}{β:kY}{l:List SV}{vs:List Value}(hl:vs.length=l.length)(h1:∀ v∈vs,v.oneCell'=true)(hr:∀ (i:Nat) v x,vs[i]?=some v->l[i]?=some x->qC w D β v x):qC w D β (.agg vs.toArray) (yD true l):=by
 unfold yD
 cases h:unD l with
 |none=>trivial
 |some ds=>
  have hd:=unD_spec h
  subst hd
  refine uN.agg vs (by simpa using hl) h1 fun i v d hv hd=>?_
  exact hr i v (.d d) hv (by simp [hd])
theorem e_load_ref{T:TypeId}{x:Operand}{k off sz:Nat}{agg:Bool}{cs:List SV}(ho:o.op=.load T x)(hx:ev S x=.ref k off)(hs:qD P T=some (agg,sz))(h1:agg=false->sz=1)(hl:off+sz<=cs.length)(hm:yQ cs=false) :
  uC P o S [(k,cs)] (yD agg ((cs.drop off).take sz)) :=
 uC.same fun a w D β hop hrd=>by
  have hp:=hop x (by simp [ho,Op.operands])
  rw[hx] at hp
  obtain ⟨b,hb,hv⟩:=hp
  obtain ⟨vs,e1,e2,e3⟩:=blk_cells (hrd (k,cs) (by simp)) hb hm
  dsimp only at e1 e2 e3
  have hun:(execOp a.eval o)=(do pure (.value (<- loadVar T ⟨b,off,none⟩))):=by simp [execOp,ho,hv,Instr.loadAt,Instr.sureAddr]
  rw[hun]
  cases agg with
  |true=>
   refine ⟨.agg ((vs.drop off).take sz).toArray,?_,repS_agg (by simp;omega) (fun v hv=>?_) (fun i v y hv hy=>?_)⟩
   ·rw[Sem.run_bind,dA hs w _ ((vs.drop off).take sz) (by simp;omega) (fun j u hu=>?_)]
    ·rfl
    ·have hj:j<sz:=by
      have:=(List.getElem?_eq_some_iff.1 hu).1
      simp at this;omega
     rw[List.getElem?_take_of_lt hj,List.getElem?_drop] at hu
     rw[Addr.add_lit]
     exact (e2 _ _ hu).1
   ·have hm:=List.mem_of_mem_drop (List.mem_of_mem_take hv)
    obtain ⟨j,hj⟩:=List.getElem?_of_mem hm
    exact (e2 j v hj).2
   ·have hj:i<sz:=by
     have:=(List.getElem?_eq_some_iff.1 hv).1
     simp at this;omega
    rw[List.getElem?_take_of_lt hj,List.getElem?_drop] at hv hy
    exact e3 _ _ _ hv hy
  |false=>
   obtain rfl:=h1 rfl
   have hlt:off<cs.length:=by omega
   have hlt':off<vs.length:=by omega
   have hu:vs[off]?=some vs[off]:=List.getElem?_eq_getElem hlt'
   have hy:cs[off]?=some cs[off]:=List.getElem?_eq_getElem hlt
   refine ⟨vs[off],by rw[Sem.run_bind,cZ hs w _ (e2 _ _ hu).1];rfl,?_⟩
   have:(cs.drop off).take 1=[cs[off]]:=by
    rw[List.drop_eq_getElem_cons hlt];rfl
   rw[this]
   exact e3 _ _ _ hu hy
theorem rep_cptr{w:World}{D:kV}{v:Value}{t:TypeId}{cs:List jT}{off:Nat}(h:uN w D v (.cptr t cs off)) :
  ∃ g p,v=.pointer (some ⟨g,p+off,none⟩)/\∃ vs:List Value,vs.length=cs.length/\(∀ (j:Nat) u,vs[j]?=some u->w.cell? ⟨g,p+j,none⟩=some u/\u.oneCell'=true)/\(∀ i,i<cs.length->D t g (p+i)) /\
   ∀ (j:Nat) u x,vs[j]?=some u->cs[j]?=some x->uN w D u x:=by
 cases h with
 |cptr g p u hD hu h1 hr=>
  have key:∀ (j:Nat) x,((List.range cs.length).map u)[j]?=some x->j<cs.length/\x=u j:=fun j x hx=>by
   have hj:j<cs.length:=by simpa using (List.getElem?_eq_some_iff.1 hx).1
   rw[List.getElem?_map,List.getElem?_range hj] at hx
   injection hx with hx
   exact ⟨hj,hx.symm⟩
  refine ⟨g,p,rfl,(List.range cs.length).map u,by simp,fun j x hx=>?_,hD,fun j x y hx hy=>?_⟩
  ·obtain ⟨hj,rfl⟩:=key j x hx
   exact ⟨hu j hj,h1 j hj⟩
  ·obtain ⟨hj,rfl⟩:=key j x hx
   exact hr j y hy
theorem e_load_cptr{T t:TypeId}{x:Operand}{off sz:Nat}{agg:Bool}{cs:List jT}(ho:o.op=.load T x)(hx:ev S x=.d (.cptr t cs off))(hs:qD P T=some (agg,sz))(h1:agg=false->sz=1)(hl:off+sz<=cs.length) :
  uC P o S [] (yD agg (((cs.drop off).take sz).map .d)) :=
 uC.same fun a w D β hop _=>by
  have hp:=hop x (by simp [ho,Op.operands])
  rw[hx] at hp
  obtain ⟨g,p,hv,vs,e1,e2,_,e3⟩:=rep_cptr hp
  have hun:(execOp a.eval o)=(do pure (.value (<- loadVar T ⟨g,p+off,none⟩))):=by simp [execOp,ho,hv,Instr.loadAt,Instr.sureAddr]
  rw[hun]
  cases agg with
  |true=>
   refine ⟨.agg ((vs.drop off).take sz).toArray,?_,repS_agg (by simp;omega) (fun v hv=>?_) (fun i v y hv hy=>?_)⟩
   ·rw[Sem.run_bind,dA hs w _ ((vs.drop off).take sz) (by simp;omega) (fun j u hu=>?_)]
    ·rfl
    ·have hj:j<sz:=by
      have:=(List.getElem?_eq_some_iff.1 hu).1
      simp at this;omega
     rw[List.getElem?_take_of_lt hj,List.getElem?_drop] at hu
     rw[Addr.add_lit,Nat.add_assoc]
     exact (e2 _ _ hu).1
   ·have hm:=List.mem_of_mem_drop (List.mem_of_mem_take hv)
    obtain ⟨j,hj⟩:=List.getElem?_of_mem hm
    exact (e2 j v hj).2
   ·have hj:i<sz:=by
     have:=(List.getElem?_eq_some_iff.1 hv).1
     simp at this;omega
    rw[List.getElem?_map,Option.map_eq_some_iff] at hy
    obtain ⟨z,hz,rfl⟩:=hy
    rw[List.getElem?_take_of_lt hj,List.getElem?_drop] at hv hz
    exact e3 _ _ _ hv hz
  |false=>
   obtain rfl:=h1 rfl
   have hlt:off<cs.length:=by omega
   have hlt':off<vs.length:=by omega
   have hu:vs[off]?=some vs[off]:=List.getElem?_eq_getElem hlt'
   have hy:cs[off]?=some cs[off]:=List.getElem?_eq_getElem hlt
   refine ⟨vs[off],by rw[Sem.run_bind,cZ hs w _ (e2 _ _ hu).1];rfl,?_⟩
   have:((cs.drop off).take 1).map SV.d=[.d cs[off]]:=by
    rw[List.drop_eq_getElem_cons hlt];rfl
   rw[this]
   exact e3 _ _ _ hu hy
end
end Go.Fid
