/- Part 15 of a proof: rules, plain facts, and functions walked. -/
import Derived.Test.YteimogfidbkpnaaGreatM13
import Derived.Maps.RangeRun
import Derived.Test.YteimogfidbkpnaaGreatM9
set_option linter.all false
namespace Go.Fid
open Go.RowKit (Below)
section
variable {P:Program} {n:Fr} {ops:Array Oper} {K:SL→BS→Prop} {S S0 S1:SL} {B B0 B1:BS} {l:List Oper} {o:Oper} {D:SL}
theorem zY(h1:D.map (fun p=>jW S p.1)=D.map (·.2):=by kernel_rfl)(h2:S.drop (S.length-S0.length)=S0:=by kernel_rfl)(h3:((S.take (S.length-S0.length)).all fun p=>inS D p.1||isJ (jW S0 p.1))=true:=by kernel_rfl):SK P n ops (KS S0 B D []) S B [] :=
 zZ h1 h2 h3 rfl (by rw[Nat.sub_self];rfl) (by rw[Nat.sub_self];rfl)
def KI(S1:SL)(B1:BS)(S:SL)(B:BS):Prop:=kB ⟨S,B⟩ ⟨S1,B1⟩
theorem kr{id:Nat}{Q:Exit→PS→Prop}(S1:SL)(B1:BS)(h:SK P n l.toArray (KI S1 B1) S0 B0 l)(hq:Q .normal ⟨S1,B1⟩)(hp:l.all xP=true:=by kernel_rfl):qS P n (.region id l.toArray false) Q ⟨S0,B0⟩:=fun C a w N hn hs=>by
 obtain ⟨st1,h1,h2⟩:=h
 subst hn
 exact wpIn_region_lit (dI (C:=C) h1 hp rfl (fun a' w' hs'=>⟨_,h2 C a' w' hs',hq⟩) hs)
theorem zI(h:kB ⟨S,B⟩ ⟨S1,B1⟩):SK P n ops (KI S1 B1) S B []:=⟨⟨S,B⟩,.nil,h⟩
end
def swJ(k k' J j:Nat)(c:List SV):List SV:=bif Nat.beq j J then c.map (SV.sw k k') else c
theorem sim_ren2{S S':SL}{B B':BS}(k k' J:Nat)(h1:S'.map (fun p=>jW S p.1)=S'.map (fun p=>p.2.sw k k'):=by kernel_rfl)(h2:B'.map (fun p=>kD B (swN k k' p.1))=B'.map (fun p=>p.2.map (swJ k k' J p.1)):=by kernel_rfl)(h3:(B'.all fun p=>!(Nat.beq p.1 k'))=true:=by kernel_rfl)
  (h4:Clr k ((k,none)::B):=by repeat first | exact clr_nil _ | refine clr_self ?_ | refine clr_map ?_ | refine clr_none ?_ | refine clr_bx ?_ | refine clr_d ?_ | refine clr_cons rfl ?_) (h5:kD B k=none:=by kernel_rfl):kB ⟨S,B⟩ ⟨S',B'⟩:=fun C a w ⟨D,β,hs⟩=>by
 have hget:∀ {l:BS},(l.map (fun p=>kD B (swN k k' p.1))=l.map (fun p=>p.2.map (swJ k k' J p.1)))→∀ {j c},kD l j=some c→kD B (swN k k' j)=some (swJ k k' J j c):=by
  intro l
  induction l with
  |nil=>intro _ j c h;simp [kD] at h
  |cons p l ih=>
   intro hl j c hj
   obtain ⟨q,y⟩:=p
   simp only[List.map_cons,List.cons.injEq] at hl
   rw[jK] at hj
   split at hj
   ·rename_i e;subst e;subst hj;rw[hl.1];rfl
   ·exact ih hl.2 hj
 have hkey:∀ {l:BS},((l.all fun p=>!(Nat.beq p.1 k'))=true)→∀ {j c},kD l j=some c→j≠k':=by
  intro l
  induction l with
  |nil=>intro _ j c h;simp [kD] at h
  |cons p l ih=>
   intro hl j c hj e
   obtain ⟨q,y⟩:=p
   simp only[List.all_cons,Bool.and_eq_true,Bool.not_eq_true'] at hl
   rw[jK] at hj
   split at hj
   ·rename_i e2;subst e2;subst e;simp at hl
   ·exact ih hl.2 hj e
 have hnk:∀ {j c},kD B j=some c→j≠k∧qM k c=false:=fun {j c} hj=>by
  have hne:j≠k:=fun e=>by subst e;rw[h5] at hj;cases hj
  exact ⟨hne,h4 j c hne (by rw[jK,if_neg (fun e=>hne e.symm)];exact hj)⟩
 have hsl:∀ {l:SL},(l.map (fun p=>jW S p.1)=l.map (fun p=>p.2.sw k k'))→∀ t,jW l t=.junk∨jW S t=(jW l t).sw k k':=by
  intro l
  induction l with
  |nil=>intro _ t;exact .inl rfl
  |cons p l ih=>
   intro hl t
   obtain ⟨q,y⟩:=p
   simp only[List.map_cons,List.cons.injEq] at hl
   rw[qO]
   split
   ·rename_i e;subst e;exact .inr hl.1
   ·exact ih hl.2 t
 refine ⟨D,fun j=>β (swN k k' j),hs.base,⟨fun j c hj=>?_,fun j1 j2 c1 c2 q1 q2 b e1 e2=>?_⟩,fun j c hj b hb=>hs.high _ _ (hget h2 hj) b hb,fun t=>?_⟩
 ·have hc:=hget h2 hj
  obtain ⟨_,hn⟩:=hnk hc
  rcases hs.mem.ok _ _ hc with ⟨h,h'⟩ | ⟨b,vs,T,g1,g2,g3,g4,g5⟩
  ·refine .inl ⟨h,?_⟩
   unfold swJ at h'
   cases hJ:Nat.beq j J with
   |true=>rw[hJ,cond_true,List.map_eq_nil_iff] at h';exact h'
   |false=>rw[hJ,cond_false] at h';exact h'
  ·unfold swJ at hn g3 g4
   cases hJ:Nat.beq j J with
   |true=>
    rw[hJ,cond_true] at g3 g4
    refine .inr ⟨b,vs,T,g1,g2,by simpa using g3,fun i x hi=>?_,g5⟩
    obtain ⟨u,e1,e2,e3⟩:=g4 i (x.sw k k') (by rw[List.getElem?_map,hi];rfl)
    exact ⟨u,e1,e2,qG.sw e3⟩
   |false=>
    rw[hJ,cond_false] at hn g3 g4
    refine .inr ⟨b,vs,T,g1,g2,g3,fun i x hi=>?_,g5⟩
    obtain ⟨u,e1,e2,e3⟩:=g4 i x hi
    exact ⟨u,e1,e2,qG.sw (by rw[sw_of (names_get hn hi)];exact e3)⟩
 ·have:=hs.mem.inj _ _ _ _ (hget h2 q1) (hget h2 q2) b e1 e2
  have n1:=hkey h3 q1
  have n2:=hkey h3 q2
  by_cases g1:j1=k<;>by_cases g2:j2=k
  ·omega
  ·subst g1;rw[swN_eq,swN_ne g2] at this;omega
  ·subst g2;rw[swN_eq,swN_ne g1] at this;omega
  ·rw[swN_ne g1,swN_ne g2] at this;exact this
 ·show qG w D _ _ (jW S' t)
  rcases hsl h1 t with h | h
  ·rw[h];trivial
  ·have:=hs.slots t
   dsimp only at this
   rw[h] at this
   exact this.sw
section
variable {P:Program} {S:SL} {B:BS} {o:Oper} {x y:Operand} {k:Nat} {T:TypeId}
end
section
variable {P:Program} {o:Oper}
theorem oQd{S:Nat→SV}{z:SV}(d d2:jQ)(h:qX P o S [] z)(e:d=d2)(e0:z=.d d:=by kernel_rfl):qX P o S [] (.d d2):=e▸e0▸h
theorem oQr{S:SL}{B:BS}{k:Nat}{z:SV}(d d2:jQ)(h:ROk P o S B k z)(e:d=d2)(e0:z=.d d:=by kernel_rfl):ROk P o S B k (.d d2):=e▸e0▸h
end
def SV.ren(σ:Nat→Nat):SV→SV
 |.ref k o=>.ref (σ k) o
 |.own k t s n=>.own (σ k) t s n
 |.clo f ks=>.clo f (ks.map σ)
 |.view k o n=>.view (σ k) o n
 |.d x=>.d x
 |.emp=>.emp
 |.hob v b ob=>.hob v b ob
 |.pr k t s n x=>.pr (σ k) t s n x
 |.refx k o b=>.refx (σ k) o b
 |.bnd f k o=>.bnd f (σ k) o
 |.ownx k t s n u=>.ownx (σ k) t s n u
 |.junk=>.junk
def SV.pin:SV→Bool
 |.ref _ _=>true
 |.clo _ ks=>ks.any fun j=>!Nat.beq j 9
 |_=>false
def SV.pins(k:Nat):SV→Bool
 |.ref j _=>Nat.beq j k
 |.clo _ ks=>ks.any fun j=>Nat.beq j k&&!Nat.beq j 9
 |_=>false
structure SPost (w:World) (D:qE) (β:qD) (xs:List SV) (B:BS) (r:SV) (B':BS) (v:Value) (w':World) (D':qE) (β':qD):Prop where
 below:mO (fO β B) w.heap.size w w'
 keep:∀ t g o,D t g o→w'.cell? ⟨g,o,none⟩=w.cell? ⟨g,o,none⟩
 oth:∀ (k:Nat) (o:Obj),w.heap[k]?=some o→o.isCells=false→w'.heap[k]?=some o
 up:∀ t g o,D t g o→D' t g o
 new:∀ t g o,D' t g o→D t g o∨w.heap.size≤g∨fO β B g
 dok:DOk D' w'
 mem:Mem w' D' β' B'
 high:∀ k c,kD B' k=some c→∀ b,β' k=some b→w.heap.size≤b∨fO β B b
 same:∀ (i:Nat) x,xs[i]?=some x→∀ k,x.pins k=true→β' k=β k
 res:qG w' D' β' v r
structure TakesS (P:Program) (f:FuncId) (xs:List SV) (B:BS) (r:SV) (B':BS):Prop where
 may:callB P f=true
 run:∀ (w:World) (D:qE) (β:qD) (vs:List Value),DOk D w→Mem w D β B→vs.length=xs.length→(∀ (i:Nat) v x,vs[i]?=some v→xs[i]?=some x→qG w D β v x) →
  Calls P f vs.toArray w fun e w'=>∃ v D' β',e=.returned v∧SPost w D β xs B r B' v w' D' β'
section
variable {P:Program}
end
def sg(ks:List Nat)(M:Nat)(k:Nat):Nat:=(ks[k]?).getD (k+M)
def mmB(ks:List Nat)(k:Nat):Bool:=ks.any (Nat.beq k)
theorem mmB_iff{ks:List Nat}{k:Nat}:mmB ks k=true↔k∈ks:=by
 unfold mmB
 rw[List.any_eq_true]
 constructor
 ·rintro ⟨x,hx,e⟩;rw[beq_true_eq e];exact hx
 ·intro h;exact ⟨k,h,by simp⟩
inductive RB (ks:List Nat) (M:Nat):BS→BS→Prop
 |nil:RB ks M [] []
 |cons {k j:Nat} {c c2:List SV} {B B2:BS} (hk:ks[k]?=some j) (hc:c.map (SV.ren (sg ks M))=c2) (h:RB ks M B B2):RB ks M ((k,some c)::B) ((j,some c2)::B2)
def okV(ks:List Nat)(M:Nat)(F:List Nat)(B:BS):SV→Bool
 |.ref k _=>mmB F k||(Nat.blt k M&&!(mmB ks k))
 |.view k _ _=>mmB F k||(Nat.blt k M&&!(mmB ks k))
 |.clo _ l=>l.all fun k=>mmB F k||(Nat.blt k M&&!(mmB ks k))
 |.own k _ _ _=>Nat.blt k M&&!(mmB ks k)&&(kD B k).isSome
 |.hob _ _ _=>false
 |.pr k _ _ _ _=>Nat.blt k M&&!(mmB ks k)&&(kD B k).isSome
 |.refx k _ _=>mmB F k||(Nat.blt k M&&!(mmB ks k))
 |.bnd _ k _=>mmB F k||(Nat.blt k M&&!(mmB ks k))
 |.ownx k _ _ _ _=>Nat.blt k M&&!(mmB ks k)&&(kD B k).isSome
 |_=>true
def RestOk(ks:List Nat)(M:Nat)(F:List Nat)(B0 B:BS):Prop:=∀ j c,j∉ks→kD B j=some c→j<M∧c.all (okV ks M F B0)=true
section
variable {P:Program} {C:eP} {a:Act} {w:World} {S0:SL} {B0:BS} {D:qE} {β:qD}
inductive FixG (ks:List Nat) (M:Nat) (B B':BS):List Nat→Prop
 |nil:FixG ks M B B' []
 |cons {k q o b j:Nat} {G:List Nat} (hj:sg ks M k=j) (h1:kD B q=some [.refx k o b]) (h2:kD B' q=some [.refx k o b]) (h:FixG ks M B B' G):FixG ks M B B' (j::G)
theorem FixG.at{ks:List Nat}{M:Nat}{B B':BS}{G:List Nat}(h:FixG ks M B B' G){j:Nat}(hj:j∈G):∃ k q o b,sg ks M k=j∧kD B q=some [.refx k o b]∧kD B' q=some [.refx k o b]:=by
 induction h with
 |nil=>cases hj
 |cons e h1 h2 h ih=>
  rcases List.mem_cons.1 hj with rfl | hj
  ·exact ⟨_,_,_,_,e,h1,h2⟩
  ·exact ih hj
inductive FnV (S:Nat→SV) (y:Operand):FuncId→List SV→Prop
 |fn {f:FuncId} (h:ev S y=.d (.val (.func (.func f) #[] #[]))):FnV S y f []
 |clo {f:FuncId} {kk:List Nat} {ex:List SV} (h:ev S y=.clo f kk) (he:kk.map (fun k=>SV.ref k 0)=ex):FnV S y f ex
 |dat {f:FuncId} {caps:List jQ} {ex:List SV} (h:ev S y=.d (.clo f caps)) (he:caps.map SV.d=ex):FnV S y f ex
end
section
variable {P:Program} {n:Fr} {ops:Array Oper} {K:SL→BS→Prop} {S:SL} {B:BS} {l:List Oper} {o:Oper}
theorem rest_of{ks:List Nat}{M:Nat}{F:List Nat}{B0:BS}:∀ {B:BS},(∀ p∈B,p.1∈ks∨(p.1<M∧∀ c,p.2=some c→c.all (okV ks M F B0)=true))→RestOk ks M F B0 B
 |[],_=>fun j c _ h=>by simp [kD] at h
 |(k,x)::B,h=>fun j c hj hb=>by
  rw[jK] at hb
  split at hb
  ·rename_i e;subst e
   rcases h _ (.head _) with h1 | ⟨h1,h2⟩
   ·exact absurd h1 hj
   ·exact ⟨h1,h2 c hb⟩
  ·exact rest_of (fun p hp=>h p (.tail _ hp)) j c hj hb
inductive ROk1 (ks:List Nat) (M:Nat) (F:List Nat) (B0:BS):BS→Prop
 |nil:ROk1 ks M F B0 []
 |hid {k:Nat} {x:Option (List SV)} {B:BS} (hk:mmB ks k=true) (h:ROk1 ks M F B0 B):ROk1 ks M F B0 ((k,x)::B)
 |none {k:Nat} {B:BS} (hk:Nat.blt k M=true) (h:ROk1 ks M F B0 B):ROk1 ks M F B0 ((k,.none)::B)
 |dat {k:Nat} {ds:List jQ} {B:BS} (hk:Nat.blt k M=true) (h:ROk1 ks M F B0 B):ROk1 ks M F B0 ((k,some (ds.map SV.d))::B)
 |map {α:Type} {k:Nat} {G:α→jQ} {L:List α} {B:BS} (hk:Nat.blt k M=true) (h:ROk1 ks M F B0 B):ROk1 ks M F B0 ((k,some (L.map fun g=>SV.d (G g)))::B)
 |cells {k:Nat} {c:List SV} {B:BS} (hk:Nat.blt k M=true) (hc:c.all (okV ks M F B0)=true) (h:ROk1 ks M F B0 B):ROk1 ks M F B0 ((k,some c)::B)
theorem ROk1.ok{ks:List Nat}{M:Nat}{F:List Nat}{B0 B:BS}(h:ROk1 ks M F B0 B):RestOk ks M F B0 B:=by
 refine rest_of ?_
 induction h with
 |nil=>intro p hp;simp at hp
 |hid hk h ih=>
  intro p hp;rcases List.mem_cons.1 hp with e | e
  ·subst e;exact .inl (mmB_iff.1 hk)
  ·exact ih p e
 |none hk h ih=>
  intro p hp;rcases List.mem_cons.1 hp with e | e
  ·subst e;exact .inr ⟨by simpa [Nat.blt_eq] using hk,fun c hc=>by cases hc⟩
  ·exact ih p e
 |dat hk h ih=>
  intro p hp;rcases List.mem_cons.1 hp with e | e
  ·subst e;exact .inr ⟨by simpa [Nat.blt_eq] using hk,fun c hc=>by
                                     injection hc with hc;subst hc;simp [okV]⟩
  ·exact ih p e
 |map hk h ih=>
  intro p hp;rcases List.mem_cons.1 hp with e | e
  ·subst e;exact .inr ⟨by simpa [Nat.blt_eq] using hk,fun c hc=>by
                                     injection hc with hc;subst hc;simp [okV]⟩
  ·exact ih p e
 |cells hk hc h ih=>
  intro p hp;rcases List.mem_cons.1 hp with e | e
  ·subst e;exact .inr ⟨by simpa [Nat.blt_eq] using hk,fun c hc'=>by
                                       injection hc' with hc';subst hc';exact hc⟩
  ·exact ih p e
end
variable {P:Program} {o:Oper} {S:Nat→SV} {T T':TypeId} {x y:Operand} {k k':IntKind}
end Go.Fid
namespace Go.Fid
section
variable {P:Program} {n:Fr} {ops:Array Oper} {K:SL→BS→Prop} {S:SL} {B:BS} {o:Oper} {l:List Oper} {T E t':TypeId} {x y:Operand} {k s m bytes:Nat} {zv:List Value} {α:Type}
end
open Go.RowKit (Below)
section
variable {P:Program} {n:Fr} {C:eP} {a:Act} {w:World} {st:PS}
abbrev OSt:=List (Nat × Obj)
structure ObjOk (C:eP) (w:World) (b:Nat) (o:Obj):Prop where
 at_:w.heap[b]?=some o
 nc:o.isCells=false
 nd:∀ ds,o≠.deferred ds
 h0:C.w0.heap.size≤b
 h1:∀ o',C.w1.heap[b]?=some o'→o'.isCells=true
def ObjsOk(C:eP)(w:World)(os:OSt):Prop:=∀ p∈os,ObjOk C w p.1 p.2
structure XS where
 st:PS
 os:OSt
def SimO(C:eP)(a:Act)(w:World)(x:XS):Prop:=nR C a w x.st∧ObjsOk C w x.os
def OImp(x y:XS):Prop:=∀ (C:eP) (a:Act) (w:World),SimO C a w x→SimO C a w y
variable {Q Q':Exit→XS→Prop} {x y:XS} {os:OSt}
theorem OImp.trans{z:XS}(h:OImp x y)(k:OImp y z):OImp x z:=fun C a w hs=>k C a w (h C a w hs)
theorem OImp.refl(x:XS):OImp x x:=fun _ _ _ h=>h
inductive OStep (P:Program) (n:Fr) (ops:Array Oper):XS→Oper→XS→Prop
 |old {st st':PS} {o:Oper} {os:OSt} (h:Step P n ops st o st'):OStep P n ops ⟨st,os⟩ o ⟨st',os⟩
 |sem {x:XS} {o:Oper} {x':XS} (h:∀ (C:eP) (a:Act) (w:World) (K:Act→World→Prop) (Q:Exit→Act→World→Prop),C.n=n→SimO C a w x→(∀ a' w',SimO C a' w' x'→K a' w')→o.wp P a w K Q) (hg:o.guard=none):OStep P n ops x o x'
inductive OSteps (P:Program) (n:Fr) (ops:Array Oper) (Y:XS→Prop):XS→List Oper→Prop
 |nil {x:XS} (h:Y x):OSteps P n ops Y x []
 |cons {x x':XS} {o:Oper} {l:List Oper} (h:OStep P n ops x o x') (hr:OSteps P n ops Y x' l):OSteps P n ops Y x (o::l)
 |new {x:XS} {o:Oper} {l:List Oper} (X:Nat→XS) (h:∀ (C:eP) (a:Act) (w:World) (K:Act→World→Prop) (Q:Exit→Act→World→Prop),C.n=n→SimO C a w x→(∀ a' w' b,SimO C a' w' (X b)→K a' w')→o.wp P a w K Q) (hg:o.guard=none) (hr:∀ b,OSteps P n ops Y (X b) l):OSteps P n ops Y x (o::l)
 |ex {α:Type} {x:XS} {o:Oper} {l:List Oper} (X:α→XS) (I:α→Prop) (h:∀ (C:eP) (a:Act) (w:World) (K:Act→World→Prop) (Q:Exit→Act→World→Prop),C.n=n→SimO C a w x→(∀ a' w' b,I b→SimO C a' w' (X b)→K a' w')→o.wp P a w K Q) (hg:o.guard=none) (hr:∀ b,I b→OSteps P n ops Y (X b) l):OSteps P n ops Y x (o::l)
end
section
variable {P:Program} {T K E:TypeId} {w:World} {b:Nat} {p:List Int}
end
section
variable {P:Program} {n:Fr} {ops:Array Oper} {o:Oper} {S:Nat→SV}
variable {st:PS} {os:OSt} {b:Nat}
end
section
variable {P:Program} {n:Fr} {ops:Array Oper} {o:Oper} {S:SL} {B:BS} {os:OSt} {Y:XS→Prop} {l:List Oper}
end
section
variable {F:Fence} {N:Nat} {P:Program} {Q:Exit→Act→World→Prop} {a:Act} {w:World} {b:Frame} {k:List Item} {cs:List Frame}
end
section
variable {P:Program} {n:Fr} {Q:Exit→PS→Prop} {st:PS}
end
section
variable {P:Program} {S:SL} {B:BS} {o:Oper} {x y:Operand} {k:Nat} {T:TypeId}
theorem bxs_flen{α:Type}{F:α→jQ}{s:Nat}(hF:∀ g,(F g).cells.length=s)(L:List α):(qA (L.map F)).length=L.length*s:=by
 rw[uZ (s:=s) (fun e he=>by obtain ⟨g,_,rfl⟩:=List.mem_map.1 he;exact hF g),List.length_map]
theorem bxs_cell{α:Type}{F:α→jQ}{s:Nat}(hF:∀ g,(F g).cells.length=s){L:List α}{j r:Nat}(d:α)(hj:j<L.length)(hr:r<s):(qA (L.map F))[j*s+r]?=(F (L.getD j d)).cells[r]? :=
 flat_get (s:=s) (e:=F (L.getD j d)) (fun e he=>by obtain ⟨g,_,rfl⟩:=List.mem_map.1 he;exact hF g) (by simp [List.getD_eq_getElem?_getD,List.getElem?_eq_getElem hj]) hr
theorem bxs_room{j n s:Nat}(h:j<n):j*s+s≤n*s:=by
 have:=Nat.mul_le_mul_right s (show j+1≤n from h)
 rwa [Nat.add_mul,Nat.one_mul] at this
theorem bxs_set{α:Type}{F:α→jQ}{s:Nat}(hF:∀ g,(F g).cells.length=s){L:List α}{j:Nat}(v:α)(hj:j<L.length):patch (mV F L) (j*s) ((F v).cells.map SV.d)=mV F (L.set j v):=by
 have hl:=bxs_flen hF L
 have hl2:=bxs_flen hF (L.set j v)
 rw[List.length_set] at hl2
 have hrm:=bxs_room (s:=s) hj
 apply List.ext_getElem?
 intro i
 have hb1:(mV F L).length=L.length*s:=by unfold mV;rw[List.length_map,hl]
 have hb2:(mV F (L.set j v)).length=L.length*s:=by unfold mV;rw[List.length_map,hl2]
 rw[yK (by rw[List.length_map,hF,hb1];exact hrm)]
 by_cases hi:i<L.length*s
 ·have hs0:0<s:=by
   rcases Nat.eq_zero_or_pos s with h | h
   ·subst h;simp at hi
   ·exact h
  have hq:i / s<L.length:=Nat.div_lt_of_lt_mul (by rw[Nat.mul_comm];exact hi)
  have hr:i % s<s:=Nat.mod_lt _ hs0
  have he:i=(i / s)*s+i % s:=by rw[Nat.mul_comm];exact (Nat.div_add_mod i s).symm
  have e1:(mV F (L.set j v))[i]?=((F ((L.set j v).getD (i / s) v)).cells[i % s]?).map SV.d:=by
   unfold mV;rw[List.getElem?_map];conv=>lhs;rw[he]
   rw[bxs_cell hF v (by rw[List.length_set];exact hq) hr]
  have e2:(mV F L)[i]?=((F (L.getD (i / s) v)).cells[i % s]?).map SV.d:=by
   unfold mV;rw[List.getElem?_map];conv=>lhs;rw[he]
   rw[bxs_cell hF v hq hr]
  rw[e1,e2,List.length_map,hF]
  by_cases hc:i / s=j
  ·have h3:j*s≤i∧i<j*s+s:=by subst hc;omega
   rw[if_neg (by omega),if_pos h3.2]
   have h4:(L.set j v).getD (i / s) v=v:=by rw[hc,List.getD_eq_getElem?_getD,List.getElem?_set_self hj];rfl
   rw[h4,List.getElem?_map,show i-j*s=i % s by subst hc;omega]
  ·have h3:¬ (j*s≤i∧i<j*s+s):=fun h=>hc (by
    have a1:j≤i / s:=(Nat.le_div_iff_mul_le hs0).2 h.1
    have a2:i / s<j+1:=Nat.div_lt_of_lt_mul (by rw[Nat.mul_comm,Nat.add_mul,Nat.one_mul];exact h.2)
    omega)
   have h4:(L.set j v).getD (i / s) v=L.getD (i / s) v:=by rw[List.getD_eq_getElem?_getD,List.getElem?_set_ne (fun e=>hc e.symm),← List.getD_eq_getElem?_getD]
   rw[h4]
   split
   ·rfl
   ·rw[if_neg (fun h=>h3 ⟨by omega,h⟩)]
 ·have n1:(mV F (L.set j v))[i]?=none:=List.getElem?_eq_none (by rw[hb2];omega)
  have n2:(mV F L)[i]?=none:=List.getElem?_eq_none (by rw[hb1];omega)
  rw[n1,n2,List.length_map,hF,if_neg (by omega),if_neg (by omega)]
theorem oSA{α:Type}{F:α→jQ}{L:List α}{s:Nat}(hs:kZ P T=some (true,s))(j:Nat)(v:α)(ho:o.op=.store T x y:=by exact rfl)(hx:ev (jW S) x=.ref k (j*s):=by exact rfl)(hb:kD B k=some (mV F L):=by exact rfl)(hy:ev (jW S) y=.d (F v):=by kernel_rfl)(h2:(F v).ok1=true:=by kernel_rfl)(hF:∀ g,(F g).cells.length=s:=by intro g;kernel_rfl)(h1:j<L.length:=by omega):TK P o S B k (mV F (L.set j v)):=by
 have h:=t_store (P:=P) (old:=mV F L) ho hx hy hs (.inl ⟨F v,rfl,h2,rfl⟩) (by rw[List.length_map,hF]) (by unfold mV;rw[List.length_map,bxs_flen hF];exact bxs_room h1)
 rw[bxs_set hF v h1] at h
 exact ⟨_,h,hb⟩
theorem flat_repl{α:Type}(F:α→jQ)(z:α){zd:List jQ}(h:zd=(F z).cells):∀ M,(List.replicate M zd).flatten.map SV.d=mV F (List.replicate M z)
 |0=>rfl
 |M+1=>by
  have ih:=flat_repl F z h M
  unfold mV at ih ⊢
  rw[List.replicate_succ,List.flatten_cons,List.map_append,ih,List.replicate_succ,List.map_cons,gN,List.map_append,h]
theorem oMkS{S:Nat→SV}{α:Type}{E:TypeId}{s bytes:Nat}{kl kc:IntKind}{m n:Int}{zv:List Value}{zd:List jQ}(b:Nat)(F:α→jQ)(z:α)(N M:Nat)(hT:uW P T=some (E,s))(hz:uL P E=some zv)(hzd:gD zv zd)(hby:xK P E=some bytes)(ho:o.op=.makeSlice T x y:=by exact rfl)
  (hl:ev S x=.d (.val (.int kl m)):=by exact rfl) (hc:ev S y=.d (.val (.int kc n)):=by exact rfl) (hlN:m=((N:Nat):Int):=by omega) (hcM:n=((M:Nat):Int):=by omega) (hzl:Nat.beq zd.length s=true:=by kernel_rfl) (hnm:N≤M:=by omega) (hb:bytes*M≤281474976710656:=by omega) (hm:M≤maxLen:=by unfold maxLen;omega) (hzF:zd=(F z).cells:=by kernel_rfl) :
  NOk P o S b (mV F (List.replicate M z)) (.own b E s N):=by
 subst hlN;subst hcM
 exact n_mks b ho hT hz hzd (Nat.eq_of_beq_eq_true hzl) hby hl hc hnm hb hm (flat_repl F z hzF M)
end
section
variable {P:Program} {o:Oper}
end
section
variable {P:Program}
section
variable {o:Oper} {S:Nat→SV} {T T':TypeId} {x y:Operand} {c:Nat}
end
end
def aggOf(s:Nat)(u:Nat→Value):Value:=.agg ((List.range s).map u).toArray
structure BacksS (P:Program) (fB fI:FuncId) (T:TypeId) (s:Nat):Prop where
 call:∀ (a:Option Addr) (len cap:Nat) (w:World),Calls P fB #[.slice a len cap] w fun e w'=>e=.returned (.func (.func fI) #[] #[.pointer (some ⟨w.heap.size,0,none⟩)])∧w'=w.alloc (.cells #[.slice a len cap] T)
 empty:∀ (N l b cap:Nat) (ao:Option Addr) (J:World→Prop) (W:World),W.cell? ⟨b,0,none⟩=some (.slice ao 0 cap)→J W →
  CallsIn Fence.wide (N+1) P fI #[.func (.yield l) #[] #[],.pointer (some ⟨b,0,none⟩)] W fun e W'=>(∃ v,e=.returned v)∧J W'
 rounds:∀ (N l c b off len cap:Nat) (u:Nat→Nat→Value),(len:Int)≤9223372036854775807→∀ (J:Nat→World→Prop) (Jx:World→Prop),
  (∀ j W,J j W→W.cell? ⟨c,0,none⟩=some (.slice (some ⟨b,off,none⟩) len cap)∧∀ i,i<len→∀ r,r<s→W.cell? ⟨b,off+(i*s+r),none⟩=some (u i r)) →
  (∀ j W,J j W→j<len→YieldAt Fence.wide N P l #[.int .i64 ((len:Int)-1-(j:Int)),aggOf s (u (len-1-j))] W fun e W'=>(e=.returned (.bool true)∧J (j+1) W')∨(e=.returned (.bool false)∧Jx W')) →
  ∀ W,J 0 W→CallsIn Fence.wide (N+1) P fI #[.func (.yield l) #[] #[],.pointer (some ⟨c,0,none⟩)] W fun e W'=>(∃ v,e=.returned v)∧(J len W'∨Jx W')
 enters:∀ args w,(callFunc fI args).run P w=.ok (.enter fI args) w
section
variable {C:eP} {a a':Act} {w w':World} {st:PS} {D:qE} {β:qD}
variable {P:Program} {n:Fr} {fB fI:FuncId} {T:TypeId} {S:SL} {B:BS} {Q:Exit→PS→Prop} {α:Type}
end
section
variable {P:Program} {o:Oper} {S:Nat→SV} {x:Operand} {k T s n:Nat} {d:jQ}
end
section
variable {P:Program} {o:Oper} {S:Nat→SV}
end
abbrev VBlk:=Nat × List SV × List jQ
inductive VArgs (bl:List VBlk):List Nat→List (List jQ)→Prop
 |nil:VArgs bl [] []
 |cons {k:Nat} {c:List SV} {cs:List jQ} {ks:List Nat} {css:List (List jQ)} (hk:(k,c,cs)∈bl) (h:VArgs bl ks css):VArgs bl (k::ks) (cs::css)
theorem VArgs.len{bl:List VBlk}{ks:List Nat}{css:List (List jQ)}(h:VArgs bl ks css):ks.length=css.length:=by
 induction h with
 |nil=>rfl
 |cons hk h ih=>simp [ih]
theorem VArgs.get{bl:List VBlk}{ks:List Nat}{css:List (List jQ)}(h:VArgs bl ks css):∀ (i:Nat) k cs,ks[i]?=some k→css[i]?=some cs→∃ c,(k,c,cs)∈bl:=by
 induction h with
 |nil=>intro i k cs h;simp at h
 |cons hk h ih=>
  intro i k cs h1 h2
  rcases i with _ | i
  ·simp at h1 h2;subst h1;subst h2;exact ⟨_,hk⟩
  ·exact ih i k cs (by simpa using h1) (by simpa using h2)
inductive See (bl:List VBlk) (E:TypeId):SV→jQ→Prop
 |d {x:jQ}:See bl E (.d x) x
 |r {k o:Nat} {c:List SV} {cs:List jQ} (hk:(k,c,cs)∈bl):See bl E (.ref k o) (.cptr E cs o)
 |s {k n s:Nat} {t:TypeId} {c:List SV} {cs es:List jQ} (hk:(k,c,cs)∈bl) (hes:∀ e∈es,e.cells.length=s) (hl:es.length=n) (hc:cs.take (n*s)=qA es):See bl E (.own k t s n) (.sl E s es)
 |x {k o b:Nat} {c:List SV} {cs:List jQ} (hk:(k,c,cs)∈bl):See bl E (.refx k o b) (.cptr E cs o)
 |f {g:FuncId} {ks:List Nat} {css:List (List jQ)} (hk:VArgs bl ks css):See bl E (.clo g ks) (.clo g (css.map fun cs=>.cptr E cs 0))
inductive Sees (bl:List VBlk) (E:TypeId):List SV→List jQ→Prop
 |nil:Sees bl E [] []
 |cons {x:SV} {d:jQ} {c:List SV} {cs:List jQ} (h:See bl E x d) (hr:Sees bl E c cs):Sees bl E (x::c) (d::cs)
 |all {c:List SV} {cs:List jQ} (h:c=cs.map SV.d):Sees bl E c cs
theorem Sees.len{bl:List VBlk}{E:TypeId}{c:List SV}{cs:List jQ}(h:Sees bl E c cs):c.length=cs.length:=by
 induction h with
 |nil=>rfl
 |cons h hr ih=>simp [ih]
 |all h=>subst h;simp
theorem Sees.get{bl:List VBlk}{E:TypeId}{c:List SV}{cs:List jQ}(h:Sees bl E c cs):∀ (i:Nat) x d,c[i]?=some x→cs[i]?=some d→See bl E x d:=by
 induction h with
 |nil=>intro i x d h;simp at h
 |cons h hr ih=>
  intro i x d h1 h2
  rcases i with _ | i
  ·simp at h1 h2;subst h1;subst h2;exact h
  ·exact ih i x d (by simpa using h1) (by simpa using h2)
 |all h=>
  intro i x d h1 h2
  subst h
  rw[List.getElem?_map,h2] at h1
  simp at h1;subst h1;exact .d
inductive VBlks (E:TypeId):List VBlk→Prop
 |nil:VBlks E []
 |cons {k:Nat} {c:List SV} {cs:List jQ} {bl:List VBlk} (h:Sees bl E c cs) (hr:VBlks E bl):VBlks E ((k,c,cs)::bl)
section
variable {w:World} {D D':qE} {β:qD} {bl:List VBlk} {E:TypeId}
end
section
variable {P:Program} {o:Oper} {S:Nat→SV}
end
section
variable {P:Program} {n:Fr} {ops:Array Oper} {K:SL→BS→Prop} {S:SL} {B:BS} {l:List Oper} {o:Oper} {news:List Nat} {acc0:List (List Nat × List Nat)}
end
section
variable {P:Program} {n:Fr} {ops:Array Oper} {K:SL→BS→Prop} {S:SL} {B:BS} {l:List Oper} {o:Oper} {α:Type} {T E t':TypeId} {x y:Operand} {k s m bytes:Nat} {zv:List Value}
variable {news:List Nat} {acc0:List (List Nat × List Nat)}
end
def tabB:Nat→List (List jQ)→BS
 |_,[]=>[]
 |k,r::rs=>(k,some ((qA r).map .d))::tabB (k+1) rs
theorem tabB_get:∀ (k:Nat) (rows:List (List jQ)) (i:Nat),kD (tabB k rows) i=if k≤i then (rows[i-k]?).map (fun r=>(qA r).map SV.d) else none
 |k,[],i=>by simp [tabB,kD]
 |k,r::rs,i=>by
  simp only[tabB]
  rw[jK,tabB_get (k+1) rs i]
  by_cases h:k=i
  ·subst h;simp
  ·rw[if_neg h]
   by_cases h2:k+1≤i
   ·rw[if_pos h2,if_pos (by omega),show i-k=(i-(k+1))+1 by omega,List.getElem?_cons_succ]
   ·rw[if_neg h2,if_neg (by omega)]
abbrev gX (E s:Nat) (rows:List (List jQ)):BS:=(0,some (nA E s 2 rows))::tabB 2 rows
theorem tabA_row{E s:Nat}{rows:List (List jQ)}{j:Nat}{r:List jQ}(h:rows[j]?=some r):kD (gX E s rows) (j+2)=some ((qA r).map .d):=by
 show kD ((0,_)::tabB 2 rows) (j+2)=_
 rw[jK,if_neg (by omega),tabB_get,if_pos (by omega),show j+2-2=j by omega,h];rfl
theorem tab_frb{k:Nat}:∀ (rows:List (List jQ)) (j:Nat),k<j→FrB k (tabB j rows)
 |[],j,h=>frb_nil k
 |r::rs,j,h=>frb_d (by rw[← Bool.not_eq_true];exact fun e=>by have:=Nat.eq_of_beq_eq_true e;omega) (tab_frb rs (j+1) (by omega))
theorem tabA_frb{E s:Nat}{rows:List (List jQ)}:FrB 1 (gX E s rows):=frb_cs rfl (rowC_names (.inl (by decide))) (tab_frb rows 2 (by decide))
theorem tabA_rows{E s:Nat}{rows:List (List jQ)}{x y:Option (List SV)}:∀ (j:Nat) r,rows[j]?=some r→kD ((0,x)::(1,y)::gX E s rows) (j+2)=some ((qA r).map .d):=fun j r h=>by
 rw[jK,if_neg (by omega),jK,if_neg (by omega)];exact tabA_row h
section
variable {P:Program} {N:Fr} {c:Code} {Q:Exit→PS→Prop} {S:SL} {B:BS}
end
section
variable {P:Program} {n:Fr} {ops:Array Oper} {K:SL→BS→Prop} {S:SL} {l:List Oper} {o:Oper}
def SV.isD:SV→Bool
 |.d _=>true
 |_=>false
end
theorem rowC_set{E s:Nat}:∀ (rows:List (List jQ)) (k j:Nat) (r:List jQ),r.length=(rows.getD j []).length→nA E s k (rows.set j r)=nA E s k rows
 |[],k,j,r,h=>rfl
 |x::rs,k,0,r,h=>by
  have h:r.length=x.length:=h
  simp only[List.set_cons_zero,nA,h]
 |x::rs,k,j+1,r,h=>by
  simp only[List.set_cons_succ,nA]
  rw[rowC_set rs (k+1) j r h]
theorem tab_set{S S':SL}{E s:Nat}{rows:List (List jQ)}{j:Nat}{r:List jQ}(hr:r.length=(rows.getD j []).length)(hj:j<rows.length)(hs:S'.map (fun p=>jW S p.1)=S'.map (·.2)) :
  kB ⟨S,(j+2,some ((qA r).map .d))::gX E s rows⟩ ⟨S',gX E s (rows.set j r)⟩:=by
 refine zU (uK hs) fun i c hi=>?_
 have hi:kD ((0,some (nA E s 2 (rows.set j r)))::tabB 2 (rows.set j r)) i=some c:=hi
 rw[jK] at hi ⊢
 by_cases h0:0=i
 ·rw[if_pos h0,rowC_set rows 2 j r hr] at hi
  rw[if_neg (by omega)]
  show kD ((0,some (nA E s 2 rows))::tabB 2 rows) i=some c
  rw[jK,if_pos h0];exact hi
 ·rw[if_neg h0,tabB_get] at hi
  split at hi
  ·rename_i h2
   rw[List.getElem?_set] at hi
   by_cases h3:j+2=i
   ·rw[if_pos h3]
    rw[if_pos (by omega),if_pos (by omega)] at hi
    exact hi
   ·rw[if_neg h3]
    rw[if_neg (by omega)] at hi
    show kD ((0,some (nA E s 2 rows))::tabB 2 rows) i=some c
    rw[jK,if_neg h0,tabB_get,if_pos h2];exact hi
  ·cases hi
section
variable {P:Program} {n:Fr} {ops:Array Oper} {K:SL→BS→Prop} {S S0 S1:SL} {B B0 B1:BS} {l:List Oper} {o:Oper} {news:List Nat} {acc0:List (List Nat × List Nat)}
theorem kdr{id:Nat}{Q:Exit→PS→Prop}(S1:SL)(B1:BS)(hm:P.follows .mixedOrders=true)(h:DK P n l.toArray (KI S1 B1) [] [] S0 B0 l)(hq:Q .normal ⟨S1,B1⟩)(hb:backB l.toArray=true:=by kernel_rfl)(hp:l.all xP=true:=by kernel_rfl):qS P n (.region id l.toArray true) Q ⟨S0,B0⟩:=fun C a w N hn hs=>by
 obtain ⟨st1,acc,h1,h0,h2⟩:=h
 subst hn
 exact wpIn_region_any hm (draw_sound (C:=C) rfl (by simpa using h1) (by simpa using h0) hb (by simpa using hp) (fun a' w' hs'=>⟨_,h2 C a' w' hs',hq⟩) hs)
theorem wI(h:kB ⟨S,B⟩ ⟨S1,B1⟩)(h7:orderB ops acc0=true:=by kernel_rfl):DK P n ops (KI S1 B1) news acc0 S B []:=⟨⟨S,B⟩,[],.nil,by simpa using h7,h⟩
theorem tab_ld{T E s:TypeId}{x:Operand}{rows:List (List jQ)}{j:Nat}{m:Nat}(hs:kZ P T=some (false,1))(hj:j<rows.length)(hm:(rows.getD j []).length=m)(ho:o.op=.load T x:=by exact rfl)(hx:ev (jW S) x=.ref 0 j:=by exact rfl):ROk P o S (gX E s rows) 0 (.own (j+2) E s m) :=
 ⟨nA E s 2 rows,e_ld1 ho hx hs (by
  subst hm
  rw[eD,List.getElem?_eq_getElem hj]
  simp only[Option.map_some,List.getD_eq_getElem?_getD,List.getElem?_eq_getElem hj,Option.getD_some]
  rw[Nat.add_comm]),by show kD ((0,_)::tabB 2 rows) 0=_;rw[jK,if_pos rfl]⟩
end
theorem flat_lenS{s:Nat}:∀ (r:List jQ),(∀ e∈r,e.cells.length=s)→(qA r).length=r.length*s
 |[],_=>by simp [flat_nil]
 |e::r,h=>by
  rw[gN,List.length_append,h e (by simp),List.length_cons,Nat.add_mul,flat_lenS r (fun x hx=>h x (by simp [hx]))]
  omega
theorem tab_pubs{S:SL}{E s:Nat}:∀ (rows:List (List jQ)) (k:Nat) (done:List SV) (B:BS),0<k→(∀ r∈rows,∀ e∈r,e.cells.length=s)→kD B 0=some (done++nA E s k rows)→(∀ (j:Nat) (r:List jQ),rows[j]?=some r→kD B (k+j)=some ((qA r).map .d)) →
  kB ⟨S,B⟩ ⟨S,[(0,some (done++rows.map fun r=>.d (.sl E s r)))]⟩
 |[],k,done,B,hk,hc,h0,hb=>by
  simp only[nA,List.append_nil] at h0
  simp only[List.map_nil,List.append_nil]
  refine zU (fun t=>.inr rfl) fun i c hi=>?_
  rw[jK] at hi
  split at hi
  ·rename_i e;subst e;rw[h0];exact hi
  ·cases hi
 |r::rs,k,done,B,hk,hc,h0,hb=>by
  have hr:=hc r (by simp)
  have hl:((qA r).map SV.d).length=r.length*s:=by rw[List.length_map,flat_lenS r hr]
  have h1:=dY (st:=⟨S,B⟩) (j:=0) (k:=k) (s:=s) (m:=r.length) (T:=E) (pre:=done) (post:=nA E s (k+1) rs) (cs:=(qA r).map .d) (es:=r) h0 (by omega) (by have:=hb 0 r rfl;simpa using this) hr rfl (by rw[← hl,List.take_length])
  have h2:=tab_pubs (S:=S) rs (k+1) (done++[.d (.sl E s r)]) ((0,some (done++.d (.sl E s r)::nA E s (k+1) rs))::(k,none)::B) (by omega) (fun x hx=>hc x (by simp [hx])) (by rw[jK,if_pos rfl,List.append_assoc];rfl) (fun j x hx=>by
   rw[jK,if_neg (by omega),jK,if_neg (by omega),show k+1+j=k+(j+1) by omega]
   exact hb (j+1) x (by simpa using hx))
  rw[List.append_assoc] at h2
  exact h1.trans h2
theorem tab_pub{S:SL}{E s:Nat}(rows:List (List jQ))(hc:∀ r∈rows,∀ e∈r,e.cells.length=s):kB ⟨S,gX E s rows⟩ ⟨S,[(0,some (rows.map fun r=>.d (.sl E s r)))]⟩ :=
 tab_pubs rows 2 [] (gX E s rows) (by decide) hc (by show kD ((0,_)::tabB 2 rows) 0=_;rw[jK,if_pos rfl];rfl) fun j r h=>by
  rw[Nat.add_comm];exact tabA_row h
end Go.Fid
