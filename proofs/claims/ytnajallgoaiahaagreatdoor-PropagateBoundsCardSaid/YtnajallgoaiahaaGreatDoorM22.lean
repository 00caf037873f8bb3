/- Part 22 of a proof: rules, plain facts, and functions walked. -/
import Derived.Test.YtnajallgoaiahaaGreatDoorM21
set_option linter.all false
namespace Go.Fid
open Go.RowKit (Below)
def cN(E:TypeId)(s:Nat):Nat->List (List jZ)->List SV
 |_,[]=>[]
 |k,r::rs=>.own k E s r.length::cN E s (k+1) rs
theorem rowC_get{E:TypeId}{s:Nat}:∀ (k:Nat) (rows:List (List jZ)) (j:Nat),(cN E s k rows)[j]?=(rows[j]?).map fun r=>.own (k+j) E s r.length
 |_,[],j=>by simp [cN]
 |k,r::rs,0=>by simp [cN]
 |k,r::rs,j+1=>by
  simp only[cN,List.getElem?_cons_succ]
  rw[rowC_get (k+1) rs j,show k+1+j=k+(j+1) by omega]
theorem aJ{E:TypeId}{s:Nat}:∀ (k:Nat) (rows:List (List jZ)),(cN E s k rows).length=rows.length
 |_,[]=>rfl
 |k,r::rs=>by simp [cN,aJ (k+1) rs]
theorem rowC_names{E:TypeId}{s k q:Nat}{rows:List (List jZ)}(h:q<k\/k+rows.length<=q):qN q (cN E s k rows)=false:=by
 simp only[qN,List.any_eq_false]
 intro x hx
 obtain ⟨j,hj⟩:=List.getElem?_of_mem hx
 rw[rowC_get,Option.map_eq_some_iff] at hj
 obtain ⟨r,hr,rfl⟩:=hj
 have:=(List.getElem?_eq_some_iff.1 hr).1
 simp only[SV.names,Bool.not_eq_true]
 rw[<- Bool.not_eq_true]
 exact fun e=>by have:=Nat.eq_of_beq_eq_true e;omega
section
variable {P:Program} {o:Oper} {S:SL}
theorem eJ{st:PS}{j k s m:Nat}{T:TypeId}{pre post cs:List SV}{es:List jZ}(hj:kB st.bs j=some (pre++.own k T s m::post))(hjk:k≠j)(hb:kB st.bs k=some cs)(hes:∀ e∈es,e.cells.length=s)(hl:es.length=m)(hc:cs.take (m*s)=(qI es).map .d) :
  vG st ⟨st.sl,(j,some (pre++.d (.sl T s es)::post))::(k,none)::st.bs⟩:=fun C a w ⟨D,β,h⟩=>by
 obtain ⟨D',h',hown⟩:=publish_core (T:=T) h hb hes hl hc
 have hj2:kB ((k,none)::st.bs) j=some (pre++.own k T s m::post):=by rw[jK,if_neg hjk];exact hj
 have conv:∀ {i c},kB ((j,some (pre++SV.d (.sl T s es)::post))::(k,none)::st.bs) i=some c->∃ c',kB ((k,none)::st.bs) i=some c':=fun {i c} hi=>by
  rw[jK] at hi
  split at hi
  ·rename_i e;subst e;exact ⟨_,hj2⟩
  ·exact ⟨c,hi⟩
 refine ⟨D',β,h'.base,⟨fun i c hi=>?_,fun i1 i2 c1 c2 q1 q2=>?_⟩,fun i c hi=>?_,h'.slots⟩
 ·rw[jK] at hi
  split at hi
  ·rename_i e;subst e
   injection hi with hi;subst hi
   rcases h'.mem.ok j _ hj2 with ⟨_,q⟩ | ⟨b,vs,T2,q1,q2,q3,q4,q5⟩
   ·simp at q
   ·refine .inr ⟨b,vs,T2,q1,q2,by simpa using q3,fun i x hx=>?_,q5⟩
    by_cases h1:i<pre.length
    ·rw[List.getElem?_append_left h1] at hx
     exact q4 i x (by rw[List.getElem?_append_left h1];exact hx)
    ·rw[List.getElem?_append_right (by omega)] at hx
     cases hq:i-pre.length with
     |zero=>
      rw[hq] at hx
      simp at hx
      subst hx
      obtain ⟨u,e1,e2,e3⟩:=q4 i (.own k T s m) (by rw[List.getElem?_append_right (by omega),hq];rfl)
      exact ⟨u,e1,e2,hown u D' e3⟩
     |succ q=>
      rw[hq] at hx
      exact q4 i x (by rw[List.getElem?_append_right (by omega),hq];simpa using hx)
  ·exact h'.mem.ok i c hi
 ·obtain ⟨d1,g1⟩:=conv q1
  obtain ⟨d2,g2⟩:=conv q2
  exact h'.mem.inj i1 i2 d1 d2 g1 g2
 ·obtain ⟨d,g⟩:=conv hi
  exact h'.high i d g
end
theorem ownCell{S:SL}{B:BS}{j:Nat}{cs:List SV}(i k E s:Nat)(hj:kB B j=some cs)(hi:cs[i]?=some (.d (.val (.slice none 0 0))))(hf:nL k ⟨S,B⟩=true) :
  vG ⟨S,B⟩ ⟨S,(j,some (cs.set i (.own k E s 0)))::(k,some [])::B⟩:=fun C a w ⟨D,β,hs⟩=>by
 have hβ:∀ q,q≠k->(fun q=>if q=k then none else β q:qM) q=β q:=fun q hq=>by simp [hq]
 have hβ0:(fun q=>if q=k then none else β q:qM) k=none:=by simp
 generalize (fun q=>if q=k then none else β q:qM)=β' at hβ hβ0
 obtain ⟨hjk,hnm⟩:=iK hf hj
 have conv:∀ {q c},q≠k->kB ((j,some (cs.set i (SV.own k E s 0)))::(k,some [])::B) q=some c->∃ c',kB B q=some c':=fun {q c} hne hq=>by
  rw[jK] at hq
  split at hq
  ·rename_i e;subst e;exact ⟨_,hj⟩
  ·rw[jK,if_neg (fun e=>hne e.symm)] at hq;exact ⟨_,hq⟩
 refine ⟨D,β',hs.base,⟨fun q c hq=>?_,fun i1 i2 c1 c2 q1 q2 b e1 e2=>?_⟩,fun q c hq b e=>?_,fun t=>(hs.slots t).frame hβ (lZ hf t)⟩
 ·rw[jK] at hq
  split at hq
  ·rename_i e;subst e
   injection hq with hq;subst hq
   rcases hs.mem.ok _ cs hj with ⟨h1,h2⟩ | ⟨b,vs,T,h1,h2,h3,h4,h5⟩
   ·rw[h2] at hi;simp at hi
   ·refine .inr ⟨b,vs,T,(hβ _ hjk).trans h1,h2,by simpa using h3,fun q x hx=>?_,h5⟩
    rw[List.getElem?_set] at hx
    split at hx
    ·rename_i e;subst e
     split at hx
     ·injection hx with hx;subst hx
      obtain ⟨u,e1,e2,e3⟩:=h4 i _ hi
      exact ⟨u,e1,e2,.inl ⟨hβ0,rfl,vW e3⟩⟩
     ·cases hx
    ·obtain ⟨u,e1,e2,e3⟩:=h4 q x hx
     exact ⟨u,e1,e2,e3.frame hβ (aH hnm hx)⟩
  ·rw[jK] at hq
   split at hq
   ·rename_i e;subst e
    injection hq with hq;subst hq
    exact .inl ⟨hβ0,rfl⟩
   ·obtain ⟨g1,g2⟩:=iK hf hq
    exact (hs.mem.ok q c hq).frame hβ g1 g2
 ·have n1:i1≠k:=fun e=>by rw[e,hβ0] at e1;cases e1
  have n2:i2≠k:=fun e=>by rw[e,hβ0] at e2;cases e2
  obtain ⟨d1,g1⟩:=conv n1 q1
  obtain ⟨d2,g2⟩:=conv n2 q2
  exact hs.mem.inj i1 i2 d1 d2 g1 g2 b ((hβ _ n1).symm.trans e1) ((hβ _ n2).symm.trans e2)
 ·have n1:q≠k:=fun e'=>by rw[e',hβ0] at e;cases e
  obtain ⟨d,g⟩:=conv n1 hq
  exact hs.high q d g b ((hβ _ n1).symm.trans e)
theorem bN{P:Program}{n:Fr}{c:Code}{Q:Exit->PS->Prop}{S:SL}{B:BS}(j i k E s:Nat){cs:List SV}(hj:kB B j=some cs:=by kernel_rfl)(hi:cs[i]?=some (.d (.val (.slice none 0 0))):=by kernel_rfl)(h1:(S.all fun p=>!p.2.names k)=true:=by kernel_rfl)
  (h2:FrB k B:=by repeat first | exact frb_nil _ | refine frb_map rfl ?_ | refine frb_d rfl ?_ | refine frb_cs rfl rfl ?_ | refine frb_none rfl ?_) (h:eI P n c Q ⟨S,(j,some (cs.set i (.own k E s 0)))::(k,some [])::B⟩):eI P n c Q ⟨S,B⟩ :=
 kU (ownCell i k E s hj hi (freshB_of h1 h2)) h
section
variable {P:Program} {n:Fr} {ops:Array Oper} {K:SL->BS->Prop} {S:SL} {B:BS} {l:List Oper} {o:Oper} {α:Type} {T E t':TypeId} {x y:Operand} {k s m bytes:Nat} {zv:List Value}
theorem oSx{k j E s N off:Nat}{old:List SV}(hs:qX P T=some (false,1))(ho:o.op=.store T x y:=by exact rfl)(hx:ev (kK S) x=.ref k off:=by exact rfl)(hy:ev (kK S) y=.own j E s N:=by exact rfl)(hb:kB B k=some old:=by exact rfl)(hle:Nat.ble (off+1) old.length=true:=by kernel_rfl):TK P o S B k (patch old off [.own j E s N]) :=
 ⟨_,t_store ho hx hy hs (.inr ⟨⟨j,E,s,N,rfl⟩,rfl⟩) rfl (Nat.le_of_ble_eq_true hle),hb⟩
variable {news:List Nat} {acc0:List (List Nat × List Nat)}
end
def swN(k k' j:Nat):Nat:=bif Nat.beq j k then k' else j
def SV.sw(k k':Nat):SV->SV
 |.ref j o=>.ref (swN k k' j) o
 |.own j t s n=>.own (swN k k' j) t s n
 |.view j o n=>.view (swN k k' j) o n
 |.clo f ks=>.clo f (ks.map (swN k k'))
 |.pr j t s n x=>.pr (swN k k' j) t s n x
 |.refx j o b=>.refx (swN k k' j) o b
 |.bnd f j o=>.bnd f (swN k k' j) o
 |.ownx j t s n u=>.ownx (swN k k' j) t s n u
 |x=>x
theorem swN_eq(k k':Nat):swN k k' k=k':=by simp [swN]
theorem lL{k k' j:Nat}(h:j≠k):swN k k' j=j:=by
 have:Nat.beq j k=false:=by rw[<- Bool.not_eq_true];exact fun e=>h (Nat.eq_of_beq_eq_true e)
 simp [swN,this]
theorem qH.sw{w:World}{D:qU}{β:qM}{k k':Nat}{v:Value}{x:SV}(h:qH w D β v (x.sw k k')):qH w D (fun j=>β (swN k k' j)) v x:=by
 cases x with
 |d x=>exact h
 |ref j o=>exact h
 |own j t s n=>exact h
 |clo f ks=>
  obtain ⟨vs,h1,h2,h3⟩:=h
  exact ⟨vs,h1,by simpa using h2,fun i j hj=>h3 i (swN k k' j) (by rw[List.getElem?_map,hj];rfl)⟩
 |emp=>exact h
 |view j o n=>exact h
 |hob u b ob=>exact h
 |pr j t s n x=>exact h
 |refx j o b=>exact h
 |bnd f j o=>exact h
 |ownx j t s n u=>exact h
 |junk=>trivial
theorem sw_of{k k':Nat}{x:SV}(h:x.names k=false):x.sw k k'=x:=by
 have key:∀ j,Nat.beq k j=false->swN k k' j=j:=fun j hj=>lL (fun e=>by subst e;simp at hj)
 cases x with
 |ref j o=>simp only[SV.sw];rw[key j h]
 |own j t s n=>simp only[SV.sw];rw[key j h]
 |view j o n=>simp only[SV.sw];rw[key j h]
 |clo f ks=>
  simp only[SV.sw]
  simp only[SV.names,List.any_eq_false] at h
  have:ks.map (swN k k')=ks:=by
   conv=>rhs;rw[<- List.map_id ks]
   exact List.map_congr_left fun j hj=>key j (by rw[<- Bool.not_eq_true];exact h j hj)
  rw[this]
 |d x=>rfl
 |emp=>rfl
 |hob u b ob=>rfl
 |pr j t s n x=>simp only[SV.sw];rw[key j h]
 |refx j o b=>simp only[SV.sw];rw[key j h]
 |bnd f j o=>simp only[SV.sw];rw[key j h]
 |ownx j t s n u=>simp only[SV.sw];rw[key j h]
 |junk=>rfl
theorem sim_ren{S S':SL}{B B':BS}(k k':Nat)(h1:S'.map (fun p=>kK S p.1)=S'.map (fun p=>p.2.sw k k'):=by kernel_rfl)(h2:B'.map (fun p=>kB B (swN k k' p.1))=B'.map (·.2):=by kernel_rfl)(h3:(B'.all fun p=>!(Nat.beq p.1 k'))=true:=by kernel_rfl)
  (h4:Clr k ((k,none)::B):=by repeat first | exact clr_nil _ | refine clr_self ?_ | refine clr_map ?_ | refine clr_none ?_ | refine clr_bx ?_ | refine clr_d ?_ | refine clr_cons rfl ?_) (h5:kB B k=none:=by kernel_rfl):vG ⟨S,B⟩ ⟨S',B'⟩:=fun C a w ⟨D,β,hs⟩=>by
 have hget:∀ {l:BS},(l.map (fun p=>kB B (swN k k' p.1))=l.map (·.2))->∀ {j c},kB l j=some c->kB B (swN k k' j)=some c:=by
  intro l
  induction l with
  |nil=>intro _ j c h;simp [kB] at h
  |cons p l ih=>
   intro hl j c hj
   obtain ⟨q,y⟩:=p
   simp only[List.map_cons,List.cons.injEq] at hl
   rw[jK] at hj
   split at hj
   ·rename_i e;subst e;rw[hl.1];exact hj
   ·exact ih hl.2 hj
 have hkey:∀ {l:BS},((l.all fun p=>!(Nat.beq p.1 k'))=true)->∀ {j c},kB l j=some c->j≠k':=by
  intro l
  induction l with
  |nil=>intro _ j c h;simp [kB] at h
  |cons p l ih=>
   intro hl j c hj e
   obtain ⟨q,y⟩:=p
   simp only[List.all_cons,Bool.and_eq_true,Bool.not_eq_true'] at hl
   rw[jK] at hj
   split at hj
   ·rename_i e2;subst e2;subst e;simp at hl
   ·exact ih hl.2 hj e
 have hnk:∀ {j c},kB B j=some c->j≠k/\qN k c=false:=fun {j c} hj=>by
  have hne:j≠k:=fun e=>by subst e;rw[h5] at hj;cases hj
  exact ⟨hne,h4 j c hne (by rw[jK,if_neg (fun e=>hne e.symm)];exact hj)⟩
 have hsl:∀ {l:SL},(l.map (fun p=>kK S p.1)=l.map (fun p=>p.2.sw k k'))->∀ t,kK l t=.junk\/kK S t=(kK l t).sw k k':=by
  intro l
  induction l with
  |nil=>intro _ t;exact .inl rfl
  |cons p l ih=>
   intro hl t
   obtain ⟨q,y⟩:=p
   simp only[List.map_cons,List.cons.injEq] at hl
   rw[uC]
   split
   ·rename_i e;subst e;exact .inr hl.1
   ·exact ih hl.2 t
 refine ⟨D,fun j=>β (swN k k' j),hs.base,⟨fun j c hj=>?_,fun j1 j2 c1 c2 q1 q2 b e1 e2=>?_⟩,fun j c hj b hb=>hs.high _ c (hget h2 hj) b hb,fun t=>?_⟩
 ·have hc:=hget h2 hj
  obtain ⟨_,hn⟩:=hnk hc
  rcases hs.mem.ok _ c hc with h | ⟨b,vs,T,g1,g2,g3,g4,g5⟩
  ·exact .inl h
  ·refine .inr ⟨b,vs,T,g1,g2,g3,fun i x hi=>?_,g5⟩
   obtain ⟨u,e1,e2,e3⟩:=g4 i x hi
   exact ⟨u,e1,e2,qH.sw (by rw[sw_of (aH hn hi)];exact e3)⟩
 ·have:=hs.mem.inj _ _ c1 c2 (hget h2 q1) (hget h2 q2) b e1 e2
  have n1:=hkey h3 q1
  have n2:=hkey h3 q2
  by_cases g1:j1=k<;>by_cases g2:j2=k
  ·omega
  ·subst g1;rw[swN_eq,lL g2] at this;omega
  ·subst g2;rw[swN_eq,lL g1] at this;omega
  ·rw[lL g1,lL g2] at this;exact this
 ·show qH w D _ _ (kK S' t)
  rcases hsl h1 t with h | h
  ·rw[h];trivial
  ·have:=hs.slots t
   dsimp only at this
   rw[h] at this
   exact this.sw
section
variable {P:Program}
end
section
variable {P:Program} {o:Oper} {S:Nat->SV}
end
section
variable {P:Program}
end
section
variable {P:Program} {o:Oper} {S:Nat->SV}
end
section
variable {P:Program} {n:Fr} {ops:Array Oper} {K:SL->BS->Prop} {S S0 S1:SL} {B B0 B1:BS} {l:List Oper} {o:Oper} {D:SL}
theorem zY(h1:D.map (fun p=>kK S p.1)=D.map (·.2):=by kernel_rfl)(h2:S.drop (S.length-S0.length)=S0:=by kernel_rfl)(h3:((S.take (S.length-S0.length)).all fun p=>inS D p.1||isJ (kK S0 p.1))=true:=by kernel_rfl):SK P n ops (KS S0 B D []) S B [] :=
 zZ h1 h2 h3 rfl (by rw[Nat.sub_self];rfl) (by rw[Nat.sub_self];rfl)
def KI(S1:SL)(B1:BS)(S:SL)(B:BS):Prop:=vG ⟨S,B⟩ ⟨S1,B1⟩
theorem kr{id:Nat}{Q:Exit->PS->Prop}(S1:SL)(B1:BS)(h:SK P n l.toArray (KI S1 B1) S0 B0 l)(hq:Q .normal ⟨S1,B1⟩)(hp:l.all nT=true:=by kernel_rfl):eI P n (.region id l.toArray false) Q ⟨S0,B0⟩:=fun C a w N hn hs=>by
 obtain ⟨st1,h1,h2⟩:=h
 subst hn
 exact wpIn_region_lit (steps_sound (C:=C) h1 hp rfl (fun a' w' hs'=>⟨_,h2 C a' w' hs',hq⟩) hs)
theorem zI(h:vG ⟨S,B⟩ ⟨S1,B1⟩):SK P n ops (KI S1 B1) S B []:=⟨⟨S,B⟩,.nil,h⟩
theorem zOh(k E s:Nat)(r:SK P n ops K ((dO o,.own k E s 0)::S) ((k,some [])::B) l)(h:nilK o=true:=by kernel_rfl)(g:goK n ops S o=true:=by kernel_rfl)(h1:(S.all fun p=>!p.2.names k)=true:=by kernel_rfl)
  (h2:FrB k B:=by repeat first | exact frb_nil _ | refine frb_map rfl ?_ | refine frb_d rfl ?_ | refine frb_cs rfl rfl ?_ | refine frb_none rfl ?_):SK P n ops K S B (o::l):=zO k E s r h g (freshB_of h1 h2)
end
def swJ(k k' J j:Nat)(c:List SV):List SV:=bif Nat.beq j J then c.map (SV.sw k k') else c
theorem iY{S S':SL}{B B':BS}(k k' J:Nat)(h1:S'.map (fun p=>kK S p.1)=S'.map (fun p=>p.2.sw k k'):=by kernel_rfl)(h2:B'.map (fun p=>kB B (swN k k' p.1))=B'.map (fun p=>p.2.map (swJ k k' J p.1)):=by kernel_rfl)(h3:(B'.all fun p=>!(Nat.beq p.1 k'))=true:=by kernel_rfl)
  (h4:Clr k ((k,none)::B):=by repeat first | exact clr_nil _ | refine clr_self ?_ | refine clr_map ?_ | refine clr_none ?_ | refine clr_bx ?_ | refine clr_d ?_ | refine clr_cons rfl ?_) (h5:kB B k=none:=by kernel_rfl):vG ⟨S,B⟩ ⟨S',B'⟩:=fun C a w ⟨D,β,hs⟩=>by
 have hget:∀ {l:BS},(l.map (fun p=>kB B (swN k k' p.1))=l.map (fun p=>p.2.map (swJ k k' J p.1)))->∀ {j c},kB l j=some c->kB B (swN k k' j)=some (swJ k k' J j c):=by
  intro l
  induction l with
  |nil=>intro _ j c h;simp [kB] at h
  |cons p l ih=>
   intro hl j c hj
   obtain ⟨q,y⟩:=p
   simp only[List.map_cons,List.cons.injEq] at hl
   rw[jK] at hj
   split at hj
   ·rename_i e;subst e;subst hj;rw[hl.1];rfl
   ·exact ih hl.2 hj
 have hkey:∀ {l:BS},((l.all fun p=>!(Nat.beq p.1 k'))=true)->∀ {j c},kB l j=some c->j≠k':=by
  intro l
  induction l with
  |nil=>intro _ j c h;simp [kB] at h
  |cons p l ih=>
   intro hl j c hj e
   obtain ⟨q,y⟩:=p
   simp only[List.all_cons,Bool.and_eq_true,Bool.not_eq_true'] at hl
   rw[jK] at hj
   split at hj
   ·rename_i e2;subst e2;subst e;simp at hl
   ·exact ih hl.2 hj e
 have hnk:∀ {j c},kB B j=some c->j≠k/\qN k c=false:=fun {j c} hj=>by
  have hne:j≠k:=fun e=>by subst e;rw[h5] at hj;cases hj
  exact ⟨hne,h4 j c hne (by rw[jK,if_neg (fun e=>hne e.symm)];exact hj)⟩
 have hsl:∀ {l:SL},(l.map (fun p=>kK S p.1)=l.map (fun p=>p.2.sw k k'))->∀ t,kK l t=.junk\/kK S t=(kK l t).sw k k':=by
  intro l
  induction l with
  |nil=>intro _ t;exact .inl rfl
  |cons p l ih=>
   intro hl t
   obtain ⟨q,y⟩:=p
   simp only[List.map_cons,List.cons.injEq] at hl
   rw[uC]
   split
   ·rename_i e;subst e;exact .inr hl.1
   ·exact ih hl.2 t
 refine ⟨D,fun j=>β (swN k k' j),hs.base,⟨fun j c hj=>?_,fun j1 j2 c1 c2 q1 q2 b e1 e2=>?_⟩,fun j c hj b hb=>hs.high _ _ (hget h2 hj) b hb,fun t=>?_⟩
 ·have hc:=hget h2 hj
  obtain ⟨_,hn⟩:=hnk hc
  rcases hs.mem.ok _ _ hc with ⟨h,h'⟩ | ⟨b,vs,T,g1,g2,g3,g4,g5⟩
  ·refine .inl ⟨h,?_⟩
   unfold swJ at h'
   cases hJ:Nat.beq j J with
   |true=>rw[hJ,cond_true,List.map_eq_nil_iff] at h';exact h'
   |false=>rw[hJ,cond_false] at h';exact h'
  ·unfold swJ at hn g3 g4
   cases hJ:Nat.beq j J with
   |true=>
    rw[hJ,cond_true] at g3 g4
    refine .inr ⟨b,vs,T,g1,g2,by simpa using g3,fun i x hi=>?_,g5⟩
    obtain ⟨u,e1,e2,e3⟩:=g4 i (x.sw k k') (by rw[List.getElem?_map,hi];rfl)
    exact ⟨u,e1,e2,qH.sw e3⟩
   |false=>
    rw[hJ,cond_false] at hn g3 g4
    refine .inr ⟨b,vs,T,g1,g2,g3,fun i x hi=>?_,g5⟩
    obtain ⟨u,e1,e2,e3⟩:=g4 i x hi
    exact ⟨u,e1,e2,qH.sw (by rw[sw_of (aH hn hi)];exact e3)⟩
 ·have:=hs.mem.inj _ _ _ _ (hget h2 q1) (hget h2 q2) b e1 e2
  have n1:=hkey h3 q1
  have n2:=hkey h3 q2
  by_cases g1:j1=k<;>by_cases g2:j2=k
  ·omega
  ·subst g1;rw[swN_eq,lL g2] at this;omega
  ·subst g2;rw[swN_eq,lL g1] at this;omega
  ·rw[lL g1,lL g2] at this;exact this
 ·show qH w D _ _ (kK S' t)
  rcases hsl h1 t with h | h
  ·rw[h];trivial
  ·have:=hs.slots t
   dsimp only at this
   rw[h] at this
   exact this.sw
section
variable {P:Program} {S:SL} {B:BS} {o:Oper} {x y:Operand} {k:Nat} {T:TypeId}
end
section
variable {P:Program} {o:Oper}
theorem oQd{S:Nat->SV}{z:SV}(d d2:jZ)(h:vI P o S [] z)(e:d=d2)(e0:z=.d d:=by kernel_rfl):vI P o S [] (.d d2):=e▸e0▸h
theorem oQr{S:SL}{B:BS}{k:Nat}{z:SV}(d d2:jZ)(h:ROk P o S B k z)(e:d=d2)(e0:z=.d d:=by kernel_rfl):ROk P o S B k (.d d2):=e▸e0▸h
end
end Go.Fid
