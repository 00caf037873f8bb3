/- Part 15 of a proof: rules, plain facts, and functions walked. -/
import Derived.Test.YtckccjhflbljgaaGreatDoorM14
set_option linter.all false
namespace Go.Fid
open Go.RowKit (Below)
def rowC(E:TypeId)(s:Nat):Nat->List (List jS)->List SV
 |_,[]=>[]
 |k,r::rs=>.own k E s r.length::rowC E s (k+1) rs
theorem mapCs_rowC(E:TypeId)(s k:Nat)(rows:List (List jS)):gO (rowC E s k rows)=false:=by
 rcases rows with _ | ⟨a,_ | ⟨b,l⟩⟩<;>rfl
theorem blk_weak{w:World}{D:kQ}{β:kU}{k:Nat}{cs cs':List SV}(h:uD w D β k cs)(hl:cs'.length=cs.length)(hx:∀ (i:Nat) (x:SV),cs'[i]?=some x->x=SV.junk\/cs[i]?=some x)(hm:gO cs=false):uD w D β k cs':=by
 rcases h with h | ⟨b,vs,T,h1,h2,h3,h4,h5⟩
 ·obtain ⟨h1,h2⟩:=h.cells hm;exact .inl (.inl ⟨h1,List.eq_nil_of_length_eq_zero (by rw[hl,h2];rfl)⟩)
 ·refine .inr ⟨b,vs,T,h1,h2,by omega,fun i x hi=>?_,h5⟩
  have hlt:i<cs.length:=by have:=(List.getElem?_eq_some_iff.1 hi).1;omega
  obtain ⟨u,e1,e2,e3⟩:=h4 i _ (List.getElem?_eq_getElem hlt)
  rcases hx i x hi with rfl | h
  ·exact ⟨u,e1,e2,trivial⟩
  ·rw[List.getElem?_eq_getElem hlt] at h
   injection h with h
   exact ⟨u,e1,e2,h▸e3⟩
section
variable {P:Program} {o:Oper} {S:SL}
theorem publishAt{st:PS}{j k s m:Nat}{T:TypeId}{pre post cs:List SV}{es:List jS}(hj:kA st.bs j=some (pre++.own k T s m::post))(hjk:k≠j)(hb:kA st.bs k=some cs)(hes:∀ e∈es,e.cells.length=s)(hl:es.length=m)(hc:cs.take (m*s)=(qA es).map .d) :
  uY st ⟨st.sl,(j,some (pre++.d (.sl T s es)::post))::(k,none)::st.bs⟩:=fun C a w ⟨D,β,h⟩=>by
 obtain ⟨D',h',hown⟩:=publish_core (T:=T) h hb hes hl hc
 have hj2:kA ((k,none)::st.bs) j=some (pre++.own k T s m::post):=by rw[jI,if_neg hjk];exact hj
 have conv:∀ {i c},kA ((j,some (pre++SV.d (.sl T s es)::post))::(k,none)::st.bs) i=some c->∃ c',kA ((k,none)::st.bs) i=some c':=fun {i c} hi=>by
  rw[jI] at hi
  split at hi
  ·rename_i e;subst e;exact ⟨_,hj2⟩
  ·exact ⟨c,hi⟩
 refine ⟨D',β,h'.base,⟨fun i c hi=>?_,fun i1 i2 c1 c2 q1 q2=>?_⟩,fun i c hi=>?_,h'.slots⟩
 ·rw[jI] at hi
  split at hi
  ·rename_i e;subst e
   injection hi with hi;subst hi
   rcases h'.mem.ok j _ hj2 with q | ⟨b,vs,T2,q1,q2,q3,q4,q5⟩
   ·obtain ⟨_,q⟩:=q.cells (mapCs_at (i:=pre.length) (by rw[List.getElem?_append_right (Nat.le_refl _),Nat.sub_self];rfl) rfl);simp at q
   ·refine .inr ⟨b,vs,T2,q1,q2,by simpa using q3,fun i x hx=>?_,q5⟩
    by_cases h1:i<pre.length
    ·rw[List.getElem?_append_left h1] at hx
     exact q4 i x (by rw[List.getElem?_append_left h1];exact hx)
    ·rw[List.getElem?_append_right (by omega)] at hx
     cases hq:i-pre.length with
     |zero=>
      rw[hq] at hx
      simp at hx
      subst hx
      obtain ⟨u,e1,e2,e3⟩:=q4 i (.own k T s m) (by rw[List.getElem?_append_right (by omega),hq];rfl)
      exact ⟨u,e1,e2,hown u D' e3⟩
     |succ q=>
      rw[hq] at hx
      exact q4 i x (by rw[List.getElem?_append_right (by omega),hq];simpa using hx)
  ·exact h'.mem.ok i c hi
 ·obtain ⟨d1,g1⟩:=conv q1
  obtain ⟨d2,g2⟩:=conv q2
  exact h'.mem.inj i1 i2 d1 d2 g1 g2
 ·obtain ⟨d,g⟩:=conv hi
  exact h'.high i d g
end
theorem sim_mask{S:SL}{B:BS}{j:Nat}{cs:List SV}(i:Nat)(hb:kA B j=some cs)(hm:gO cs=false:=by first | exact mI _ | exact mapCs_rowC _ _ _ _ | kernel_rfl):uY ⟨S,B⟩ ⟨S,(j,some (cs.set i .junk))::B⟩:=fun C a w ⟨D,β,hs⟩=>by
 have conv:∀ {q c},kA ((j,some (cs.set i SV.junk))::B) q=some c->∃ c',kA B q=some c':=fun {q c} hq=>by
  rw[jI] at hq
  split at hq
  ·rename_i e;subst e;exact ⟨_,hb⟩
  ·exact ⟨_,hq⟩
 refine ⟨D,β,hs.base,⟨fun q c hq=>?_,fun i1 i2 c1 c2 q1 q2=>?_⟩,fun q c hq=>?_,hs.slots⟩
 ·rw[jI] at hq
  split at hq
  ·rename_i e;subst e
   injection hq with hq;subst hq
   refine blk_weak (hs.mem.ok _ cs hb) (by simp) (fun q x hx=>?_) hm
   rw[List.getElem?_set] at hx
   split at hx
   ·split at hx
    ·injection hx with hx;exact .inl hx.symm
    ·cases hx
   ·exact .inr hx
  ·exact hs.mem.ok q c hq
 ·obtain ⟨d1,g1⟩:=conv q1
  obtain ⟨d2,g2⟩:=conv q2
  exact hs.mem.inj i1 i2 d1 d2 g1 g2
 ·obtain ⟨d,g⟩:=conv hq
  exact hs.high q d g
theorem ownCell{S:SL}{B:BS}{j:Nat}{cs:List SV}(i k E s:Nat)(hj:kA B j=some cs)(hi:cs[i]?=some (.d (.val (.slice none 0 0))))(hf:gF k ⟨S,B⟩=true) :
  uY ⟨S,B⟩ ⟨S,(j,some (cs.set i (.own k E s 0)))::(k,some [])::B⟩:=fun C a w ⟨D,β,hs⟩=>by
 have hβ:∀ q,q≠k->(fun q=>if q=k then none else β q:kU) q=β q:=fun q hq=>by simp [hq]
 have hβ0:(fun q=>if q=k then none else β q:kU) k=none:=by simp
 generalize (fun q=>if q=k then none else β q:kU)=β' at hβ hβ0
 obtain ⟨hjk,hnm⟩:=iC hf hj
 have conv:∀ {q c},q≠k->kA ((j,some (cs.set i (SV.own k E s 0)))::(k,some [])::B) q=some c->∃ c',kA B q=some c':=fun {q c} hne hq=>by
  rw[jI] at hq
  split at hq
  ·rename_i e;subst e;exact ⟨_,hj⟩
  ·rw[jI,if_neg (fun e=>hne e.symm)] at hq;exact ⟨_,hq⟩
 refine ⟨D,β',hs.base,⟨fun q c hq=>?_,fun i1 i2 c1 c2 q1 q2 b e1 e2=>?_⟩,fun q c hq b e=>?_,fun t=>(hs.slots t).frame hβ (lE hf t)⟩
 ·rw[jI] at hq
  split at hq
  ·rename_i e;subst e
   injection hq with hq;subst hq
   rcases hs.mem.ok _ cs hj with h | ⟨b,vs,T,h1,h2,h3,h4,h5⟩
   ·obtain ⟨h1,h2⟩:=h.cells (mapCs_at hi rfl);rw[h2] at hi;simp at hi
   ·refine .inr ⟨b,vs,T,(hβ _ hjk).trans h1,h2,by simpa using h3,fun q x hx=>?_,h5⟩
    rw[List.getElem?_set] at hx
    split at hx
    ·rename_i e;subst e
     split at hx
     ·injection hx with hx;subst hx
      obtain ⟨u,e1,e2,e3⟩:=h4 i _ hi
      exact ⟨u,e1,e2,.inl ⟨hβ0,rfl,vO e3⟩⟩
     ·cases hx
    ·obtain ⟨u,e1,e2,e3⟩:=h4 q x hx
     exact ⟨u,e1,e2,e3.frame hβ (names_get hnm hx)⟩
  ·rw[jI] at hq
   split at hq
   ·rename_i e;subst e
    injection hq with hq;subst hq
    exact .inl (.inl ⟨hβ0,rfl⟩)
   ·obtain ⟨g1,g2⟩:=iC hf hq
    exact (hs.mem.ok q c hq).frame hβ g1 g2
 ·have n1:i1≠k:=fun e=>by rw[e,hβ0] at e1;cases e1
  have n2:i2≠k:=fun e=>by rw[e,hβ0] at e2;cases e2
  obtain ⟨d1,g1⟩:=conv n1 q1
  obtain ⟨d2,g2⟩:=conv n2 q2
  exact hs.mem.inj i1 i2 d1 d2 g1 g2 b ((hβ _ n1).symm.trans e1) ((hβ _ n2).symm.trans e2)
 ·have n1:q≠k:=fun e'=>by rw[e',hβ0] at e;cases e
  obtain ⟨d,g⟩:=conv n1 hq
  exact hs.high q d g b ((hβ _ n1).symm.trans e)
theorem pwp_own{P:Program}{n:Fr}{c:Code}{Q:Exit->PS->Prop}{S:SL}{B:BS}(j i k E s:Nat){cs:List SV}(hj:kA B j=some cs:=by kernel_rfl)(hi:cs[i]?=some (.d (.val (.slice none 0 0))):=by kernel_rfl)(h1:(S.all fun p=>!p.2.names k)=true:=by kernel_rfl)
  (h2:FrB k B:=by repeat first | exact frb_nil _ | refine frb_map rfl ?_ | refine frb_d rfl ?_ | refine frb_cs rfl rfl ?_ | refine frb_none rfl ?_) (h:eO P n c Q ⟨S,(j,some (cs.set i (.own k E s 0)))::(k,some [])::B⟩):eO P n c Q ⟨S,B⟩ :=
 qG (ownCell i k E s hj hi (bQ h1 h2)) h
section
variable {P:Program} {n:Fr} {ops:Array Oper} {K:SL->BS->Prop} {S:SL} {B:BS} {l:List Oper} {o:Oper} {α:Type} {T E t':TypeId} {x y:Operand} {k s m bytes:Nat} {zv:List Value}
theorem zAm(j i:Nat){cs:List SV}(F:α->jS)(L L':List α)(hL:L.length=m)(hT:uM P T=some (E,1))(hz:vX P E=some zv)(hby:zG P E=some bytes)(r:SK P n ops K ((dO o,.own k E 1 (L++L').length)::nF k S) ((k,some ((L++L').map (fun g=>SV.d (F g))))::(j,some (cs.set i .junk))::B) l)
  (ho:o.op=.call { callee:=.builtin .append,args:=#[x,y],argTypes:=#[T,T] }:=by exact rfl) (g:goK n ops S o=true:=by kernel_rfl) (hx:ev (jZ S) x=.own k E 1 m:=by exact rfl) (hj:kA B j=some cs:=by exact rfl) (hjk:Nat.beq j k=false:=by kernel_rfl) (hb:kA B k=some (L.map (fun g=>SV.d (F g))):=by kernel_rfl) (hy:ev (jZ S) y=.d (.sl t' 1 (L'.map F)):=by exact rfl) (hF:∀ g,(F g).cells=[F g]:=by intro g;kernel_rfl) (hzl:zv.length=1:=by kernel_rfl)
  (hbig:m+L'.length<=maxLen:=by first | (simp only[List.length_cons,List.length_nil,maxLen];omega) | (simp [maxLen];omega)) (hbig':(m+L'.length)*bytes<=140737488355328:=by first | omega | (simp only[List.length_cons,List.length_nil];omega) | (simp;omega))
  (hm:qC k (cs.set i .junk)=false:=by kernel_rfl) (hB:Clr k ((j,none)::B):=by refine fM ?_;repeat first | exact clr_nil _ | refine clr_self ?_ | refine clr_map ?_ | refine fM ?_ | refine clr_bx ?_ | refine clr_d ?_) (hmc:gO cs=false:=by first | exact mI _ | kernel_rfl):SK P n ops K S B (o::l):=by
 obtain ⟨hd,hg,hdB⟩:=yO g
 have hne:j≠k:=fF hjk
 refine zX (S1:=(dO o,.own k E 1 (L++L').length)::nF k S) (B1:=(k,some ((L++L').map (fun g=>SV.d (F g))))::(j,some (cs.set i .junk))::B) (fun C a w Q hn hs=>?_) hg r
 have hs':=sim_mask i hj hmc C a w hs
 have:=app_sound (st:=⟨S,(j,some (cs.set i .junk))::B⟩) (N:=n) (es:=L.map F) (es':=L'.map F) ho (by rw[hd];exact hdB) hT hz hzl hby hx (by show kA ((j,_)::B) k=_;rw[jI,if_neg hne];exact hb) (by rw[flat_one F hF,List.map_map];rfl) (by rw[flat_one F hF,List.length_map,hL,Nat.mul_one]) hy (by simpa using hbig) (by simpa using hbig') (fun q c hq hc=>by
  dsimp only at hc
  rw[jI] at hc
  split at hc
  ·injection hc with hc;subst hc;exact hm
  ·rename_i e;exact hB q c hq (by rw[jI,if_neg e];exact hc)) C a w Q hn hs'
 have e1:(qA (L.map F++L'.map F)).map SV.d=(L++L').map (fun g=>SV.d (F g)):=by rw[<- List.map_append,flat_one F hF,List.map_map];rfl
 have e2:m+(L'.map F).length=(L++L').length:=by rw[List.length_map,List.length_append,hL]
 rw[hd,e1,e2] at this
 exact this
theorem oSx{k j E s N off:Nat}{old:List SV}(hs:qD P T=some (false,1))(ho:o.op=.store T x y:=by exact rfl)(hx:ev (jZ S) x=.ref k off:=by exact rfl)(hy:ev (jZ S) y=.own j E s N:=by exact rfl)(hb:kA B k=some old:=by exact rfl)(hle:Nat.ble (off+1) old.length=true:=by kernel_rfl)(hm:gO old=false:=by first | exact mI _ | kernel_rfl):TK P o S B k (patch old off [.own j E s N]) :=
 ⟨_,t_store ho hx hy hs (.inr ⟨⟨j,E,s,N,rfl⟩,rfl⟩) rfl (Nat.le_of_ble_eq_true hle) hm,hb⟩
variable {news:List Nat} {acc0:List (List Nat × List Nat)}
end
def swN(k k' j:Nat):Nat:=bif Nat.beq j k then k' else j
def SV.sw(k k':Nat):SV->SV
 |.ref j o=>.ref (swN k k' j) o
 |.own j t s n=>.own (swN k k' j) t s n
 |.view j o n=>.view (swN k k' j) o n
 |.clo f ks=>.clo f (ks.map (swN k k'))
 |.pr j t s n x=>.pr (swN k k' j) t s n x
 |.refx j o b=>.refx (swN k k' j) o b
 |.mpx j b=>.mpx (swN k k' j) b
 |.bnd f j o=>.bnd f (swN k k' j) o
 |.ownx j t s n u=>.ownx (swN k k' j) t s n u
 |.mp j=>.mp (swN k k' j)
 |x=>x
theorem swN_eq(k k':Nat):swN k k' k=k':=by simp [swN]
theorem swN_ne{k k' j:Nat}(h:j≠k):swN k k' j=j:=by
 have:Nat.beq j k=false:=by rw[<- Bool.not_eq_true];exact fun e=>h (Nat.eq_of_beq_eq_true e)
 simp [swN,this]
theorem sw_mos{k k':Nat}{cs:List SV}{ob:Obj}(h:cs.map (SV.sw k k')=[.mo ob]):cs=[.mo ob]:=by
 rcases cs with _ | ⟨x,_ | ⟨y,l⟩⟩
 ·cases h
 ·simp only[List.map_cons,List.map_nil,List.cons.injEq,and_true] at h
  have:x=.mo ob:=by cases x<;>first | exact h | cases h
  rw[this]
 ·simp at h
theorem kX.sw{w:World}{D:kQ}{β:kU}{k k':Nat}{v:Value}{x:SV}(h:kX w D β v (x.sw k k')):kX w D (fun j=>β (swN k k' j)) v x:=by
 cases x with
 |d x=>exact h
 |ref j o=>exact h
 |own j t s n=>exact h
 |clo f ks=>
  obtain ⟨vs,h1,h2,h3⟩:=h
  exact ⟨vs,h1,by simpa using h2,fun i j hj=>h3 i (swN k k' j) (by rw[List.getElem?_map,hj];rfl)⟩
 |emp=>exact h
 |view j o n=>exact h
 |mp j=>exact h
 |mo ob=>exact h
 |pr j t s n x=>exact h
 |refx j o b=>exact h
 |mpx j b=>exact h
 |bnd f j o=>exact h
 |ownx j t s n u=>exact h
 |junk=>trivial
theorem sw_of{k k':Nat}{x:SV}(h:x.names k=false):x.sw k k'=x:=by
 have key:∀ j,Nat.beq k j=false->swN k k' j=j:=fun j hj=>swN_ne (fun e=>by subst e;simp at hj)
 cases x with
 |ref j o=>simp only[SV.sw];rw[key j h]
 |own j t s n=>simp only[SV.sw];rw[key j h]
 |view j o n=>simp only[SV.sw];rw[key j h]
 |clo f ks=>
  simp only[SV.sw]
  simp only[SV.names,List.any_eq_false] at h
  have:ks.map (swN k k')=ks:=by
   conv=>rhs;rw[<- List.map_id ks]
   exact List.map_congr_left fun j hj=>key j (by rw[<- Bool.not_eq_true];exact h j hj)
  rw[this]
 |d x=>rfl
 |emp=>rfl
 |mp j=>simp only[SV.sw];rw[key j h]
 |mo ob=>rfl
 |pr j t s n x=>simp only[SV.sw];rw[key j h]
 |refx j o b=>simp only[SV.sw];rw[key j h]
 |mpx j b=>simp only[SV.sw];rw[key j h]
 |bnd f j o=>simp only[SV.sw];rw[key j h]
 |ownx j t s n u=>simp only[SV.sw];rw[key j h]
 |junk=>rfl
section
variable {P:Program}
end
section
variable {P:Program} {o:Oper} {S:Nat->SV}
end
section
variable {P:Program}
end
section
variable {P:Program} {o:Oper} {S:Nat->SV}
end
section
variable {P:Program} {n:Fr} {ops:Array Oper} {K:SL->BS->Prop} {S S0 S1:SL} {B B0 B1:BS} {l:List Oper} {o:Oper} {D:SL}
def KI(S1:SL)(B1:BS)(S:SL)(B:BS):Prop:=uY ⟨S,B⟩ ⟨S1,B1⟩
theorem zI(h:uY ⟨S,B⟩ ⟨S1,B1⟩):SK P n ops (KI S1 B1) S B []:=⟨⟨S,B⟩,.nil,h⟩
theorem zOh(k E s:Nat)(r:SK P n ops K ((dO o,.own k E s 0)::S) ((k,some [])::B) l)(h:nilK o=true:=by kernel_rfl)(g:goK n ops S o=true:=by kernel_rfl)(h1:(S.all fun p=>!p.2.names k)=true:=by kernel_rfl)
  (h2:FrB k B:=by repeat first | exact frb_nil _ | refine frb_map rfl ?_ | refine frb_d rfl ?_ | refine frb_cs rfl rfl ?_ | refine frb_none rfl ?_):SK P n ops K S B (o::l):=zO k E s r h g (bQ h1 h2)
end
def swJ(k k' J j:Nat)(c:List SV):List SV:=bif Nat.beq j J then c.map (SV.sw k k') else c
theorem sim_ren2{S S':SL}{B B':BS}(k k' J:Nat)(h1:S'.map (fun p=>jZ S p.1)=S'.map (fun p=>p.2.sw k k'):=by kernel_rfl)(h2:B'.map (fun p=>kA B (swN k k' p.1))=B'.map (fun p=>p.2.map (swJ k k' J p.1)):=by kernel_rfl)(h3:(B'.all fun p=>!(Nat.beq p.1 k'))=true:=by kernel_rfl)
  (h4:Clr k ((k,none)::B):=by repeat first | exact clr_nil _ | refine clr_self ?_ | refine clr_map ?_ | refine fM ?_ | refine clr_bx ?_ | refine clr_d ?_ | refine clr_cons rfl ?_) (h5:kA B k=none:=by kernel_rfl):uY ⟨S,B⟩ ⟨S',B'⟩:=fun C a w ⟨D,β,hs⟩=>by
 have hget:∀ {l:BS},(l.map (fun p=>kA B (swN k k' p.1))=l.map (fun p=>p.2.map (swJ k k' J p.1)))->∀ {j c},kA l j=some c->kA B (swN k k' j)=some (swJ k k' J j c):=by
  intro l
  induction l with
  |nil=>intro _ j c h;simp [kA] at h
  |cons p l ih=>
   intro hl j c hj
   obtain ⟨q,y⟩:=p
   simp only[List.map_cons,List.cons.injEq] at hl
   rw[jI] at hj
   split at hj
   ·rename_i e;subst e;subst hj;rw[hl.1];rfl
   ·exact ih hl.2 hj
 have hkey:∀ {l:BS},((l.all fun p=>!(Nat.beq p.1 k'))=true)->∀ {j c},kA l j=some c->j≠k':=by
  intro l
  induction l with
  |nil=>intro _ j c h;simp [kA] at h
  |cons p l ih=>
   intro hl j c hj e
   obtain ⟨q,y⟩:=p
   simp only[List.all_cons,Bool.and_eq_true,Bool.not_eq_true'] at hl
   rw[jI] at hj
   split at hj
   ·rename_i e2;subst e2;subst e;simp at hl
   ·exact ih hl.2 hj e
 have hnk:∀ {j c},kA B j=some c->j≠k/\qC k c=false:=fun {j c} hj=>by
  have hne:j≠k:=fun e=>by subst e;rw[h5] at hj;cases hj
  exact ⟨hne,h4 j c hne (by rw[jI,if_neg (fun e=>hne e.symm)];exact hj)⟩
 have hsl:∀ {l:SL},(l.map (fun p=>jZ S p.1)=l.map (fun p=>p.2.sw k k'))->∀ t,jZ l t=.junk\/jZ S t=(jZ l t).sw k k':=by
  intro l
  induction l with
  |nil=>intro _ t;exact .inl rfl
  |cons p l ih=>
   intro hl t
   obtain ⟨q,y⟩:=p
   simp only[List.map_cons,List.cons.injEq] at hl
   rw[qP]
   split
   ·rename_i e;subst e;exact .inr hl.1
   ·exact ih hl.2 t
 refine ⟨D,fun j=>β (swN k k' j),hs.base,⟨fun j c hj=>?_,fun j1 j2 c1 c2 q1 q2 b e1 e2=>?_⟩,fun j c hj b hb=>hs.high _ _ (hget h2 hj) b hb,fun t=>?_⟩
 ·have hc:=hget h2 hj
  obtain ⟨_,hn⟩:=hnk hc
  rcases hs.mem.ok _ _ hc with (⟨h,h'⟩ | ⟨b,ob,h,h2,h3,h',h5⟩) | ⟨b,vs,T,g1,g2,g3,g4,g5⟩
  ·refine .inl (.inl ⟨h,?_⟩)
   unfold swJ at h'
   cases hJ:Nat.beq j J with
   |true=>rw[hJ,cond_true,List.map_eq_nil_iff] at h';exact h'
   |false=>rw[hJ,cond_false] at h';exact h'
  ·refine .inl (.inr ⟨b,ob,h,h2,h3,?_,h5⟩)
   unfold swJ at h'
   cases hJ:Nat.beq j J with
   |true=>rw[hJ,cond_true] at h';exact sw_mos h'
   |false=>rw[hJ,cond_false] at h';exact h'
  ·unfold swJ at hn g3 g4
   cases hJ:Nat.beq j J with
   |true=>
    rw[hJ,cond_true] at g3 g4
    refine .inr ⟨b,vs,T,g1,g2,by simpa using g3,fun i x hi=>?_,g5⟩
    obtain ⟨u,e1,e2,e3⟩:=g4 i (x.sw k k') (by rw[List.getElem?_map,hi];rfl)
    exact ⟨u,e1,e2,kX.sw e3⟩
   |false=>
    rw[hJ,cond_false] at hn g3 g4
    refine .inr ⟨b,vs,T,g1,g2,g3,fun i x hi=>?_,g5⟩
    obtain ⟨u,e1,e2,e3⟩:=g4 i x hi
    exact ⟨u,e1,e2,kX.sw (by rw[sw_of (names_get hn hi)];exact e3)⟩
 ·have:=hs.mem.inj _ _ _ _ (hget h2 q1) (hget h2 q2) b e1 e2
  have n1:=hkey h3 q1
  have n2:=hkey h3 q2
  by_cases g1:j1=k<;>by_cases g2:j2=k
  ·omega
  ·subst g1;rw[swN_eq,swN_ne g2] at this;omega
  ·subst g2;rw[swN_eq,swN_ne g1] at this;omega
  ·rw[swN_ne g1,swN_ne g2] at this;exact this
 ·show kX w D _ _ (jZ S' t)
  rcases hsl h1 t with h | h
  ·rw[h];trivial
  ·have:=hs.slots t
   dsimp only at this
   rw[h] at this
   exact this.sw
section
variable {P:Program} {S:SL} {B:BS} {o:Oper} {x y:Operand} {k:Nat} {T:TypeId}
theorem bxs_get{α:Type}{F:α->jS}{L:List α}{s i:Nat}{c:jS}(hF:∀ g,(F g).cells.length=s)(j:Nat)(d:α)(hj:j<L.length)(hi:i<s)(hc:(F (L.getD j d)).cells[i]?=some c):(uK F L)[j*s+i]?=some (.d c):=by
 unfold uK
 rw[List.getElem?_map,flat_get (s:=s) (e:=F (L.getD j d)) (fun e he=>by obtain ⟨g,_,rfl⟩:=List.mem_map.1 he;exact hF g) (by simp [List.getD_eq_getElem?_getD,List.getElem?_eq_getElem hj]) hi,hc]
 rfl
theorem oLs{α:Type}{F:α->jS}{L:List α}{s i:Nat}{c:jS}(hs:qD P T=some (false,1))(j:Nat)(d:α)(ho:o.op=.load T x:=by exact rfl)(hx:ev (jZ S) x=.ref k (j*s+i):=by exact rfl)(hb:kA B k=some (uK F L):=by exact rfl)(hF:∀ g,(F g).cells.length=s:=by intro g;kernel_rfl)(hi:Nat.blt i s=true:=by kernel_rfl)(hc:(F (L.getD j d)).cells[i]?=some c:=by exact rfl)(h1:j<L.length:=by omega):ROk P o S B k (.d c) :=
 ⟨_,e_ld1 ho hx hs (bxs_get hF j d h1 (by simpa [Nat.blt_eq] using hi) hc) rfl,hb⟩
end
section
variable {P:Program} {o:Oper}
theorem oQd{S:Nat->SV}{z:SV}(d d2:jS)(h:uN P o S [] z)(e:d=d2)(e0:z=.d d:=by kernel_rfl):uN P o S [] (.d d2):=e▸e0▸h
theorem mR{S:SL}{B:BS}{k:Nat}{z:SV}(d d2:jS)(h:ROk P o S B k z)(e:d=d2)(e0:z=.d d:=by kernel_rfl):ROk P o S B k (.d d2):=e▸e0▸h
end
theorem clrn_nil(k j:Nat):Clr k [(j,none)]:=fM (clr_nil k)
theorem clrn_hide{k j:Nat}{c:Option (List SV)}{bs:BS}(h:Clr k ((j,none)::bs)):Clr k ((j,none)::(j,c)::bs):=fun i x hi hb=>h i x hi (by
 rw[jI] at hb ⊢
 split at hb
 ·cases hb
 ·rename_i hne;rw[jI,if_neg hne] at hb;rw[if_neg hne];exact hb)
theorem clrn_at{k j q:Nat}{c:Option (List SV)}{bs:BS}(hc:∀ x,q≠k->c=some x->qC k x=false)(h:Clr k ((j,none)::bs)):Clr k ((j,none)::(q,c)::bs):=fun i x hi hb=>by
 rw[jI] at hb
 split at hb
 ·cases hb
 ·rename_i hne
  rw[jI] at hb
  split at hb
  ·rename_i hq;exact hc x (fun e=>hi (hq.symm.trans e)) hb
  ·exact h i x hi (by rw[jI,if_neg hne];exact hb)
theorem clrn_self{k j:Nat}{x:Option (List SV)}{bs:BS}(h:Clr k ((j,none)::bs)):Clr k ((j,none)::(k,x)::bs):=clrn_at (fun _ e _=>absurd rfl e) h
theorem clrn_none{k j q:Nat}{bs:BS}(h:Clr k ((j,none)::bs)):Clr k ((j,none)::(q,none)::bs):=clrn_at (fun _ _ e=>by cases e) h
theorem clrn_cons{k j q:Nat}{cs:List SV}{bs:BS}(hc:qC k cs=false)(h:Clr k ((j,none)::bs)):Clr k ((j,none)::(q,some cs)::bs):=clrn_at (fun x _ e=>by injection e with e;subst e;exact hc) h
theorem clrn_map{α:Type}{k j q:Nat}{f:α->jS}{l:List α}{bs:BS}(h:Clr k ((j,none)::bs)):Clr k ((j,none)::(q,some (l.map (fun g=>SV.d (f g))))::bs):=clrn_cons (gC k f l) h
theorem clrn_d{k j q:Nat}{l:List jS}{bs:BS}(h:Clr k ((j,none)::bs)):Clr k ((j,none)::(q,some (l.map SV.d))::bs):=clrn_cons (gC k id l) h
theorem clrn_bx{k j q:Nat}{d:jS}{bs:BS}(h:Clr k ((j,none)::bs)):Clr k ((j,none)::(q,some (bx d))::bs):=clrn_d h
end Go.Fid
