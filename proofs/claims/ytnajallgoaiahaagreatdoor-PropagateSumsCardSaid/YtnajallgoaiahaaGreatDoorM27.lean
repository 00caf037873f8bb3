/- Part 27 of a proof: rules, plain facts, and functions walked. -/
import Derived.Test.YtnajallgoaiahaaGreatDoorM26
import Derived.Test.YtnajallgoaiahaaGreatDoorM24
import Derived.Test.YtnajallgoaiahaaGreatDoorM25
set_option linter.all false
set_option maxRecDepth 4000
namespace Go.Fid
open Go.RowKit (Below)
def ixN:List Nat→Nat→Nat→Option Nat
 |[],_,_=>none
 |k::ks,i,j=>bif Nat.beq k j then some i else ixN ks (i+1) j
theorem iE:∀ {ks:List Nat} {i j q:Nat},ixN ks i j=some q→i≤q∧ks[q-i]?=some j
 |[],i,j,q,h=>by cases h
 |k::ks,i,j,q,h=>by
  unfold ixN at h
  cases hb:Nat.beq k j with
  |true=>
   rw[hb] at h
   injection h with h;subst h
   rw[Nat.sub_self,gG hb]
   exact ⟨Nat.le_refl _,rfl⟩
  |false=>
   rw[hb] at h
   obtain ⟨h1,h2⟩:=iE (ks:=ks) h
   refine ⟨by omega,?_⟩
   rw[show q-i=(q-(i+1))+1 by omega]
   exact h2
def rawS(ks:List Nat):SV→Bool
 |.own k _ _ _=>(ixN ks 0 k).isNone
 |_=>false
def bkc(ks:List Nat)(u:Value):SV→Option SV
 |.d x=>some (.d x)
 |.own k t s n=>match ixN ks 0 k with
  |some i=>some (.own i t s n)
  |none=>some (.d (.val u))
 |.ref k o=>(ixN ks 0 k).map fun i=>.ref i o
 |.refx k o b=>(ixN ks 0 k).map fun i=>.refx i o b
 |_=>none
def bkL(ks:List Nat)(U:Nat→Value):Nat→List SV→Option (List SV)
 |_,[]=>some []
 |i,y::c=>match bkc ks (U i) y,bkL ks U (i+1) c with
  |some x,some l=>some (x::l)
  |_,_=>none
theorem eQ(ks:List Nat)(U:Nat→Value):∀ (ds:List jT) (i:Nat),bkL ks U i (ds.map SV.d)=some (ds.map SV.d)
 |[],_=>rfl
 |x::ds,i=>by rw[List.map_cons,bkL,eQ ks U ds (i+1)];rfl
theorem bkL_get{ks:List Nat}{U:Nat→Value}:∀ {c2 c:List SV} {j:Nat},bkL ks U j c2=some c→c.length=c2.length∧∀ i:Nat,(∀ y,c2[i]?=some y→∃ x,c[i]?=some x∧bkc ks (U (j+i)) y=some x)∧∀ x,c[i]?=some x→∃ y,c2[i]?=some y∧bkc ks (U (j+i)) y=some x
 |[],c,j,h=>by
  injection h with h;subst h
  exact ⟨rfl,fun i=>⟨fun x hx=>by simp at hx,fun y hy=>by simp at hy⟩⟩
 |y::l,c,j,h=>by
  unfold bkL at h
  split at h
  ·rename_i x l' hy hl
   injection h with h;subst h
   obtain ⟨h1,h2⟩:=bkL_get hl
   refine ⟨by simp [h1],fun i=>?_⟩
   cases i with
   |zero=>exact ⟨fun z hz=>by simp at hz;subst hz;exact ⟨x,rfl,hy⟩,fun z hz=>by simp at hz;subst hz;exact ⟨y,rfl,hy⟩⟩
   |succ i=>
    obtain ⟨g1,g2⟩:=h2 i
    rw[show j+1+i=j+(i+1) by omega] at g1 g2
    exact ⟨fun z hz=>g1 z (by simpa using hz),fun z hz=>g2 z (by simpa using hz)⟩
  ·cases h
theorem bkc_to{w:World}{D:qG}{β γ:qE}{ks:List Nat}{u:Value}{x y:SV}(h:bkc ks u y=some x)(hg:∀ k j,ks[k]?=some j→γ k=β j)(hu:qC w D β u y):qC w D γ u x:=by
 cases y with
 |d z=>injection h with h;subst h;exact hu
 |own k t s n=>
  unfold bkc at h
  dsimp only at h
  split at h
  ·rename_i i hi
   injection h with h;subst h
   have e:=hg i k (by simpa using (iE hi).2)
   simp only[qC,e]
   exact hu
  ·injection h with h;subst h
   exact uW.val u
 |ref k o=>
  unfold bkc at h
  rw[Option.map_eq_some_iff] at h
  obtain ⟨i,hi,rfl⟩:=h
  have e:=hg i k (by simpa using (iE hi).2)
  simp only[qC,e]
  exact hu
 |refx k o b=>
  unfold bkc at h
  rw[Option.map_eq_some_iff] at h
  obtain ⟨i,hi,rfl⟩:=h
  have e:=hg i k (by simpa using (iE hi).2)
  simp only[qC,e]
  exact hu
 |_=>cases h
theorem bkc_back{w:World}{D:qG}{β γ:qE}{ks:List Nat}{u v:Value}{x y:SV}(h:bkc ks u y=some x)(hg:∀ k j,ks[k]?=some j→γ k=β j)(hv:qC w D γ v x)(hr:rawS ks y=true→qC w D β u y):qC w D β v y:=by
 cases y with
 |d z=>injection h with h;subst h;exact hv
 |own k t s n=>
  unfold bkc at h
  dsimp only at h
  split at h
  ·rename_i i hi
   injection h with h;subst h
   have e:=hg i k (by simpa using (iE hi).2)
   simp only[qC,e] at hv
   exact hv
  ·rename_i hi
   injection h with h;subst h
   have hv:=vE hv
   subst hv
   exact hr (by simp only[rawS,hi];rfl)
 |ref k o=>
  unfold bkc at h
  rw[Option.map_eq_some_iff] at h
  obtain ⟨i,hi,rfl⟩:=h
  have e:=hg i k (by simpa using (iE hi).2)
  simp only[qC,e] at hv
  exact hv
 |refx k o b=>
  unfold bkc at h
  rw[Option.map_eq_some_iff] at h
  obtain ⟨i,hi,rfl⟩:=h
  have e:=hg i k (by simpa using (iE hi).2)
  simp only[qC,e] at hv
  exact hv
 |_=>cases h
inductive RBu (ks:List Nat) (U:Nat→Nat→Value):BS→BS→Prop
 |nil:RBu ks U [] []
 |cons {k j:Nat} {c c2:List SV} {B B2:BS} (hk:ks[k]?=some j) (hc:bkL ks (U j) 0 c2=some c) (h:RBu ks U B B2):RBu ks U ((k,some c)::B) ((j,some c2)::B2)
theorem RBu.to{ks:List Nat}{U:Nat→Nat→Value}(hn:ndI ks=true){B B2:BS}(h:RBu ks U B B2):∀ {k:Nat} {c:List SV},kB B k=some c→∃ j c2,ks[k]?=some j∧kB B2 j=some c2∧bkL ks (U j) 0 c2=some c:=by
 induction h with
 |nil=>intro k c hk;simp [kB] at hk
 |@cons q j c1 c2 B B2 hk hc h ih=>
  intro k c hg
  rw[jM] at hg
  split at hg
  ·rename_i e;subst e
   injection hg with hg;subst hg
   exact ⟨j,c2,hk,by rw[jM,if_pos rfl],hc⟩
  ·rename_i hne
   obtain ⟨j',d,h1,h2,h3⟩:=ih hg
   exact ⟨j',d,h1,by rw[jM,if_neg (fun e=>by subst e;exact hne (bM hn hk h1)),h2],h3⟩
theorem RBu.back{ks:List Nat}{U:Nat→Nat→Value}(hn:ndI ks=true){B B2:BS}(h:RBu ks U B B2):∀ {j:Nat} {c2:List SV},kB B2 j=some c2→∃ k c,ks[k]?=some j∧kB B k=some c∧bkL ks (U j) 0 c2=some c:=by
 induction h with
 |nil=>intro k c hk;simp [kB] at hk
 |@cons q j c1 c2 B B2 hk hc h ih=>
  intro i d hg
  rw[jM] at hg
  split at hg
  ·rename_i e;subst e
   injection hg with hg;subst hg
   exact ⟨q,c1,hk,by rw[jM,if_pos rfl],hc⟩
  ·rename_i hne
   obtain ⟨k,c,h1,h2,h3⟩:=ih hg
   exact ⟨k,c,h1,by rw[jM,if_neg (fun e=>by subst e;rw[hk] at h1;injection h1 with h1;exact hne h1),h2],h3⟩
theorem RBu.some{ks:List Nat}{U:Nat→Nat→Value}{B B2:BS}(h:RBu ks U B B2):∀ p∈B2,∃ c,p.2=.some c:=by
 induction h with
 |nil=>intro p hp;cases hp
 |cons hk hc h ih=>
  intro p hp
  rcases List.mem_cons.1 hp with e | e
  ·subst e;exact ⟨_,rfl⟩
  ·exact ih p e
def unm(ks:List Nat)(c:List SV):List (Option SV):=c.map fun y=>bif rawS ks y then some y else none
inductive OwS (ks:List Nat):BS→BS→Prop
 |nil:OwS ks [] []
 |dat {j:Nat} {ds ds':List jT} {B B':BS} (h:OwS ks B B'):OwS ks ((j,some (ds.map SV.d))::B) ((j,some (ds'.map SV.d))::B')
 |map {α:Type} {j:Nat} {G G':α→jT} {L L':List α} {B B':BS} (h:OwS ks B B'):OwS ks ((j,some (L.map fun g=>SV.d (G g)))::B) ((j,some (L'.map fun g=>SV.d (G' g)))::B')
 |cells {j:Nat} {c c':List SV} {B B':BS} (hc:unm ks c'=unm ks c) (h:OwS ks B B'):OwS ks ((j,some c)::B) ((j,some c')::B')
theorem unm_get{ks:List Nat}{c c':List SV}(h:unm ks c'=unm ks c){i:Nat}{y:SV}(hy:c'[i]?=some y)(hr:rawS ks y=true):c[i]?=some y:=by
 have h1:=congrArg (fun l:List (Option SV)=>l[i]?) h
 simp only[unm,List.getElem?_map,hy,Option.map_some,hr,cond_true] at h1
 cases hc:c[i]? with
 |none=>rw[hc] at h1;cases h1
 |some z=>
  rw[hc] at h1
  simp only[Option.map_some,Option.some.injEq] at h1
  cases hz:rawS ks z with
  |true=>rw[hz] at h1;injection h1 with h1;rw[h1]
  |false=>rw[hz] at h1;cases h1
theorem OwS.at{ks:List Nat}{B B':BS}(h:OwS ks B B'):∀ {j:Nat} {c':List SV},kB B' j=some c'→∃ c,kB B j=some c∧∀ (i:Nat) y,c'[i]?=some y→rawS ks y=true→c[i]?=some y:=by
 have no:∀ (ds:List jT) (i:Nat) (y:SV),(ds.map SV.d)[i]?=some y→rawS ks y=true→False:=fun ds i y hy hr=>by
  rw[List.getElem?_map,Option.map_eq_some_iff] at hy
  obtain ⟨d,_,rfl⟩:=hy
  cases hr
 induction h with
 |nil=>intro j c' hj;simp [kB] at hj
 |@dat q ds ds' B B' h ih=>
  intro j c' hj
  rw[jM] at hj
  split at hj
  ·rename_i e;subst e
   injection hj with hj;subst hj
   exact ⟨_,by rw[jM,if_pos rfl],fun i y hy hr=>(no _ _ _ hy hr).elim⟩
  ·rename_i hne
   obtain ⟨c,h1,h2⟩:=ih hj
   exact ⟨c,by rw[jM,if_neg hne,h1],h2⟩
 |@map α q G G' L L' B B' h ih=>
  intro j c' hj
  rw[jM] at hj
  split at hj
  ·rename_i e;subst e
   injection hj with hj;subst hj
   exact ⟨_,by rw[jM,if_pos rfl],fun i y hy hr=>by
    rw[List.getElem?_map,Option.map_eq_some_iff] at hy
    obtain ⟨d,_,rfl⟩:=hy
    cases hr⟩
  ·rename_i hne
   obtain ⟨c,h1,h2⟩:=ih hj
   exact ⟨c,by rw[jM,if_neg hne,h1],h2⟩
 |@cells q c c' B B' hc h ih=>
  intro j d hj
  rw[jM] at hj
  split at hj
  ·rename_i e;subst e
   injection hj with hj;subst hj
   exact ⟨c,by rw[jM,if_pos rfl],fun i y hy hr=>unm_get hc hy hr⟩
  ·rename_i hne
   obtain ⟨c,h1,h2⟩:=ih hj
   exact ⟨c,by rw[jM,if_neg hne,h1],h2⟩
section
variable {P:Program}
noncomputable def celV (w:World) (β:qE) (j i:Nat):Value:=match β j with
 |some b=>match w.heap[b]? with
  |some (.cells vs _ _)=>vs.getD i undef
  |_=>undef
 |none=>undef
theorem cel_at{w:World}{D:qG}{β:qE}{j:Nat}{c:List SV}(h:uO w D β j c){i:Nat}{y:SV}(hy:c[i]?=some y):∃ b vs T,β j=some b∧w.heap[b]?=some (.cells vs T (0,0))∧vs[i]?=some (celV w β j i)∧(celV w β j i).oneCell'=true∧qC w D β (celV w β j i) y:=by
 rcases h with ⟨_,h2⟩ | ⟨b,vs,T,h1,h2,h3,h4,_⟩
 ·subst h2;simp at hy
 ·obtain ⟨u,e1,e2,e3⟩:=h4 i y hy
  have e:celV w β j i=u:=by
   unfold celV
   simp only[h1,h2]
   rw[Array.getD_eq_getD_getElem?,e1];rfl
  rw[e]
  exact ⟨b,vs,T,h1,h2,e1,e2,e3⟩
theorem blk_to{w:World}{D:qG}{β γ:qE}{ks:List Nat}{k j:Nat}{c c2:List SV}(h:bkL ks (celV w β j) 0 c2=some c)(hk:ks[k]?=some j)(hg:∀ k j,ks[k]?=some j→γ k=β j)(hb:uO w D β j c2):uO w D γ k c:=by
 obtain ⟨h1,h2⟩:=bkL_get h
 have e:=hg k j hk
 rcases hb with ⟨g1,g2⟩ | ⟨b,vs,T,g1,g2,g3,g4,g5⟩
 ·subst g2
  exact .inl ⟨e.trans g1,List.eq_nil_of_length_eq_zero (by simpa using h1)⟩
 ·refine .inr ⟨b,vs,T,e.trans g1,g2,by omega,fun i x hx=>?_,g5⟩
  obtain ⟨y,e1,e2⟩:=(h2 i).2 x hx
  rw[Nat.zero_add] at e2
  obtain ⟨b',vs',T',q1,q2,q3,q4,q5⟩:=cel_at (.inr ⟨b,vs,T,g1,g2,g3,g4,g5⟩) e1
  rw[g1] at q1;injection q1 with q1;subst q1
  rw[g2] at q2;injection q2 with q2;injection q2 with q2 _ _;subst q2
  exact ⟨_,q3,q4,bkc_to e2 hg q5⟩
theorem sok_ofU{o:Oper}{S:Nat→SV}{f:FuncId}{xs ys:List SV}{B B':(Nat→Nat→Value)→BS}{B2 B2':BS}{r x:SV}{ks mv:List Nat}
  (hf:∀ U,vO P f xs (B U) r (B' U)) (hc:CallV P o S f ys) (hxs:rnL ks xs=some ys) (hn:ndI ks=true)
  (hB:∀ U,RBu ks U (B U) B2) (hB':∀ U,RBu ks U (B' U) B2') (hO:OwS ks B2 B2') (hr:rn ks r=some x) (G:List Nat) (hG:∀ U,FixI ks (B U) (B' U) G) (hmv:(ks.all fun j=>eO mv j||(xs.any (pinI ks j))||eO G j)=true) (hmk:(mv.all fun j=>eO ks j)=true):SOk P o S B2 B2' mv x:=fun a w D β Q hop hmem2 hD=>by
 obtain ⟨us,hrun,hul,hur⟩:=hc (hf fun _ _=>undef).may a w D β hop
 obtain ⟨γ,hγ⟩:∃ γ:qE,∀ k j,ks[k]?=some j→γ k=β j:=⟨fun k=>(ks[k]?).bind β,fun k j hk=>by show (ks[k]?).bind β=β j;rw[hk];rfl⟩
 have hU:=hB (celV w β)
 have hmem:Mem w D γ (B (celV w β)):=⟨fun k c hk=>by
  obtain ⟨j,c2,e1,e2,e3⟩:=hU.to hn hk
  exact blk_to e3 e1 hγ (hmem2.ok j c2 e2),fun k1 k2 c1 c2 q1 q2 b e1 e2=>by
  obtain ⟨j1,d1,f1,f2,_⟩:=hU.to hn q1
  obtain ⟨j2,d2,g1,g2,_⟩:=hU.to hn q2
  rw[hγ _ _ f1] at e1
  rw[hγ _ _ g1] at e2
  have:=hmem2.inj j1 j2 d1 d2 f2 g2 b e1 e2
  subst this
  exact bM hn f1 g1⟩
 obtain ⟨hl1,hl2⟩:=rnL_get hxs
 have qU:us.length=xs.length:=hul.trans hl1
 have hrep:∀ (i:Nat) v z,us[i]?=some v→xs[i]?=some z→qC w D γ v z:=fun i v z hv hz=>by
  obtain ⟨y',e1,e2⟩:=(hl2 i).1 z hz
  exact (rep_rn e2 hγ).2 (hur i v y' hv e1)
 refine nO hrun (((hf (celV w β)).run w D γ _ hD hmem qU hrep).mono fun e w' h=>?_)
 obtain ⟨v,D',β',he,hp⟩:=h
 refine ⟨v,he,v,D',?_⟩
 obtain ⟨βn,hβ1,hβ2⟩:∃ βn:qE,(∀ k j,ks[k]?=some j→β' k=βn j)∧∀ j,j∉ks→βn j=β j:=by
  classical
  refine ⟨fun j=>if h:∃ k,ks[k]?=some j then β' h.choose else β j,fun k j hk=>?_,fun j h1=>?_⟩
  ·have hx:∃ q,ks[q]?=some j:=⟨k,hk⟩
   show β' k=(if h:∃ q,ks[q]?=some j then β' h.choose else β j)
   rw[dif_pos hx,bM hn hx.choose_spec hk]
  ·show (if h:∃ q,ks[q]?=some j then β' h.choose else β j)=β j
   rw[dif_neg]
   rintro ⟨k,hk⟩
   exact h1 (List.mem_of_getElem? hk)
 have hmine:∀ b,yV γ (B (celV w β)) b→yV β B2 b:=fun b ⟨k,c,h1,h2⟩=>by
  obtain ⟨j,c2,e1,e2,_⟩:=hU.to hn h1
  exact ⟨j,c2,e2,(hγ _ _ e1).symm.trans h2⟩
 have hU':=hB' (celV w β)
 -- a slice that the callee does not know, behind the call
 have hraw:∀ {j i:Nat} {c2:List SV} {y:SV},kB B2' j=some c2→c2[i]?=some y→rawS ks y=true→qC w' D' βn (celV w β j i) y:=fun {j i c2 y} h1 h2 h3=>by
  obtain ⟨c,g1,g2⟩:=hO.at h1
  obtain ⟨b,vs,T,q1,q2,q3,q4,q5⟩:=cel_at (hmem2.ok j c g1) (g2 i y h2 h3)
  cases y with
  |own k t s n=>
   have hk:k∉ks:=fun hm=>by
    obtain ⟨q,hq⟩:=List.getElem?_of_mem hm
    have:∀ {ks:List Nat} {q i:Nat},ks[q]?=some k→(ixN ks i k).isNone=false:=by
     intro ks
     induction ks with
     |nil=>intro q i h;simp at h
     |cons p ks ih=>
      intro q i h
      unfold ixN
      cases hb:Nat.beq p k with
      |true=>rfl
      |false=>
       cases q with
       |zero=>simp at h;subst h;simp at hb
       |succ q=>exact ih (q:=q) (by simpa using h)
    simp only[rawS] at h3
    rw[this hq] at h3
    cases h3
   have e:=hβ2 k hk
   rcases q5 with ⟨f1,f2⟩ | ⟨b3,cap,us3,f1,f2,f3,f4,f5⟩
   ·exact .inl ⟨e.trans f1,f2⟩
   ·obtain ⟨us',p1,p2⟩:=hp.below.shape b3 (uE f3) us3 _ _ f3
    exact .inr ⟨b3,cap,us',e.trans f1,f2,p1,p2.trans f4,f5⟩
  |_=>cases h3
 refine ⟨βn,rfl,⟨⟨hp.below.os,hp.below.tape,hp.below.output,hp.below.size,fun k hk hm=>hp.below.block k hk fun h=>hm (hmine k h),hp.below.shape⟩,hp.keep,hp.oth,hp.up,fun t g o hd=>?_,hp.dok,⟨fun j c hj=>?_,fun j1 j2 c1 c2 q1 q2 b e1 e2=>?_⟩,fun j c hj b hb=>?_,fun j hj=>?_,(rep_rn hr hβ1).1 hp.res⟩⟩
 ·rcases hp.new t g o hd with h | h | h
  ·exact .inl h
  ·exact .inr (.inl h)
  ·exact .inr (.inr (hmine g h))
 ·obtain ⟨k,c0,e1,e2,e3⟩:=hU'.back hn hj
  obtain ⟨l1,l2⟩:=bkL_get e3
  have e:=hβ1 k j e1
  rcases hp.mem.ok k c0 e2 with ⟨g1,g2⟩ | ⟨b,vs,T,g1,g2,g3,g4,g5⟩
  ·subst g2
   exact .inl ⟨e.symm.trans g1,List.eq_nil_of_length_eq_zero (by simpa using l1.symm)⟩
  ·refine .inr ⟨b,vs,T,e.symm.trans g1,g2,by omega,fun i y hy=>?_,g5⟩
   obtain ⟨x',p1,p2⟩:=(l2 i).1 y hy
   rw[Nat.zero_add] at p2
   obtain ⟨u,f1,f2,f3⟩:=g4 i x' p1
   exact ⟨u,f1,f2,bkc_back p2 hβ1 f3 fun hr=>hraw hj hy hr⟩
 ·obtain ⟨k1,d1,f1,f2,_⟩:=hU'.back hn q1
  obtain ⟨k2,d2,g1,g2,_⟩:=hU'.back hn q2
  rw[← hβ1 _ _ f1] at e1
  rw[← hβ1 _ _ g1] at e2
  have:=hp.mem.inj k1 k2 d1 d2 f2 g2 b e1 e2
  subst this
  rw[f1] at g1
  injection g1
 ·obtain ⟨k,d,f1,f2,_⟩:=hU'.back hn hj
  rw[← hβ1 _ _ f1] at hb
  rcases hp.high k d f2 b hb with h | h
  ·exact .inl h
  ·exact .inr (hmine b h)
 ·by_cases hjk:j∈ks
  ·have h1:=List.all_eq_true.1 hmv j hjk
   rw[Bool.or_eq_true,Bool.or_eq_true] at h1
   rcases h1 with (h1 | h1) | h1
   ·exact absurd (zY.1 h1) hj
   ·obtain ⟨y,hy,e⟩:=List.any_eq_true.1 h1
    obtain ⟨i,hi⟩:=List.getElem?_of_mem hy
    cases y with
    |ref q o=>
     have e:=of_decide_eq_true e
     rw[← hβ1 _ _ e,← hγ _ _ e]
     exact hp.same i _ hi q (by simp [SV.pins])
    |clo g js=>
     obtain ⟨q,hq,e⟩:=List.any_eq_true.1 e
     rw[Bool.and_eq_true] at e
     have e1:=of_decide_eq_true e.1
     rw[← hβ1 _ _ e1,← hγ _ _ e1]
     exact hp.same i _ hi q (List.any_eq_true.2 ⟨q,hq,by rw[e.2];simp⟩)
    |_=>cases e
   ·obtain ⟨k,q,o,b,e,g1,g2⟩:=(hG (celV w β)).at (zY.1 h1)
    have e1:=refx_at hmem g1
    have e2:=refx_at hp.mem g2
    rw[← hβ1 _ _ e,← hγ _ _ e,e2]
    exact e1.symm
  ·exact hβ2 j hjk
end
section
variable {P:Program} {n:Fr} {ops:Array Oper} {K:SL→BS→Prop} {S:SL} {B:BS} {l:List Oper} {o:Oper} {news:List Nat} {acc0:List (List Nat × List Nat)}
theorem bget_filter{wk:List Nat}{k:Nat}(hn:k∉wk):∀ {X:BS},kB (X.filter (fun p=>!(eO wk p.1))) k=kB X k
 |[]=>rfl
 |(j,x)::X=>by
  have ih:=bget_filter hn (X:=X)
  cases hj:eO wk j with
  |true=>
   rw[List.filter_cons_of_neg (by simp [hj]),jM,if_neg (fun e=>by subst e;exact hn (zY.1 hj)),ih]
  |false=>
   rw[List.filter_cons_of_pos (by simp [hj]),jM,jM,ih]
theorem wV{f:FuncId}{xs:List SV}{B1 B1':(Nat→Nat→Value)→BS}{r:SV}(ks mv G wk:List Nat)(x:SV)(ys:List SV)(B2 B2':BS)(hf:∀ U,vO P f xs (B1 U) r (B1' U))(hB:∀ U,RBu ks U (B1 U) B2)(hB':∀ U,RBu ks U (B1' U) B2')(hG:∀ U,FixI ks (B1 U) (B1' U) G)(hO:OwS ks B2 B2')(hM:FrM wk mv B)(hN:NmM news mv B2')
  (rr:DK P n ops K (mv++news) (acc0++[(B2.map (·.1),wk)]) ((dO o,x)::S) (B2'++B) l) (hc:CallV P o (kI S) f ys:=by exact callV_fn (ex:=[]) (by exact rfl) (.fn (by kernel_rfl)) (by kernel_rfl)) (g:goK n ops S o=true:=by kernel_rfl)
  (hxs:rnL ks xs=some ys:=by kernel_rfl) (hr:rn ks r=some x:=by kernel_rfl) (hn:ndI ks=true:=by kernel_rfl) (hb:B2.map (fun p=>kB B p.1)=B2.map (·.2):=by kernel_rfl) (hks:B2'.map (·.1)=B2.map (·.1):=by kernel_rfl)
  (hsl:(S.all fun p=>mv.all fun k=>!p.2.names k)=true:=by kernel_rfl) (hin:(mv.all fun k=>eO wk k)=true:=by kernel_rfl) (hwk:(wk.all fun k=>eO (B2.map (·.1)) k)=true:=by kernel_rfl) (hst:B2'.filter (fun p=>!(eO wk p.1))=B2.filter (fun p=>!(eO wk p.1)):=by kernel_rfl) (hcl:((mv++news).all fun k=>!x.names k)=true:=by kernel_rfl) (hmk:(mv.all fun j=>eO ks j)=true:=by kernel_rfl)
  (hmv:(ks.all fun j=>eO mv j||(xs.any (pinI ks j))||eO G j)=true:=by kernel_rfl):DK P n ops K news acc0 S B (o::l):=by
 obtain ⟨st1,acc,r1,r0,r2⟩:=rr
 obtain ⟨hd,hg,hdB⟩:=yE g
 have hb':∀ p∈B2,∃ c,p.2=some c∧kB B p.1=some c:=fun p hp=>by
  obtain ⟨c,e⟩:=(hB fun _ _=>undef).some p hp
  exact ⟨c,e,(List.map_inj_left.1 hb p hp).trans e⟩
 have hs:=mD.s (P:=P) (n:=n) (ops:=ops) (news:=news) (st:=⟨S,B⟩) (o:=o) (sok_ofU hf hc hxs hn hB hB' hO hr G hG hmv hmk) hg (by rw[hd];exact hdB) hb' hks (fun k hk=>zY.1 (List.all_eq_true.1 hwk k hk)) (fun k _ hn=>by rw[← bget_filter hn,hst,bget_filter hn])
  (fun k hk=>⟨zY.1 (List.all_eq_true.1 hin k hk),fun p hp=>by simpa using List.all_eq_true.1 (List.all_eq_true.1 hsl p hp) k hk,hM.ok hk⟩)
  (fun k hk=>by simpa using List.all_eq_true.1 hcl k (List.mem_append.2 hk)) hN.ok
 rw[hd] at hs
 exact ⟨st1,(B2.map (·.1),wk)::acc,.cons hs r1,by simpa using r0,r2⟩
theorem zV{f:FuncId}{xs:List SV}{B1 B1':(Nat→Nat→Value)→BS}{r:SV}(ks mv G:List Nat)(x:SV)(ys:List SV)(B2 B2':BS)(hf:∀ U,vO P f xs (B1 U) r (B1' U))(hB:∀ U,RBu ks U (B1 U) B2)(hB':∀ U,RBu ks U (B1' U) B2')(hG:∀ U,FixI ks (B1 U) (B1' U) G)(hO:OwS ks B2 B2')(hM:FrM (B2.map (·.1)) mv B)
  (rr:SK P n ops K ((dO o,x)::S) (B2'++B) l) (hc:CallV P o (kI S) f ys:=by exact callV_fn (ex:=[]) (by exact rfl) (.fn (by kernel_rfl)) (by kernel_rfl)) (g:goK n ops S o=true:=by kernel_rfl)
  (hxs:rnL ks xs=some ys:=by kernel_rfl) (hr:rn ks r=some x:=by kernel_rfl) (hn:ndI ks=true:=by kernel_rfl) (hb:B2.map (fun p=>kB B p.1)=B2.map (·.2):=by kernel_rfl) (hks:B2'.map (·.1)=B2.map (·.1):=by kernel_rfl)
  (hsl:(S.all fun p=>mv.all fun k=>!p.2.names k)=true:=by kernel_rfl) (hin:(mv.all fun k=>eO (B2.map (·.1)) k)=true:=by kernel_rfl) (hmk:(mv.all fun j=>eO ks j)=true:=by kernel_rfl)
  (hmv:(ks.all fun j=>eO mv j||(xs.any (pinI ks j))||eO G j)=true:=by kernel_rfl):SK P n ops K S B (o::l):=by
 obtain ⟨hd,hg,hdB⟩:=yE g
 have hb':∀ p∈B2,∃ c,p.2=some c∧kB B p.1=some c:=fun p hp=>by
  obtain ⟨c,e⟩:=(hB fun _ _=>undef).some p hp
  exact ⟨c,e,(List.map_inj_left.1 hb p hp).trans e⟩
 refine zX (fun C a w Q hn' hs=>?_) hg rr
 have:=sok_sim (Q:=Q) (sok_ofU hf hc hxs hn hB hB' hO hr G hG hmv hmk) (by rw[hn',hd];exact hdB) hb' hks
  (fun k hk=>⟨zY.1 (List.all_eq_true.1 hin k hk),fun p hp=>by simpa using List.all_eq_true.1 (List.all_eq_true.1 hsl p hp) k hk,hM.ok hk⟩) hs
 rw[hd] at this
 exact this
end
end Go.Fid
namespace Go.Proofs.YtnajallgoaiahaaGreatDoor
open Go.Fid
theorem f_div(a:R2)(ha:GL 67108864 a)(b:R2)(hb:GL 67108864 b)(n:Nat)(x:jT)(fb:Bool)(hz:gP b.1 b.2=true):vO Tryz.prog 204 [(.ref 0 0),(.d (jI (kS a))),(.d (jI (kS b)))] [(0,some [(jV n),(jV 1),(vi (-1)),(.d (x)),(vb fb)])] (.d (jI (kS (gw 0)))) [(0,some [(jV n),(jV 1),(vi (-1)),(.d (x)),(vb true)])]:=by
 refine nQ Tryz.func204 rfl cb204 rfl ?_
 show qK _ _ _ _ ⟨[(0,(.ref 0 0)),(1,(.d (jI (kS a)))),(2,(.d (jI (kS b))))],[(0,some [(jV n),(jV 1),(vi (-1)),(.d (x)),(vb fb)])]⟩
 refine jB<|kx [(4,(.ref 1 0)),(5,(.ref 2 0)),(6,(.ref 3 0))] [(1,some (bx (jI (kS a)))),(2,some (bx (jI (kS b)))),(3,some (bx (jI (jW.mk qM qM))))] (zN (vN 1)<|zN (vN 2)<|zN (uB 3 uC uH)<|zZ) ?_
 refine jB<|kx [(7,(.ref 4 0)),(8,(vi 14))] [(4,some (bx (jI (jW.mk qM qM))))] (zR (kO kF)<|zR (kO kF)<|zE (jZ (i_divideZ a.1 a.2 b.1 b.2 (qu ha.1) (qu ha.2.1) (qu hb.1) (qu hb.2.1) ha.2.2 hb.2.2 hz))<|zM<|zE vT<|zE vT<|zN (uB 4 uC uH)<|zT (qD kF)<|zM<|zZ) ?_
 refine jB<|jB<|kx [(16,(vb true))] [] (zM<|zE cM<|zZ) ?_
 refine vP ?_
 refine jB<|kx [] [(0,some [(jV n),(jV 1),(vi (-1)),(.d (x)),(vb true)])] (zM<|zE oNc<|zE (kZ fo161_4)<|zT (qD aP)<|zZ) ?_
 refine jB<|kx [] [(3,some (bx (jI (kS (gw 0)))))] (zE (jZ (j_whole 0 (by omega) (by omega)))<|zT (qD kF)<|zZ) ?_
 refine jE ⟨zL (by kernel_rfl),gL (by kernel_rfl),.inl ⟨_,(kP (cs:=(bx (jI (kS (gw 0))))) (d:=(jI (kS (gw 0)))) rfl rfl kF rfl rfl .nil),?_⟩⟩
 rfl
theorem f_vD(n:Nat)(x:jT)(fb:Bool)(bb:Nat)(u:JV)(hu:nY 1048576 n u)(v:JV)(hv:nY 1048576 n v)(hz:gP v.v.1 v.v.2=true):vO Tryz.prog 203 [(.ref 1 0),(.ref 2 0),(.ref 3 0)] [(0,some [(jV n),(jV 1),(vi (-1)),(.d (x)),(vb fb)]),(1,some [(.refx 0 0 bb)]),(2,some (bx (jJ (qF u)))),(3,some (bx (jJ (qF v))))] (.d (jI (kS (gw 0)))) [(0,some [(jV n),(jV 1),(vi (-1)),(.d (x)),(vb true)]),(1,some [(.refx 0 0 bb)]),(2,some (bx (jJ (qF u)))),(3,some (bx (jJ (qF v))))]:=by
 refine nQ Tryz.func203 rfl cb203 rfl ?_
 show qK _ _ _ _ ⟨[(0,(.ref 1 0)),(1,(.ref 2 0)),(2,(.ref 3 0))],[(0,some [(jV n),(jV 1),(vi (-1)),(.d (x)),(vb fb)]),(1,some [(.refx 0 0 bb)]),(2,some (bx (jJ (qF u)))),(3,some (bx (jJ (qF v))))]⟩
 refine jB<|kx [(3,(.ref 4 0))] [(4,some (bx (jI (jW.mk qM qM))))] (zN (uB 4 uC uH)<|zZ) ?_
 refine jB<|kf [] [(0,some [(jV n),(jV 1),(vi (-1)),(.d (x)),(vb true)]),(4,some (bx (jI (kS (gw 0)))))] (zR (oLx eC)<|zE (kZ gX)<|zR (kO kF)<|zE (kZ gX)<|zR (kO kF)<|zSe (B2:=[(0,some [(jV n),(jV 1),(vi (-1)),(.d (x)),(vb fb)])]) (B2':=[(0,some [(jV n),(jV 1),(vi (-1)),(.d (x)),(vb true)])]) [0] [0] (f_div u.v (qX hu.1 (by decide)) v.v (qX hv.1 (by decide)) n (x) fb hz)<|zT (qD kF)<|zF) ?_
 refine jE ⟨zL (by kernel_rfl),gL (by kernel_rfl),.inl ⟨_,(kP (cs:=(bx (jI (kS (gw 0))))) (d:=(jI (kS (gw 0)))) rfl rfl kF rfl rfl .nil),?_⟩⟩
 rfl
theorem f_gD(i:Nat)(n:Nat)(x:jT)(fb:Bool)(bb:Nat)(u:JV)(hu:nY 1048576 n u)(v:JV)(hv:nY 1048576 n v)(w:R2)(hw:GL 2097152 w)(y z:jT)(hz:gP v.v.1 v.v.2=true)(hi:i<n):vO Tryz.prog 205 [(.ref 4 0),(jV i),(.ref 1 0),(.ref 2 0),(.ref 3 0)] [(0,some [(jV n),(jV 1),(vi (-1)),(.d (x)),(vb fb)]),(1,some [(.refx 0 0 bb)]),(2,some (bx (jJ (qF u)))),(3,some (bx (jJ (qF v)))),(4,some (bx (jI (kS w))++[(.d (y)),(.d (z))]))] (.d (jI (kS (gw 0)))) [(0,some [(jV n),(jV 1),(vi (-1)),(.d (x)),(vb true)]),(1,some [(.refx 0 0 bb)]),(2,some (bx (jJ (qF u)))),(3,some (bx (jJ (qF v)))),(4,some (bx (jI (kS w))++[(.d (y)),(.d (z))]))]:=by
 have hul:=hu.2.2
 have hvl:=hv.2.2
 refine nQ Tryz.func205 rfl cb205 rfl ?_
 show qK _ _ _ _ ⟨[(0,(.ref 4 0)),(1,(jV i)),(2,(.ref 1 0)),(3,(.ref 2 0)),(4,(.ref 3 0))],[(0,some [(jV n),(jV 1),(vi (-1)),(.d (x)),(vb fb)]),(1,some [(.refx 0 0 bb)]),(2,some (bx (jJ (qF u)))),(3,some (bx (jJ (qF v)))),(4,some (bx (jI (kS w))++[(.d (y)),(.d (z))]))]⟩
 refine jB<|kx [(7,(.ref 5 0))] [(5,some (bx (jI (jW.mk qM qM))))] (zN (uB 5 uC uH)<|zZ) ?_
 refine jB<|kd [] [(0,some [(jV n),(jV 1),(vi (-1)),(.d (x)),(vb true)]),(5,some (bx (jI (kS (gw 0)))))] mo (wR (oLx eC)<|wE (kZ nW)<|wR (qS bQ)<|wM<|wE (oXm gN kS i z2)<|wE (nA kF)<|wM<|wE oNc<|wE (kZ gX)<|wR (kO kF)<|wE (kZ nW)<|wR (qS bQ)<|wM<|wE (oXm gN kS i z2)<|wE (nA kF)<|wE (jZ (j_mul w (qX hw (by decide)) (v.g.getD i z2) (qX (vW hv.2.1 (by decide) i) (by decide))))<|wE (jZ (j_sub (u.g.getD i z2) (qX (vW hu.2.1 (by decide) i) (by decide)) (xC w (v.g.getD i z2)) (qX (nB (k:=3145728) hw (vW hv.2.1 (by decide) i) (by decide)) (by decide))))<|wE (kZ gX)<|wR (kO kF)<|wS [0] [] (.d (jI (kS (gw 0)))) [(.ref 0 0),(.d (jI (kS (uM (u.g.getD i z2) (xC w (v.g.getD i z2)))))),(.d (jI (kS v.v)))] [(0,some [(jV n),(jV 1),(vi (-1)),(.d (x)),(vb fb)])] [(0,some [(jV n),(jV 1),(vi (-1)),(.d (x)),(vb true)])] (f_div (uM (u.g.getD i z2) (xC w (v.g.getD i z2))) (qX (aH (k:=4194305) (vW hu.2.1 (by decide) i) (nB (k:=3145728) hw (vW hv.2.1 (by decide) i) (by decide)) (by decide)) (by decide)) v.v (qX hv.1 (by decide)) n (x) fb hz) (.cons rfl (by kernel_rfl) .nil) (.cons rfl (by kernel_rfl) .nil) (by repeat first | exact .nil | refine .hid rfl ?_ | refine .none ?_ | refine .dat ?_ | refine .map ?_ | refine .cells (by kernel_rfl) ?_) (by repeat first | exact .nil | refine .dat ?_ | refine .map ?_ | refine .cells (by kernel_rfl) ?_)<|wT (qD kF)<|wZ) ?_
 refine jE ⟨zL (by kernel_rfl),gL (by kernel_rfl),.inl ⟨_,(kP (cs:=(bx (jI (kS (gw 0))))) (d:=(jI (kS (gw 0)))) rfl rfl kF rfl rfl .nil),?_⟩⟩
 rfl
theorem f_round(n:Nat)(x:jT)(a:R2)(ha:GL 67108864 a):jQ Tryz.prog 243 [(.cptr 1000000 (jT.cells (mcA n x true)) 0),(jI (kS a))] (jI (kS a)):=by
 refine jG Tryz.func243 rfl cb243 rfl ?_
 show qK _ _ _ _ ⟨[(0,(.d (.cptr 1000000 (jT.cells (mcA n x true)) 0))),(1,(.d (jI (kS a))))],[]⟩
 refine jB<|kx [(3,(.ref 0 0)),(4,(.ref 1 0))] [(0,some (bx (jI (kS a)))),(1,some (bx (jI (jW.mk qM qM))))] (zN (vN 0)<|zN (uB 1 uC uH)<|zZ) ?_
 refine jB<|jB<|kx [(9,(vb true))] [] (zM<|zE oNd<|zE (oFc fo161_2)<|zE (yR hP)<|zE (xD true xT)<|zZ) ?_
 refine vP ?_
 refine jB<|kx [] [(1,some (bx (jI (kS a))))] (zR (kO kF)<|zT (qD kF)<|zZ) ?_
 refine jE ⟨_,(kP (cs:=(bx (jI (kS a)))) (d:=(jI (kS a))) rfl rfl kF rfl rfl .nil),?_⟩
 rfl
theorem f_nodeD(n:Nat)(L:List JV)(bb:Nat)(u:JV)(hu:nY 1048576 n u)(v:JV)(hv:nY 1048576 n v)(hn:n≤64)(hL:L.length≤1000)(hz:gP v.v.1 v.v.2=true):vO Tryz.prog 184 [(.ref 0 0),(.clo 203 [2,3,4]),(.clo 205 [2,3,4]),(.clo 206 [3,4,2])] [(0,some (xA n 1 L false)),(1,some (xH L)),(2,some [(.refx 0 0 bb)]),(3,some (bx (jJ (qF u)))),(4,some (bx (jJ (qF v))))] (.d (.tup [])) [(0,some (xA n 9 (L++[jk (gw 0) (fun _=>gw 0) n]) true)),(9,some (xH (L++[jk (gw 0) (fun _=>gw 0) n])))]:=by
 refine nQ Tryz.func184 rfl cb184 rfl ?_
 show qK _ _ _ _ ⟨[(0,(.ref 0 0)),(1,(.clo 203 [2,3,4])),(2,(.clo 205 [2,3,4])),(3,(.clo 206 [3,4,2]))],[(0,some (xA n 1 L false)),(1,some (xH L)),(2,some [(.refx 0 0 bb)]),(3,some (bx (jJ (qF u)))),(4,some (bx (jJ (qF v))))]⟩
 refine jB<|kx [(8,(.ref 5 0))] [(0,some (xA n 1 L true)),(2,some [(.refx 0 0 bb)]),(3,some (bx (jJ (qF u)))),(4,some (bx (jJ (qF v)))),(5,some (bx (.agg (jT.cells (jI (kS (gw 0)))++[(.val (.slice none 0 0)),(.val (.slice none 0 0))]))))] (zM<|zM<|zV [0,2,3,4] [] [0] (.d (jI (kS (gw 0)))) [(.ref 2 0),(.ref 3 0),(.ref 4 0)] [(0,some (xA n 1 L false)),(2,some [(.refx 0 0 bb)]),(3,some (bx (jJ (qF u)))),(4,some (bx (jJ (qF v))))] [(0,some (xA n 1 L true)),(2,some [(.refx 0 0 bb)]),(3,some (bx (jJ (qF u)))),(4,some (bx (jJ (qF v))))] (fun U=>f_vD n (.val (U 0 3)) false bb u hu v hv hz) (fun U=>(.cons rfl (by kernel_rfl) (.cons rfl (by kernel_rfl) (.cons rfl (eQ _ _ _ _) (.cons rfl (eQ _ _ _ _) .nil))))) (fun U=>(.cons rfl (by kernel_rfl) (.cons rfl (by kernel_rfl) (.cons rfl (eQ _ _ _ _) (.cons rfl (eQ _ _ _ _) .nil))))) (fun U=>(.cons (k:=0) (q:=1) (o:=0) (b:=bb) (j:=0) (by kernel_rfl) (by kernel_rfl) (by kernel_rfl) .nil)) (.cells (by kernel_rfl) (.cells (by kernel_rfl) (.dat (.dat .nil)))) (by repeat first | exact .nil | refine .hid rfl ?_ | refine .none ?_ | refine .dat ?_ | refine .map ?_ | refine .cells (by kernel_rfl) ?_) (hc:=callV_fn (ex:=[.ref 2 0,.ref 3 0,.ref 4 0]) (by exact rfl) (.clo (kk:=[2,3,4]) (by kernel_rfl) (by kernel_rfl)) (by kernel_rfl))<|zC (oCh [(0,(xA n 1 L true),(jT.cells (mcA n (.sl 1000000 10 (List.map jJ (List.map qF L))) true))),(1,(xH L),(qH (List.map jJ (List.map qF L))))] [(.ref 0 0),(.d (jI (kS (gw 0))))] (f_round n (.sl 1000000 10 (List.map jJ (List.map qF L))) (gw 0) (qX (gl_w (z:=0) (by omega) (by omega)) (by decide))) (.cons (.r (.head _)) (.cons .d .nil)) (.cons (.cons .d (.cons .d (.cons .d (.cons (fU (F:=jJ) (L:=(List.map qF L)) (.head _) (fun _=>rfl) rfl) (.cons .d .nil))))) (.cons (.all (by exact rfl)) .nil)) (xF (by decide) _) (ex:=[]))<|zE (bB pl95 ze95 zn95)<|zH (uB 5 ze95 zo95)<|zT (qD eT)<|zZ) ?_
 refine jB<|jB<|kx [(22,(vb true))] [] (zM<|zE oNc<|zE (kZ fo161_1)<|zR (qS hP)<|zE (xD true mT)<|zZ) ?_
 refine vP ?_
 refine jB<|pwp_own 5 8 6 61 8 (cs:=(bx (.agg (jT.cells (jI (kS (gw 0)))++[(.val (.slice none 0 0)),(.val (.slice none 0 0))])))) (h:=?_)
 refine kW (wk (l:=[(0,(.ref 0 0)),(1,(.clo 203 [2,3,4])),(2,(.clo 205 [2,3,4])),(3,(.clo 206 [3,4,2])),(8,(.ref 5 0)),(22,(vb true))]) (b:=[(0,some (xA n 1 L true)),(1,some (xH L)),(2,some [(.refx 0 0 bb)]),(3,some (bx (jJ (qF u)))),(4,some (bx (jJ (qF v)))),(5,some (bx (jI (kS (gw 0)))++[(.own 6 61 8 0),(.d (.val (.slice none 0 0)))])),(6,some (cC jI []))])) ?_
 refine pwp_own 5 9 7 86 1 (cs:=(bx (jI (kS (gw 0)))++[(.own 6 61 8 0),(.d (.val (.slice none 0 0)))])) (h:=?_)
 refine kW (wk (l:=[(0,(.ref 0 0)),(1,(.clo 203 [2,3,4])),(2,(.clo 205 [2,3,4])),(3,(.clo 206 [3,4,2])),(8,(.ref 5 0)),(22,(vb true))]) (b:=[(0,some (xA n 1 L true)),(1,some (xH L)),(2,some [(.refx 0 0 bb)]),(3,some (bx (jJ (qF u)))),(4,some (bx (jJ (qF v)))),(5,some (bx (jI (kS (gw 0)))++[(.own 6 61 8 0),(.own 7 86 1 0)])),(6,some (cC jI [])),(7,some (bm uZ []))])) ?_
 refine kx [(26,(jV n)),(27,(jV 0))] [] (zM<|zE oNc<|zE (kZ fo161_0)<|zR (qS hP)<|zM<|zZ) ?_
 refine jH<|kL (α:=Nat × List jW) (fun (i,gl)=>⟨[(0,(.ref 0 0)),(1,(.clo 203 [2,3,4])),(2,(.clo 205 [2,3,4])),(3,(.clo 206 [3,4,2])),(8,(.ref 5 0)),(26,(jV n)),(27,(jV i))],[(0,some (xA n 1 L true)),(1,some (xH L)),(2,some [(.refx 0 0 bb)]),(3,some (bx (jJ (qF u)))),(4,some (bx (jJ (qF v)))),(5,some (bx (jI (kS (gw 0)))++[(.own 6 61 8 gl.length),(.own 7 86 1 0)])),(6,some (cC jI gl)),(7,some (bm uZ []))]⟩) (fun (i,gl)=>i≤n∧gl=List.map kS (List.map (fun (_:Nat)=>gw 0) (List.range i))) (fun (i,gl)=>n-i) (0,[]) wk ⟨Nat.zero_le _,rfl⟩ ?_
 rintro ⟨i,gl⟩ ⟨hi,hg⟩
 have hgl:gl.length=i:=jk_len (G:=(fun (_:Nat)=>gw 0)) hg
 refine jB<|kx [(28,(vb (decide (((i:Nat):Int)<((n:Nat):Int)))))] [] (zE xT<|zZ) ?_
 refine jB<|jF rfl (fun h1=>?_) (fun h1=>?_)
 ·replace h1:=vI h1
  refine jD<|jB<|jH<|jB<|kx [(9,(jV i))] [] (zM<|zM<|zZ) ?_
  refine kd [] [(0,some (xA n 1 L true)),(2,some [(.refx 0 0 bb)]),(3,some (bx (jJ (qF u)))),(4,some (bx (jJ (qF v)))),(5,some (bx (jI (kS (gw 0)))++[(.own 8 61 8 ((gl++[(kS (gw 0))]).length)),(.own 7 86 1 0)])),(8,some (cC jI (gl++[(kS (gw 0))]))),(6,none)] mo (wE (kZ nW)<|wR (qS bQ)<|wM<|wM<|wM<|wV [0,2,3,4,5] [] [0] [] (.d (jI (kS (gw 0)))) [(.ref 5 0),(jV i),(.ref 2 0),(.ref 3 0),(.ref 4 0)] [(0,some (xA n 1 L true)),(2,some [(.refx 0 0 bb)]),(3,some (bx (jJ (qF u)))),(4,some (bx (jJ (qF v)))),(5,some (bx (jI (kS (gw 0)))++[(.own 6 61 8 gl.length),(.own 7 86 1 0)]))] [(0,some (xA n 1 L true)),(2,some [(.refx 0 0 bb)]),(3,some (bx (jJ (qF u)))),(4,some (bx (jJ (qF v)))),(5,some (bx (jI (kS (gw 0)))++[(.own 6 61 8 gl.length),(.own 7 86 1 0)]))] (fun U=>f_gD i n (.val (U 0 3)) true bb u hu v hv (gw 0) (qX (gl_w (z:=0) (by omega) (by omega)) (by decide)) (.val (U 5 8)) (.val (U 5 9)) hz (by omega)) (fun U=>(.cons rfl (by kernel_rfl) (.cons rfl (by kernel_rfl) (.cons rfl (eQ _ _ _ _) (.cons rfl (eQ _ _ _ _) (.cons rfl (by kernel_rfl) .nil)))))) (fun U=>(.cons rfl (by kernel_rfl) (.cons rfl (by kernel_rfl) (.cons rfl (eQ _ _ _ _) (.cons rfl (eQ _ _ _ _) (.cons rfl (by kernel_rfl) .nil)))))) (fun U=>(.cons (k:=0) (q:=1) (o:=0) (b:=bb) (j:=0) (by kernel_rfl) (by kernel_rfl) (by kernel_rfl) .nil)) (.cells (by kernel_rfl) (.cells (by kernel_rfl) (.dat (.dat (.cells (by kernel_rfl) .nil))))) (by repeat first | exact .nil | refine .hid rfl ?_ | refine .none ?_ | refine .dat ?_ | refine .map ?_ | refine .cells (by kernel_rfl) ?_) (by repeat first | exact .nil | refine .dat ?_ | refine .map ?_ | refine .cells (by kernel_rfl) ?_) (hc:=callV_fn (ex:=[.ref 2 0,.ref 3 0,.ref 4 0]) (by exact rfl) (.clo (kk:=[2,3,4]) (by kernel_rfl) (by kernel_rfl)) (by kernel_rfl))<|wC (oCh [(0,(xA n 1 L true),(jT.cells (mcA n (.sl 1000000 10 (List.map jJ (List.map qF L))) true))),(1,(xH L),(qH (List.map jJ (List.map qF L))))] [(.ref 0 0),(.d (jI (kS (gw 0))))] (f_round n (.sl 1000000 10 (List.map jJ (List.map qF L))) (gw 0) (qX (gl_w (z:=0) (by omega) (by omega)) (by decide))) (.cons (.r (.head _)) (.cons .d .nil)) (.cons (.cons .d (.cons .d (.cons .d (.cons (fU (F:=jJ) (L:=(List.map qF L)) (.head _) (fun _=>rfl) rfl) (.cons .d .nil))))) (.cons (.all (by exact rfl)) .nil)) (xF (by decide) _) (ex:=[]))<|wE (dG gN uC uH)<|wAS (k:=6) 8 jI gl [(kS (gw 0))] rfl gN uC by61<|wE (kZ nW)<|wT (oSx bQ)<|wZ) ?_
  refine kW (wk (l:=[(0,(.ref 0 0)),(1,(.clo 203 [2,3,4])),(2,(.clo 205 [2,3,4])),(3,(.clo 206 [3,4,2])),(8,(.ref 5 0)),(26,(jV n)),(27,(jV i))]) (b:=[(0,some (xA n 1 L true)),(1,some (xH L)),(2,some [(.refx 0 0 bb)]),(3,some (bx (jJ (qF u)))),(4,some (bx (jJ (qF v)))),(5,some (bx (jI (kS (gw 0)))++[(.own 8 61 8 ((gl++[(kS (gw 0))]).length)),(.own 7 86 1 0)])),(7,some (bm uZ [])),(8,some (cC jI (gl++[(kS (gw 0))])))])) ?_
  refine kW (sim_ren2 (S':=[(0,(.ref 0 0)),(1,(.clo 203 [2,3,4])),(2,(.clo 205 [2,3,4])),(3,(.clo 206 [3,4,2])),(8,(.ref 5 0)),(26,(jV n)),(27,(jV i))]) (B':=[(0,some (xA n 1 L true)),(1,some (xH L)),(2,some [(.refx 0 0 bb)]),(3,some (bx (jJ (qF u)))),(4,some (bx (jJ (qF v)))),(5,some (bx (jI (kS (gw 0)))++[(.own 6 61 8 ((gl++[(kS (gw 0))]).length)),(.own 7 86 1 0)])),(6,some (cC jI (gl++[(kS (gw 0))]))),(7,some (bm uZ []))]) 6 8 5) ?_
  refine kx [(27,(jV (i+1)))] [] (zE (vY (i+1))<|zM<|zZ) ?_
  exact ⟨(i+1,gl++[kS (gw 0)]),wk,⟨by omega,jk_push (G:=(fun (_:Nat)=>gw 0)) hg⟩,(by first|omega|(dsimp only;omega))⟩
 ·replace h1:=vM h1
  refine kJ<|jB<|jB<|kx [(45,(vb false))] [] (zM<|zE oNc<|zE (kZ fo161_1)<|zR (qS hP)<|zE (xD false mT)<|zZ) ?_
  refine kY ?_
  refine jD<|kW (publishAt (j:=5) (k:=6) (pre:=(bx (jI (kS (gw 0))))) (post:=[(.own 7 86 1 0)]) (es:=List.map jI gl) rfl (by decide) rfl (nD _ _ (fun _=>rfl)) (uT _ _ rfl) (mL jI gl (fun _=>rfl) rfl)) ?_
  refine kW (wk (l:=[(0,(.ref 0 0)),(1,(.clo 203 [2,3,4])),(2,(.clo 205 [2,3,4])),(3,(.clo 206 [3,4,2])),(8,(.ref 5 0)),(45,(vb false))]) (b:=[(0,some (xA n 1 L true)),(1,some (xH L)),(2,some [(.refx 0 0 bb)]),(3,some (bx (jJ (qF u)))),(4,some (bx (jJ (qF v)))),(5,some (bx (jI (kS (gw 0)))++[(vl 61 8 jI gl),(.own 7 86 1 0)])),(7,some (bm uZ []))])) ?_
  refine kW (publishAt (j:=5) (k:=7) (pre:=(bx (jI (kS (gw 0)))++[(vl 61 8 jI gl)])) (post:=[]) (es:=List.map uZ []) rfl (by decide) rfl (uS _ _ (fun _=>rfl)) (uT _ _ rfl) (vS _ _ (fun _=>rfl) rfl)) ?_
  refine kW (wk (l:=[(0,(.ref 0 0)),(1,(.clo 203 [2,3,4])),(2,(.clo 205 [2,3,4])),(3,(.clo 206 [3,4,2])),(8,(.ref 5 0)),(45,(vb false))]) (b:=[(0,some (xA n 1 L true)),(1,some (xH L)),(2,some [(.refx 0 0 bb)]),(3,some (bx (jJ (qF u)))),(4,some (bx (jJ (qF v)))),(5,some (bx (jJ (nE.mk (kS (gw 0)) gl []))))])) ?_
  refine kd [] [(0,some [(jV n),(jV 1),(vi (-1)),(.own 9 95 10 (((List.map qF L)++[(nE.mk (kS (gw 0)) gl [])]).length)),(vb true)]),(9,some (cC jJ ((List.map qF L)++[(nE.mk (kS (gw 0)) gl [])]))),(1,none)] mo (wM<|wM<|wE oNc<|wE (kZ mZ)<|wR (qS sh143)<|wR (kO eT)<|wE (dG el143 ze95 zo95)<|wAS (k:=1) 9 jJ (List.map qF L) [(nE.mk (kS (gw 0)) gl [])] rfl el143 ze95 by95<|wE oNc<|wE (kZ mZ)<|wT (oSx sh143)<|wZ) ?_
  have hJ:List.map qF (L++[jk (gw 0) (fun _=>gw 0) n])=List.map qF L++[nE.mk (kS (gw 0)) gl []]:=by rw[List.map_append,hg,show i=n by omega];rfl
  unfold xA xH
  rw[hJ]
  refine ⟨zL (by kernel_rfl),gL (by kernel_rfl),.inl ⟨_,.nil,?_⟩⟩
  rfl
theorem run_p{bv:List R2}{t:List kN}(hbx:∀ x∈bv,GL 1048576 x)(ht:xK 1048576 t)(h:fH bv t):fS bv t:=⟨h,fun k hk=>by
 have h0:=fF h.c0
 have hl:=nU bv t k
 exact e_stepN0 _ bv hbx _ (by omega) (by omega) (h.upto (by omega)) (h.nd ht hk)⟩
end Go.Proofs.YtnajallgoaiahaaGreatDoor
