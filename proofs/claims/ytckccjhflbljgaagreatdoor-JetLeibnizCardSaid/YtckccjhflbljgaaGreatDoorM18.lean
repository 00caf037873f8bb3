/- Part 18 of a proof: rules, plain facts, and functions walked. -/
import Derived.Test.YtckccjhflbljgaaGreatDoorM17
import Derived.MapKept
set_option linter.all false
namespace Go.Fid
open Go.RowKit (Below)
def rn(ks:List Nat):SV->Option SV
 |.ref k o=>(ks[k]?).map fun j=>.ref j o
 |.own k t s n=>(ks[k]?).map fun j=>.own j t s n
 |.clo f l=>(l.mapM fun k=>ks[k]?).map fun l'=>.clo f l'
 |.view k o n=>(ks[k]?).map fun j=>.view j o n
 |.pr k t s n x=>(ks[k]?).map fun j=>.pr j t s n x
 |.refx k o b=>(ks[k]?).map fun j=>.refx j o b
 |.mpx k b=>(ks[k]?).map fun j=>.mpx j b
 |.bnd f k o=>(ks[k]?).map fun j=>.bnd f j o
 |.ownx k t s n u=>(ks[k]?).map fun j=>.ownx j t s n u
 |.mp k=>(ks[k]?).map fun j=>.mp j
 |x=>some x
def rnL(ks:List Nat):List SV->Option (List SV)
 |[]=>some []
 |x::l=>match rn ks x,rnL ks l with
  |some y,some l'=>some (y::l')
  |_,_=>none
theorem vA{α:Type}(ks:List Nat)(G:α->jS):∀ L:List α,rnL ks (L.map fun g=>SV.d (G g))=some (L.map fun g=>SV.d (G g))
 |[]=>rfl
 |x::L=>by rw[List.map_cons,rnL,vA ks G L];rfl
theorem vD(ks:List Nat):∀ ds:List jS,rnL ks (ds.map SV.d)=some (ds.map SV.d)
 |[]=>rfl
 |x::L=>by rw[List.map_cons,rnL,vD ks L];rfl
theorem rnL_get{ks:List Nat}:∀ {c c2:List SV},rnL ks c=some c2->c2.length=c.length/\∀ i:Nat,(∀ x,c[i]?=some x->∃ y,c2[i]?=some y/\rn ks x=some y)/\∀ y,c2[i]?=some y->∃ x,c[i]?=some x/\rn ks x=some y
 |[],c2,h=>by
  injection h with h;subst h
  exact ⟨rfl,fun i=>⟨fun x hx=>by simp at hx,fun y hy=>by simp at hy⟩⟩
 |x::l,c2,h=>by
  unfold rnL at h
  split at h
  ·rename_i y l' hy hl
   injection h with h;subst h
   obtain ⟨h1,h2⟩:=rnL_get hl
   refine ⟨by simp [h1],fun i=>?_⟩
   cases i with
   |zero=>exact ⟨fun z hz=>by simp at hz;subst hz;exact ⟨y,rfl,hy⟩,fun z hz=>by simp at hz;subst hz;exact ⟨x,rfl,hy⟩⟩
   |succ i=>exact ⟨fun z hz=>(h2 i).1 z (by simpa using hz),fun z hz=>(h2 i).2 z (by simpa using hz)⟩
  ·cases h
theorem mapM_get{ks:List Nat}:∀ {l l':List Nat},(l.mapM fun k=>ks[k]?)=some l'->l'.length=l.length/\∀ (i k:Nat),l[i]?=some k->∃ j,l'[i]?=some j/\ks[k]?=some j
 |[],l',h=>by
  simp at h;subst h
  exact ⟨rfl,fun i k hk=>by simp at hk⟩
 |k::l,l',h=>by
  rw[List.mapM_cons] at h
  cases h1:ks[k]? with
  |none=>rw[h1] at h;cases h
  |some j=>
   cases h2:l.mapM (fun k=>ks[k]?) with
   |none=>rw[h1,h2] at h;cases h
   |some m=>
    rw[h1,h2] at h
    injection h with h;subst h
    obtain ⟨g1,g2⟩:=mapM_get h2
    refine ⟨by simp [g1],fun i q hq=>?_⟩
    cases i with
    |zero=>simp at hq;subst hq;exact ⟨j,rfl,h1⟩
    |succ i=>exact g2 i q (by simpa using hq)
theorem rep_rn{w:World}{D:kQ}{β γ:kU}{ks:List Nat}{v:Value}{x y:SV}(h:rn ks x=some y)(hg:∀ k j,ks[k]?=some j->γ k=β j):kX w D γ v x↔kX w D β v y:=by
 cases x with
 |d x=>injection h with h;subst h;exact Iff.rfl
 |emp=>injection h with h;subst h;exact Iff.rfl
 |junk=>injection h with h;subst h;exact Iff.rfl
 |mo ob=>injection h with h;subst h;exact Iff.rfl
 |clo f l=>
  unfold rn at h
  rw[Option.map_eq_some_iff] at h
  obtain ⟨l',hl,rfl⟩:=h
  obtain ⟨g1,g2⟩:=mapM_get hl
  constructor
  ·rintro ⟨vs,h1,h2,h3⟩
   refine ⟨vs,h1,h2.trans g1.symm,fun i j hj=>?_⟩
   have hlt:i<l.length:=by rw[<- g1];exact (List.getElem?_eq_some_iff.1 hj).1
   obtain ⟨q,e1,e2⟩:=g2 i _ (List.getElem?_eq_getElem hlt)
   rw[hj] at e1
   injection e1 with e1;subst e1
   rw[<- hg _ _ e2]
   exact h3 i _ (List.getElem?_eq_getElem hlt)
  ·rintro ⟨vs,h1,h2,h3⟩
   refine ⟨vs,h1,h2.trans g1,fun i k hk=>?_⟩
   obtain ⟨q,e1,e2⟩:=g2 i k hk
   rw[hg _ _ e2]
   exact h3 i q e1
 |ref k o | own k t s n | view k o n | pr k t s n x | refx k o b | mpx k b | bnd f k o | ownx k t s n u | mp k=>
  unfold rn at h
  rw[Option.map_eq_some_iff] at h
  obtain ⟨j,hj,rfl⟩:=h
  simp only[kX,hg k j hj]
theorem rn_mo{ks:List Nat}{x:SV}{ob:Obj}(h:rn ks x=some (.mo ob)):x=.mo ob:=by
 cases x with
 |mo o=>injection h with h
 |d x=>cases h
 |emp=>cases h
 |junk=>cases h
 |ref k o | own k t s n | view k o n | pr k t s n x | refx k o b | mpx k b | bnd f k o | ownx k t s n u | mp k | clo f l=>
  unfold rn at h
  rw[Option.map_eq_some_iff] at h
  obtain ⟨_,_,h⟩:=h
  cases h
theorem rnL_mo{ks:List Nat}{c:List SV}{ob:Obj}(h:rnL ks c=some [.mo ob]):c=[.mo ob]:=by
 obtain ⟨h1,h2⟩:=rnL_get h
 match c,h1,h2 with
 |[x],_,h2=>
  obtain ⟨x',e1,e2⟩:=(h2 0).2 _ rfl
  simp at e1;subst e1
  rw[rn_mo e2]
theorem blk_rn{w:World}{D:kQ}{β γ:kU}{ks:List Nat}{k j:Nat}{c c2:List SV}(h:rnL ks c=some c2)(hk:ks[k]?=some j)(hg:∀ k j,ks[k]?=some j->γ k=β j):uD w D γ k c↔uD w D β j c2:=by
 obtain ⟨h1,h2⟩:=rnL_get h
 have e:=hg k j hk
 constructor
 ·rintro ((⟨g1,g2⟩ | ⟨b,ob,g1,g2,g3,g4,g5⟩) | ⟨b,vs,T,g1,g2,g3,g4,g5⟩)
  ·subst g2
   exact .inl (.inl ⟨e.symm.trans g1,List.eq_nil_of_length_eq_zero (by simpa using h1)⟩)
  ·subst g4
   injection h with h;subst h
   exact .inl (.inr ⟨b,ob,e.symm.trans g1,g2,g3,rfl,g5⟩)
  ·refine .inr ⟨b,vs,T,e.symm.trans g1,g2,by omega,fun i y hy=>?_,g5⟩
   obtain ⟨x,e1,e2⟩:=(h2 i).2 y hy
   obtain ⟨u,f1,f2,f3⟩:=g4 i x e1
   exact ⟨u,f1,f2,(rep_rn e2 hg).1 f3⟩
 ·rintro ((⟨g1,g2⟩ | ⟨b,ob,g1,g2,g3,g4,g5⟩) | ⟨b,vs,T,g1,g2,g3,g4,g5⟩)
  ·subst g2
   exact .inl (.inl ⟨e.trans g1,List.eq_nil_of_length_eq_zero (by simpa using h1.symm)⟩)
  ·subst g4
   exact .inl (.inr ⟨b,ob,e.trans g1,g2,g3,rnL_mo h,g5⟩)
  ·refine .inr ⟨b,vs,T,e.trans g1,g2,by omega,fun i x hx=>?_,g5⟩
   obtain ⟨y,e1,e2⟩:=(h2 i).1 x hx
   obtain ⟨u,f1,f2,f3⟩:=g4 i y e1
   exact ⟨u,f1,f2,(rep_rn e2 hg).2 f3⟩
inductive RBi (ks:List Nat):BS->BS->Prop
 |nil:RBi ks [] []
 |cons {k j:Nat} {c c2:List SV} {B B2:BS} (hk:ks[k]?=some j) (hc:rnL ks c=some c2) (h:RBi ks B B2):RBi ks ((k,some c)::B) ((j,some c2)::B2)
def ndI:List Nat->Bool
 |[]=>true
 |k::ks=>!(mmB ks k)&&ndI ks
theorem ndI_inj:∀ {ks:List Nat},ndI ks=true->∀ {k q j:Nat},ks[k]?=some j->ks[q]?=some j->k=q
 |[],_,k,q,j,h1,_=>by simp at h1
 |p::ks,h,k,q,j,h1,h2=>by
  simp only[ndI,Bool.and_eq_true,Bool.not_eq_true'] at h
  have hno:∀ i:Nat,ks[i]?≠some p:=fun i e=>by
   have:=nT.2 (List.mem_of_getElem? e);rw[h.1] at this;cases this
  cases k with
  |zero=>
   cases q with
   |zero=>rfl
   |succ q=>simp at h1 h2;subst h1;exact absurd h2 (hno q)
  |succ k=>
   cases q with
   |zero=>simp at h1 h2;subst h2;exact absurd h1 (hno k)
   |succ q=>simp at h1 h2;rw[ndI_inj h.2 h1 h2]
theorem RBi.to{ks:List Nat}(hn:ndI ks=true){B B2:BS}(h:RBi ks B B2):∀ {k:Nat} {c:List SV},kA B k=some c->∃ j c2,ks[k]?=some j/\kA B2 j=some c2/\rnL ks c=some c2:=by
 induction h with
 |nil=>intro k c hk;simp [kA] at hk
 |@cons q j c1 c2 B B2 hk hc h ih=>
  intro k c hg
  rw[jI] at hg
  split at hg
  ·rename_i e;subst e
   injection hg with hg;subst hg
   exact ⟨j,c2,hk,by rw[jI,if_pos rfl],hc⟩
  ·rename_i hne
   obtain ⟨j',d,h1,h2,h3⟩:=ih hg
   exact ⟨j',d,h1,by rw[jI,if_neg (fun e=>by subst e;exact hne (ndI_inj hn hk h1)),h2],h3⟩
theorem RBi.back{ks:List Nat}(hn:ndI ks=true){B B2:BS}(h:RBi ks B B2):∀ {j:Nat} {c2:List SV},kA B2 j=some c2->∃ k c,ks[k]?=some j/\kA B k=some c/\rnL ks c=some c2:=by
 induction h with
 |nil=>intro k c hk;simp [kA] at hk
 |@cons q j c1 c2 B B2 hk hc h ih=>
  intro i d hg
  rw[jI] at hg
  split at hg
  ·rename_i e;subst e
   injection hg with hg;subst hg
   exact ⟨q,c1,hk,by rw[jI,if_pos rfl],hc⟩
  ·rename_i hne
   obtain ⟨k,c,h1,h2,h3⟩:=ih hg
   exact ⟨k,c,h1,by rw[jI,if_neg (fun e=>by subst e;rw[hk] at h1;injection h1 with h1;exact hne h1),h2],h3⟩
theorem RBi.some{ks:List Nat}{B B2:BS}(h:RBi ks B B2):∀ p∈B2,∃ c,p.2=.some c:=by
 induction h with
 |nil=>intro p hp;cases hp
 |cons hk hc h ih=>
  intro p hp
  rcases List.mem_cons.1 hp with e | e
  ·subst e;exact ⟨_,rfl⟩
  ·exact ih p e
def pinI(ks:List Nat)(j:Nat):SV->Bool
 |.ref k _=>decide (ks[k]?=some j)
 |.clo _ l=>l.any fun k=>decide (ks[k]?=some j)&&!Nat.beq k 9
 |_=>false
inductive FixI (ks:List Nat) (B B':BS):List Nat->Prop
 |nil:FixI ks B B' []
 |cons {k q o b j:Nat} {G:List Nat} (hj:ks[k]?=some j) (h1:kA B q=some [.refx k o b]) (h2:kA B' q=some [.refx k o b]) (h:FixI ks B B' G):FixI ks B B' (j::G)
theorem FixI.at{ks:List Nat}{B B':BS}{G:List Nat}(h:FixI ks B B' G){j:Nat}(hj:j∈G):∃ k q o b,ks[k]?=some j/\kA B q=some [.refx k o b]/\kA B' q=some [.refx k o b]:=by
 induction h with
 |nil=>cases hj
 |cons e h1 h2 h ih=>
  rcases List.mem_cons.1 hj with rfl | hj
  ·exact ⟨_,_,_,_,e,h1,h2⟩
  ·exact ih hj
section
variable {P:Program}
theorem effI{xs:List SV}{B B2:BS}{r x:SV}{B' B2':BS}{ks mv G:List Nat}{w w':World}{D D':kQ}{β β':kU}{v:Value}(hn:ndI ks=true)(hB:RBi ks B B2)(hB':RBi ks B' B2')(hr:rn ks r=some x)
  (hG:FixI ks B B' G) (hmv:(ks.all fun j=>mmB mv j||(xs.any (pinI ks j))||mmB G j)=true) (γ:kU) (hγ:∀ k j,ks[k]?=some j->γ k=β j) (hp:SPost w D γ xs B r B' v w' D' β') (hmem:Mem w D γ B):∃ βn,SEff w D β B2 B2' mv v x w' D' βn:=by
 obtain ⟨βn,hβ1,hβ2⟩:∃ βn:kU,(∀ k j,ks[k]?=some j->β' k=βn j)/\∀ j,j∉ks->βn j=β j:=by
  classical
  refine ⟨fun j=>if h:∃ k,ks[k]?=some j then β' h.choose else β j,fun k j hk=>?_,fun j h1=>?_⟩
  ·have hx:∃ q,ks[q]?=some j:=⟨k,hk⟩
   show β' k=(if h:∃ q,ks[q]?=some j then β' h.choose else β j)
   rw[dif_pos hx,ndI_inj hn hx.choose_spec hk]
  ·show (if h:∃ q,ks[q]?=some j then β' h.choose else β j)=β j
   rw[dif_neg]
   rintro ⟨k,hk⟩
   exact h1 (List.mem_of_getElem? hk)
 have hmine:∀ b,yW γ B b->yW β B2 b:=fun b ⟨k,c,h1,h2⟩=>by
  obtain ⟨j,c2,e1,e2,_⟩:=hB.to hn h1
  exact ⟨j,c2,e2,(hγ _ _ e1).symm.trans h2⟩
 refine ⟨βn,⟨⟨hp.below.os,hp.below.tape,hp.below.output,hp.below.size,fun k hk hm=>hp.below.block k hk fun h=>hm (hmine k h),hp.below.shape⟩,hp.keep,fun k o hk ho hmp=>hp.oth k o hk ho fun e hq=>hmp e (hmine k hq),hp.up,fun t g o hd=>?_,hp.dok,⟨fun j c hj=>?_,fun j1 j2 c1 c2 q1 q2 b e1 e2=>?_⟩,fun j c hj b hb=>?_,fun j hj=>?_,(rep_rn hr hβ1).1 hp.res⟩⟩
 ·rcases hp.new t g o hd with h | h | h
  ·exact .inl h
  ·exact .inr (.inl h)
  ·exact .inr (.inr (hmine g h))
 ·obtain ⟨k,c0,e1,e2,e3⟩:=hB'.back hn hj
  exact (blk_rn e3 e1 hβ1).1 (hp.mem.ok k c0 e2)
 ·obtain ⟨k1,d1,f1,f2,_⟩:=hB'.back hn q1
  obtain ⟨k2,d2,g1,g2,_⟩:=hB'.back hn q2
  rw[<- hβ1 _ _ f1] at e1
  rw[<- hβ1 _ _ g1] at e2
  have:=hp.mem.inj k1 k2 d1 d2 f2 g2 b e1 e2
  subst this
  rw[f1] at g1
  injection g1
 ·obtain ⟨k,d,f1,f2,_⟩:=hB'.back hn hj
  rw[<- hβ1 _ _ f1] at hb
  rcases hp.high k d f2 b hb with h | h
  ·exact .inl h
  ·exact .inr (hmine b h)
 ·by_cases hjk:j∈ks
  ·have h1:=List.all_eq_true.1 hmv j hjk
   rw[Bool.or_eq_true,Bool.or_eq_true] at h1
   rcases h1 with (h1 | h1) | h1
   ·exact absurd (nT.1 h1) hj
   ·obtain ⟨y,hy,e⟩:=List.any_eq_true.1 h1
    obtain ⟨i,hi⟩:=List.getElem?_of_mem hy
    cases y with
    |ref q o=>
     have e:=of_decide_eq_true e
     rw[<- hβ1 _ _ e,<- hγ _ _ e]
     exact hp.same i _ hi q (by simp [SV.pins])
    |clo g js=>
     obtain ⟨q,hq,e⟩:=List.any_eq_true.1 e
     rw[Bool.and_eq_true] at e
     have e1:=of_decide_eq_true e.1
     rw[<- hβ1 _ _ e1,<- hγ _ _ e1]
     exact hp.same i _ hi q (List.any_eq_true.2 ⟨q,hq,by rw[e.2];simp⟩)
    |_=>cases e
   ·obtain ⟨k,q,o,b,e,g1,g2⟩:=hG.at (nT.1 h1)
    have e1:=refx_at hmem g1
    have e2:=refx_at hp.mem g2
    rw[<- hβ1 _ _ e,<- hγ _ _ e,e2]
    exact e1.symm
  ·exact hβ2 j hjk
def CallV(P:Program)(o:Oper)(S:Nat->SV)(f:FuncId)(ys:List SV):Prop :=
 callB P f=true->∀ (a:Act) (w:World) (D:kQ) (β:kU),(∀ q∈o.op.operands,kX w D β (a.eval q) (ev S q)) ->
  ∃ us:List Value,(execOp a.eval o).run P w=.ok (.enter f us.toArray) w/\us.length=ys.length/\∀ (i:Nat) v x,us[i]?=some v->ys[i]?=some x->kX w D β v x
theorem callV_fn{o:Oper}{S:Nat->SV}{y:Operand}{args:List Operand}{ats:Array TypeId}{ex:List SV}{f:FuncId}{ys:List SV}(ho:o.op=.call { callee:=.value y,args:=args.toArray,argTypes:=ats })(hy:FnV S y f ex)(hx:args.map (ev S)++ex=ys):CallV P o S f ys:=fun hm a w D β hop=>by
 obtain ⟨us,hrun,hul,hur⟩:=fnv_run hop ho hm hy
 refine ⟨args.map a.eval++us,hrun,by rw[<- hx];simp [hul],fun i v z hv e1=>?_⟩
 rw[<- hx] at e1
 by_cases hlt:i<args.length
 ·rw[List.getElem?_append_left (by simpa using hlt)] at hv e1
  rw[List.getElem?_map,Option.map_eq_some_iff] at hv
  obtain ⟨p,hqi,rfl⟩:=hv
  have hm:=hop p (by simp [ho,Op.operands,Call.operands,List.mem_of_getElem? hqi])
  rw[List.getElem?_map,hqi,Option.map_some,Option.some.injEq] at e1
  rw[<- e1];exact hm
 ·rw[List.getElem?_append_right (by simpa using hlt)] at hv e1
  simp only[List.length_map] at hv e1
  exact hur _ v _ hv e1
theorem sok_of{o:Oper}{S:Nat->SV}{f:FuncId}{xs ys:List SV}{B B2:BS}{r x:SV}{B' B2':BS}{ks mv G:List Nat}
  (hf:xG P f xs B r B') (hc:CallV P o S f ys) (hxs:rnL ks xs=some ys) (hn:ndI ks=true)
  (hB:RBi ks B B2) (hB':RBi ks B' B2') (hr:rn ks r=some x) (hG:FixI ks B B' G) (hmv:(ks.all fun j=>mmB mv j||(xs.any (pinI ks j))||mmB G j)=true):SOk P o S B2 B2' mv x:=fun a w D β Q hop hmem2 hD=>by
 obtain ⟨us,hrun,hul,hur⟩:=hc hf.may a w D β hop
 obtain ⟨γ,hγ⟩:∃ γ:kU,∀ k j,ks[k]?=some j->γ k=β j:=⟨fun k=>(ks[k]?).bind β,fun k j hk=>by show (ks[k]?).bind β=β j;rw[hk];rfl⟩
 have hmem:Mem w D γ B:=⟨fun k c hk=>by
  obtain ⟨j,c2,e1,e2,e3⟩:=hB.to hn hk
  exact (blk_rn e3 e1 hγ).2 (hmem2.ok j c2 e2),fun k1 k2 c1 c2 q1 q2 b e1 e2=>by
  obtain ⟨j1,d1,f1,f2,_⟩:=hB.to hn q1
  obtain ⟨j2,d2,g1,g2,_⟩:=hB.to hn q2
  rw[hγ _ _ f1] at e1
  rw[hγ _ _ g1] at e2
  have:=hmem2.inj j1 j2 d1 d2 f2 g2 b e1 e2
  subst this
  exact ndI_inj hn f1 g1⟩
 obtain ⟨hl1,hl2⟩:=rnL_get hxs
 have qK:us.length=xs.length:=hul.trans hl1
 have hrep:∀ (i:Nat) v z,us[i]?=some v->xs[i]?=some z->kX w D γ v z:=fun i v z hv hz=>by
  obtain ⟨y',e1,e2⟩:=(hl2 i).1 z hz
  exact (rep_rn e2 hγ).2 (hur i v y' hv e1)
 refine mX hrun ((hf.run w D γ _ hD hmem qK hrep).mono fun e w' h=>?_)
 obtain ⟨v,D',β',he,hp⟩:=h
 obtain ⟨βn,hE⟩:=effI hn hB hB' hr hG hmv γ hγ hp hmem
 exact ⟨v,he,v,D',βn,rfl,hE⟩
end
inductive FrM (ks mv:List Nat):BS->Prop
 |nil:FrM ks mv []
 |hid {k:Nat} {x:Option (List SV)} {B:BS} (hk:mmB ks k=true) (h:FrM ks mv B):FrM ks mv ((k,x)::B)
 |none {k:Nat} {B:BS} (h:FrM ks mv B):FrM ks mv ((k,.none)::B)
 |dat {k:Nat} {ds:List jS} {B:BS} (h:FrM ks mv B):FrM ks mv ((k,some (ds.map SV.d))::B)
 |map {α:Type} {k:Nat} {G:α->jS} {L:List α} {B:BS} (h:FrM ks mv B):FrM ks mv ((k,some (L.map fun g=>SV.d (G g)))::B)
 |cells {k:Nat} {c:List SV} {B:BS} (hc:(mv.all fun q=>!(qC q c))=true) (h:FrM ks mv B):FrM ks mv ((k,some c)::B)
theorem namesAny_dat(k:Nat)(ds:List jS):qC k (ds.map SV.d)=false:=by
 unfold qC
 rw[List.any_eq_false]
 intro x hx
 obtain ⟨d,_,rfl⟩:=List.mem_map.1 hx
 simp [SV.names]
theorem namesAny_mapd{α:Type}(k:Nat)(G:α->jS)(L:List α):qC k (L.map fun g=>SV.d (G g))=false:=by
 unfold qC
 rw[List.any_eq_false]
 intro x hx
 obtain ⟨d,_,rfl⟩:=List.mem_map.1 hx
 simp [SV.names]
theorem FrM.ok{ks mv:List Nat}{B:BS}(h:FrM ks mv B){k:Nat}(hk:k∈mv):∀ p∈B,p.1∈ks\/∀ c,p.2=some c->qC k c=false:=by
 induction h with
 |nil=>intro p hp;cases hp
 |hid hk' h ih=>
  intro p hp;rcases List.mem_cons.1 hp with e | e
  ·subst e;exact .inl (nT.1 hk')
  ·exact ih p e
 |none h ih=>
  intro p hp;rcases List.mem_cons.1 hp with e | e
  ·subst e;exact .inr fun c hc=>by cases hc
  ·exact ih p e
 |dat h ih=>
  intro p hp;rcases List.mem_cons.1 hp with e | e
  ·subst e;exact .inr fun c hc=>by injection hc with hc;subst hc;exact namesAny_dat _ _
  ·exact ih p e
 |map h ih=>
  intro p hp;rcases List.mem_cons.1 hp with e | e
  ·subst e;exact .inr fun c hc=>by injection hc with hc;subst hc;exact namesAny_mapd _ _ _
  ·exact ih p e
 |cells hc h ih=>
  intro p hp;rcases List.mem_cons.1 hp with e | e
  ·subst e;exact .inr fun c hc'=>by injection hc' with hc';subst hc';simpa using List.all_eq_true.1 hc k hk
  ·exact ih p e
inductive NmM (news mv:List Nat):BS->Prop
 |nil:NmM news mv []
 |dat {k:Nat} {ds:List jS} {B:BS} (h:NmM news mv B):NmM news mv ((k,some (ds.map SV.d))::B)
 |map {α:Type} {k:Nat} {G:α->jS} {L:List α} {B:BS} (h:NmM news mv B):NmM news mv ((k,some (L.map fun g=>SV.d (G g)))::B)
 |cells {k:Nat} {c:List SV} {B:BS} (hc:(news.all fun q=>!(qC q c)||mmB mv q)=true) (h:NmM news mv B):NmM news mv ((k,some c)::B)
theorem NmM.ok{news mv:List Nat}{B:BS}(h:NmM news mv B):∀ p∈B,∀ c,p.2=some c->∀ k∈news,qC k c=true->k∈mv:=by
 induction h with
 |nil=>intro p hp;cases hp
 |dat h ih=>
  intro p hp;rcases List.mem_cons.1 hp with e | e
  ·subst e;exact fun c hc k _ hn=>by injection hc with hc;subst hc;rw[namesAny_dat] at hn;cases hn
  ·exact ih p e
 |map h ih=>
  intro p hp;rcases List.mem_cons.1 hp with e | e
  ·subst e;exact fun c hc k _ hn=>by injection hc with hc;subst hc;rw[namesAny_mapd] at hn;cases hn
  ·exact ih p e
 |cells hc h ih=>
  intro p hp;rcases List.mem_cons.1 hp with e | e
  ·subst e;exact fun c hc' k hk hn=>by
                                      injection hc' with hc';subst hc'
                                      have:=List.all_eq_true.1 hc k hk
                                      rw[hn] at this
                                      exact nT.1 this
  ·exact ih p e
section
variable {P:Program} {n:Fr} {ops:Array Oper} {K:SL->BS->Prop} {S:SL} {B:BS} {l:List Oper} {o:Oper} {news:List Nat} {acc0:List (List Nat × List Nat)}
theorem wS{f:FuncId}{xs:List SV}{B1:BS}{r:SV}{B1':BS}(ks mv:List Nat)(x:SV)(ys:List SV)(B2 B2':BS)(hf:xG P f xs B1 r B1')(hB:RBi ks B1 B2)(hB':RBi ks B1' B2')(hM:FrM (B2.map (·.1)) mv B)(hN:NmM news mv B2')
  (rr:DK P n ops K (mv++news) (acc0++[(B2.map (·.1),B2.map (·.1))]) ((dO o,x)::S) (B2'++B) l) (hc:CallV P o (jZ S) f ys:=by exact callV_fn (ex:=[]) (by exact rfl) (.fn (by kernel_rfl)) (by kernel_rfl)) (g:goK n ops S o=true:=by kernel_rfl)
  (hxs:rnL ks xs=some ys:=by kernel_rfl) (hr:rn ks r=some x:=by kernel_rfl) (hn:ndI ks=true:=by kernel_rfl) (hb:B2.map (fun p=>kA B p.1)=B2.map (·.2):=by kernel_rfl) (hks:B2'.map (·.1)=B2.map (·.1):=by kernel_rfl)
  (hsl:(S.all fun p=>mv.all fun k=>!p.2.names k)=true:=by kernel_rfl) (hin:(mv.all fun k=>mmB (B2.map (·.1)) k)=true:=by kernel_rfl) (hcl:((mv++news).all fun k=>!x.names k)=true:=by kernel_rfl)
  (G:List Nat:=[]) (hG:FixI ks B1 B1' G:=by exact .nil) (hmv:(ks.all fun j=>mmB mv j||(xs.any (pinI ks j))||mmB G j)=true:=by kernel_rfl):DK P n ops K news acc0 S B (o::l):=by
 obtain ⟨st1,acc,r1,r0,r2⟩:=rr
 obtain ⟨hd,hg,hdB⟩:=yO g
 have hb':∀ p∈B2,∃ c,p.2=some c/\kA B p.1=some c:=fun p hp=>by
  obtain ⟨c,e⟩:=hB.some p hp
  exact ⟨c,e,(List.map_inj_left.1 hb p hp).trans e⟩
 have hs:=mP.s (P:=P) (n:=n) (ops:=ops) (news:=news) (st:=⟨S,B⟩) (o:=o) (sok_of hf hc hxs hn hB hB' hr hG hmv) hg (by rw[hd];exact hdB) hb' hks (wk:=B2.map (·.1)) (fun _ h=>h) (fun _ h hn=>absurd h hn)
  (fun k hk=>⟨nT.1 (List.all_eq_true.1 hin k hk),fun p hp=>by simpa using List.all_eq_true.1 (List.all_eq_true.1 hsl p hp) k hk,hM.ok hk⟩)
  (fun k hk=>by simpa using List.all_eq_true.1 hcl k (List.mem_append.2 hk)) hN.ok
 rw[hd] at hs
 exact ⟨st1,(B2.map (·.1),B2.map (·.1))::acc,.cons hs r1,by simpa using r0,r2⟩
end
section
variable {P:Program} {n:Fr} {ops:Array Oper} {K:SL->BS->Prop} {S:SL} {B:BS} {l:List Oper} {o:Oper}
end
section
variable {P:Program}
end
def ixN:List Nat->Nat->Nat->Option Nat
 |[],_,_=>none
 |k::ks,i,j=>bif Nat.beq k j then some i else ixN ks (i+1) j
def rawS(ks:List Nat):SV->Bool
 |.own k _ _ _=>(ixN ks 0 k).isNone
 |_=>false
def bkc(ks:List Nat)(u:Value):SV->Option SV
 |.d x=>some (.d x)
 |.own k t s n=>match ixN ks 0 k with
  |some i=>some (.own i t s n)
  |none=>some (.d (.val u))
 |.ref k o=>(ixN ks 0 k).map fun i=>.ref i o
 |.refx k o b=>(ixN ks 0 k).map fun i=>.refx i o b
 |.mpx k b=>(ixN ks 0 k).map fun i=>.mpx i b
 |_=>none
def bkL(ks:List Nat)(U:Nat->Value):Nat->List SV->Option (List SV)
 |_,[]=>some []
 |i,y::c=>match bkc ks (U i) y,bkL ks U (i+1) c with
  |some x,some l=>some (x::l)
  |_,_=>none
inductive RBu (ks:List Nat) (U:Nat->Nat->Value):BS->BS->Prop
 |nil:RBu ks U [] []
 |cons {k j:Nat} {c c2:List SV} {B B2:BS} (hk:ks[k]?=some j) (hc:bkL ks (U j) 0 c2=some c) (h:RBu ks U B B2):RBu ks U ((k,some c)::B) ((j,some c2)::B2)
theorem RBu.to{ks:List Nat}{U:Nat->Nat->Value}(hn:ndI ks=true){B B2:BS}(h:RBu ks U B B2):∀ {k:Nat} {c:List SV},kA B k=some c->∃ j c2,ks[k]?=some j/\kA B2 j=some c2/\bkL ks (U j) 0 c2=some c:=by
 induction h with
 |nil=>intro k c hk;simp [kA] at hk
 |@cons q j c1 c2 B B2 hk hc h ih=>
  intro k c hg
  rw[jI] at hg
  split at hg
  ·rename_i e;subst e
   injection hg with hg;subst hg
   exact ⟨j,c2,hk,by rw[jI,if_pos rfl],hc⟩
  ·rename_i hne
   obtain ⟨j',d,h1,h2,h3⟩:=ih hg
   exact ⟨j',d,h1,by rw[jI,if_neg (fun e=>by subst e;exact hne (ndI_inj hn hk h1)),h2],h3⟩
theorem RBu.back{ks:List Nat}{U:Nat->Nat->Value}(hn:ndI ks=true){B B2:BS}(h:RBu ks U B B2):∀ {j:Nat} {c2:List SV},kA B2 j=some c2->∃ k c,ks[k]?=some j/\kA B k=some c/\bkL ks (U j) 0 c2=some c:=by
 induction h with
 |nil=>intro k c hk;simp [kA] at hk
 |@cons q j c1 c2 B B2 hk hc h ih=>
  intro i d hg
  rw[jI] at hg
  split at hg
  ·rename_i e;subst e
   injection hg with hg;subst hg
   exact ⟨q,c1,hk,by rw[jI,if_pos rfl],hc⟩
  ·rename_i hne
   obtain ⟨k,c,h1,h2,h3⟩:=ih hg
   exact ⟨k,c,h1,by rw[jI,if_neg (fun e=>by subst e;rw[hk] at h1;injection h1 with h1;exact hne h1),h2],h3⟩
theorem RBu.some{ks:List Nat}{U:Nat->Nat->Value}{B B2:BS}(h:RBu ks U B B2):∀ p∈B2,∃ c,p.2=.some c:=by
 induction h with
 |nil=>intro p hp;cases hp
 |cons hk hc h ih=>
  intro p hp
  rcases List.mem_cons.1 hp with e | e
  ·subst e;exact ⟨_,rfl⟩
  ·exact ih p e
def unm(ks:List Nat)(c:List SV):List (Option SV):=c.map fun y=>bif rawS ks y then some y else none
inductive OwS (ks:List Nat):BS->BS->Prop
 |nil:OwS ks [] []
 |dat {j:Nat} {ds ds':List jS} {B B':BS} (h:OwS ks B B'):OwS ks ((j,some (ds.map SV.d))::B) ((j,some (ds'.map SV.d))::B')
 |map {α:Type} {j:Nat} {G G':α->jS} {L L':List α} {B B':BS} (h:OwS ks B B'):OwS ks ((j,some (L.map fun g=>SV.d (G g)))::B) ((j,some (L'.map fun g=>SV.d (G' g)))::B')
 |cells {j:Nat} {c c':List SV} {B B':BS} (hc:unm ks c'=unm ks c) (h:OwS ks B B'):OwS ks ((j,some c)::B) ((j,some c')::B')
theorem unm_get{ks:List Nat}{c c':List SV}(h:unm ks c'=unm ks c){i:Nat}{y:SV}(hy:c'[i]?=some y)(hr:rawS ks y=true):c[i]?=some y:=by
 have h1:=congrArg (fun l:List (Option SV)=>l[i]?) h
 simp only[unm,List.getElem?_map,hy,Option.map_some,hr,cond_true] at h1
 cases hc:c[i]? with
 |none=>rw[hc] at h1;cases h1
 |some z=>
  rw[hc] at h1
  simp only[Option.map_some,Option.some.injEq] at h1
  cases hz:rawS ks z with
  |true=>rw[hz] at h1;injection h1 with h1;rw[h1]
  |false=>rw[hz] at h1;cases h1
theorem OwS.at{ks:List Nat}{B B':BS}(h:OwS ks B B'):∀ {j:Nat} {c':List SV},kA B' j=some c'->∃ c,kA B j=some c/\∀ (i:Nat) y,c'[i]?=some y->rawS ks y=true->c[i]?=some y:=by
 have no:∀ (ds:List jS) (i:Nat) (y:SV),(ds.map SV.d)[i]?=some y->rawS ks y=true->False:=fun ds i y hy hr=>by
  rw[List.getElem?_map,Option.map_eq_some_iff] at hy
  obtain ⟨d,_,rfl⟩:=hy
  cases hr
 induction h with
 |nil=>intro j c' hj;simp [kA] at hj
 |@dat q ds ds' B B' h ih=>
  intro j c' hj
  rw[jI] at hj
  split at hj
  ·rename_i e;subst e
   injection hj with hj;subst hj
   exact ⟨_,by rw[jI,if_pos rfl],fun i y hy hr=>(no _ _ _ hy hr).elim⟩
  ·rename_i hne
   obtain ⟨c,h1,h2⟩:=ih hj
   exact ⟨c,by rw[jI,if_neg hne,h1],h2⟩
 |@map α q G G' L L' B B' h ih=>
  intro j c' hj
  rw[jI] at hj
  split at hj
  ·rename_i e;subst e
   injection hj with hj;subst hj
   exact ⟨_,by rw[jI,if_pos rfl],fun i y hy hr=>by
    rw[List.getElem?_map,Option.map_eq_some_iff] at hy
    obtain ⟨d,_,rfl⟩:=hy
    cases hr⟩
  ·rename_i hne
   obtain ⟨c,h1,h2⟩:=ih hj
   exact ⟨c,by rw[jI,if_neg hne,h1],h2⟩
 |@cells q c c' B B' hc h ih=>
  intro j d hj
  rw[jI] at hj
  split at hj
  ·rename_i e;subst e
   injection hj with hj;subst hj
   exact ⟨c,by rw[jI,if_pos rfl],fun i y hy hr=>unm_get hc hy hr⟩
  ·rename_i hne
   obtain ⟨c,h1,h2⟩:=ih hj
   exact ⟨c,by rw[jI,if_neg hne,h1],h2⟩
section
variable {P:Program}
end
section
variable {P:Program} {n:Fr} {ops:Array Oper} {K:SL->BS->Prop} {S:SL} {B:BS} {l:List Oper} {o:Oper} {news:List Nat} {acc0:List (List Nat × List Nat)}
end
section
variable {P:Program} {S:SL} {B:BS} {o:Oper} {T:TypeId} {x:Operand} {k:Nat}
end
section
variable {κ ν:Type} [DecidableEq κ]
def ixK(a:κ):List (κ × ν)->Nat->Option (Nat × ν)
 |[],_=>none
 |(b,v)::l,i=>if a=b then some (i,v) else ixK a l (i+1)
def xF(l:List (κ × ν))(a:κ):Option ν:=(ixK a l 0).map (·.2)
def bE(ke:κ->Value)(ve:ν->Value):List (κ × ν)->Nat->List MapEntry
 |[],_=>[]
 |(a,v)::l,i=>{ key:=ke a,val:=ve v,born:=i }::bE ke ve l (i+1)
theorem entK_app(ke:κ->Value)(ve:ν->Value):∀ (l m:List (κ × ν)) (i:Nat),bE ke ve (l++m) i=bE ke ve l i++bE ke ve m (i+l.length)
 |[],m,i=>rfl
 |(a,v)::l,m,i=>by
  rw[List.cons_append,bE,entK_app ke ve l m (i+1),bE,List.cons_append,List.length_cons,show i+1+l.length=i+(l.length+1) by omega]
def uZ(ke:κ->Value)(ve:ν->Value)(l:List (κ × ν)):Obj:=.map (bE ke ve l 0).toArray l.length
theorem mpo_push(ke:κ->Value)(ve:ν->Value)(l:List (κ × ν))(a:κ)(v:ν):Obj.map ((bE ke ve l 0).toArray.push { key:=ke a,val:=ve v,born:=l.length }) (l.length+1)=uZ ke ve (l++[(a,v)]):=by
 unfold uZ
 rw[entK_app,List.length_append,Nat.zero_add]
 simp [bE]
theorem ixK_lt{a:κ}:∀ {l:List (κ × ν)} {i:Nat} {p:Nat × ν},ixK a l i=some p->i<=p.1/\l[p.1-i]?=some (a,p.2)
 |[],_,_,h=>by cases h
 |(b,v)::l,i,p,h=>by
  unfold ixK at h
  split at h
  ·rename_i e
   injection h with h;subst h;subst e
   simp
  ·obtain ⟨h1,h2⟩:=ixK_lt h
   refine ⟨by omega,?_⟩
   rw[show p.1-i=(p.1-(i+1))+1 by omega];exact h2
theorem getK_mem{a:κ}{l:List (κ × ν)}{v:ν}(h:xF l a=some v):(a,v)∈l:=by
 unfold xF at h
 rw[Option.map_eq_some_iff] at h
 obtain ⟨p,hp,rfl⟩:=h
 exact List.mem_of_getElem? (ixK_lt hp).2
structure KeyOk (P:Program) (K:TypeId) (ke:κ->Value):Prop where
 chk:∀ (e:Bool) (a:κ) (w:World),(Instr.checkKey e 10000 K (ke a)).run P w=.ok () w
 find:∀ {ν:Type} (ve:ν->Value) (l:List (κ × ν)) (a:κ) (w:World),(Instr.findKey K (ke a) (bE ke ve l 0)).run P w=.ok ((ixK a l 0).map fun p=>(p.1,ve p.2)) w
def mapKB(P:Program)(T:TypeId):Option (TypeId × TypeId):=match P.underlying T with
 |some (.map K E)=>some (K,E)
 |_=>none
theorem mapK_of{P:Program}{T K E:TypeId}(h:mapKB P T=some (K,E)):P.underlying T=some (.map K E):=by
 unfold mapKB at h
 split at h
 ·rename_i a b e;injection h with h;injection h with h1 h2;subst h1;subst h2;exact e
 ·cases h
def zeroVm(P:Program)(T:TypeId):Option Value:=match P.info? T with
 |some i=>i.zero
 |none=>none
theorem run_zeroVm{P:Program}{T:TypeId}{v:Value}(h:zeroVm P T=some v)(w:World):(zeroValue T).run P w=.ok v w:=by
 unfold zeroVm at h
 cases hi:P.info? T with
 |none=>rw[hi] at h;cases h
 |some i=>
  rw[hi] at h
  simp only[] at h
  simp [zeroValue,typeInfo,hi,h]
section
variable {P:Program} {T K E:TypeId} {w:World} {b:Nat} {ke:κ->Value} {ve:ν->Value} {l:List (κ × ν)}
theorem run_getK(hT:mapKB P T=some (K,E))(hK:KeyOk P K ke){z:Value}(hz:zeroVm P E=some z)(hb:w.heap[b]?=some (uZ ke ve l))(a:κ)(ok:Bool) :
  (Instr.lookup T (.map (some b)) (ke a) ok).run P w=.ok (if ok then .tuple #[((xF l a).map ve).getD z,.bool (xF l a).isSome] else ((xF l a).map ve).getD z) w:=by
 have h1:=mapK_of hT
 have hf:=hK.find ve l a w
 have hc:=hK.chk (bE ke ve l 0).toArray.isEmpty a w
 simp only[Instr.lookup,Sem.run_bind,run_underlying h1,MapKept.run_getObj_map (show w.heap[b]?=some (.map (bE ke ve l 0).toArray l.length) from hb),Result.andThen_ok,Sem.run_pure,hc,List.toList_toArray,hf]
 unfold xF
 cases ixK a l 0 with
 |none=>cases ok<;>simp [run_zeroVm hz]
 |some p=>cases ok<;>simp
theorem run_insK(hT:mapKB P T=some (K,E))(hK:KeyOk P K ke)(hb:w.heap[b]?=some (uZ ke ve l))(a:κ)(v:ν)(hn:xF l a=none) :
  (Instr.mapUpdate T (.map (some b)) (ke a) (ve v)).run P w=.ok () (w.putObj b (uZ ke ve (l++[(a,v)]))):=by
 have h1:=mapK_of hT
 have hf:=hK.find ve l a w
 have hc:=hK.chk false a w
 have hn2:ixK a l 0=none:=by
  unfold xF at hn
  exact Option.map_eq_none_iff.1 hn
 rw[hn2] at hf
 simp only[Instr.mapUpdate,Sem.run_bind,run_underlying h1,MapKept.run_getObj_map (show w.heap[b]?=some (.map (bE ke ve l 0).toArray l.length) from hb),Result.andThen_ok,hc,List.toList_toArray,hf,Option.map_none,MapKept.run_setObj_map _ hb,mpo_push]
 simp [World.putObj]
end
end
theorem findNow_str(P:Program)(a:ByteArray){ν:Type}(ve:ν->Value)[DecidableEq ByteArray]:∀ (l:List (ByteArray × ν)) (i:Nat),Instr.findNow .string (.string a) (bE (fun s=>Value.string s) ve l i) i=some ((ixK a l i).map fun p=>(p.1,ve p.2))
 |[],_=>rfl
 |(b,v)::l,i=>by
  have ih:=findNow_str P a ve l (i+1)
  unfold bE ixK Instr.findNow
  by_cases h:a=b
  ·rw[if_pos h]
   have:(a == b)=true:=(MapKept.bytes_beq a b).2 h
   simp only[Instr.sameNow,this];rfl
  ·rw[if_neg h]
   have:(a == b)=false:=by rw[<- Bool.not_eq_true];exact fun e=>h ((MapKept.bytes_beq a b).1 e)
   simp only[Instr.sameNow,this]
   exact ih
def strKB(P:Program)(K:TypeId):Bool:=match P.underlying K with
 |some .string=>true
 |_=>false
theorem keyOk_str{P:Program}{K:TypeId}(h:strKB P K=true)[DecidableEq ByteArray]:KeyOk P K (fun s:ByteArray=>Value.string s):=by
 have hk:P.underlying K=some .string:=by
  unfold strKB at h
  split at h
  ·rename_i e;exact e
  ·cases h
 exact ⟨fun e a w=>MapKept.run_checkKey (k:=.string a) hk trivial e 9999,fun ve l a w=>MapKept.run_findKey hk (findNow_str P a ve l 0)⟩
theorem run_cks{P:Program}(em:Bool)(k:IntKind){E:TypeId}{j:IntKind}(hE:P.underlying E=some (.int j))(hsz:∀ w,(sizeOf E).run P w=.ok 1 w)(n:Nat)(w:World)(ms:List Int):∀ (m i:Nat),ms.length=i+m ->
  Sem.run P (forIn (List.range' i m) PUnit.unit fun f _=>do
       let a <- sizeOf E
       let b <- part E (List.map (Value.int k) ms).toArray (f*a)
       Instr.checkKey em (n+1) E b
       pure (ForInStep.yield PUnit.unit)) w=.ok PUnit.unit w
 |0,i,_=>by simp
 |m+1,i,h=>by
  have b1:i<ms.length:=by omega
  have ih:=run_cks em k hE hsz n w ms m (i+1) (by omega)
  have hck:∀ z:Int,(Instr.checkKey em (n+1) E (.int k z)).run P w=.ok () w:=fun z=>by
   unfold Instr.checkKey
   simp [run_underlying hE]
  simp only[List.range'_succ,List.forIn_cons,Sem.run_bind,hsz w,Result.andThen_ok,Nat.mul_one,iN hE (List.getElem?_eq_getElem b1),hck,Sem.run_pure,ih]
theorem findAsk_arr{P:Program}{K:TypeId}{n:Nat}(h:eqaB P K=some n)(k:IntKind){κ ν:Type}[DecidableEq κ](f:κ->List Int)(hl:∀ a,(f a).length=n)(hi:∀ a b,f a=f b->a=b)(ve:ν->Value)(a:κ)(w:World):∀ (l:List (κ × ν)) (i:Nat),
  (Instr.findAsking K (.agg ((f a).map (Value.int k)).toArray) (bE (fun a=>.agg ((f a).map (Value.int k)).toArray) ve l i) i).run P w=.ok ((ixK a l i).map fun p=>(p.1,ve p.2)) w
 |[],i=>by simp [bE,Instr.findAsking,ixK]
 |(b,v)::l,i=>by
  have ih:=findAsk_arr h k f hl hi ve a w l (i+1)
  have e:=(run_eqA h k (f a) (f b) (hl a) (hl b) w).1
  unfold bE ixK Instr.findAsking
  simp only[Sem.run_bind,e,Result.andThen_ok]
  by_cases hab:a=b
  ·subst hab
   simp
  ·have:f a≠f b:=fun e=>hab (hi a b e)
   rw[if_neg hab]
   simp [this,ih]
theorem eqa_of{P:Program}{T:TypeId}{n:Nat}(h:eqaB P T=some n):∃ E j i,P.underlying T=some (.array n E)/\P.underlying E=some (.int j)/\P.info? E=some i/\i.size=1:=by
 unfold eqaB at h
 split at h
 ·rename_i m E hT
  split at h
  ·rename_i j i hE hi
   split at h
   ·rename_i hq
    simp only[Bool.and_eq_true,Bool.not_eq_true'] at hq
    injection h with h;subst h
    exact ⟨E,j,i,hT,hE,hi,Nat.eq_of_beq_eq_true hq.1⟩
   ·cases h
  ·cases h
 ·cases h
theorem keyOk_arr{P:Program}{K:TypeId}{n:Nat}(h:eqaB P K=some n)(k:IntKind){κ:Type}[DecidableEq κ](f:κ->List Int)(hl:∀ a,(f a).length=n)(hi:∀ a b,f a=f b->a=b):KeyOk P K (fun a=>Value.agg ((f a).map (Value.int k)).toArray):=by
 obtain ⟨E,j,i,h1,h2,h3,h4⟩:=eqa_of h
 refine ⟨fun e a w=>?_,fun ve l a w=>?_⟩
 ·have hs:∀ w,(sizeOf E).run P w=.ok 1 w:=fun w=>by simp [sizeOf,typeInfo,h3,h4]
  have hr:=run_cks (P:=P) e k h2 hs 9998 w (f a) n 0 (by rw[hl];omega)
  unfold Instr.checkKey
  simp only[Sem.run_bind,run_underlying h1,Result.andThen_ok]
  have hr2:=hr
  simp at hr2 ⊢
  rw[hr2];rfl
 ·cases l with
  |nil=>simp [Instr.findKey,bE,Instr.findNow,run_underlying h1,ixK]
  |cons p l=>
   obtain ⟨b,v⟩:=p
   have hn:Instr.findNow (.array n E) (.agg ((f a).map (Value.int k)).toArray) (bE (fun a=>Value.agg ((f a).map (Value.int k)).toArray) ve ((b,v)::l) 0) 0=none:=by
    unfold bE Instr.findNow
    rfl
   have:=findAsk_arr h k f hl hi ve a w ((b,v)::l) 0
   simp only[Instr.findKey,Sem.run_bind,run_underlying h1,Result.andThen_ok,hn]
   exact this
section
variable {P:Program} {o:Oper} {S:Nat->SV} {κ ν:Type} [DecidableEq κ] {ke:κ->Value} {ve:ν->Value} {l:List (κ × ν)} {T K E:TypeId} {k:Nat}
theorem odd_map{w:World}{D:kQ}{β:kU}{ob:Obj}{b:Nat}(h:uD w D β k [.mo ob])(hb:β k=some b):w.heap[b]?=some ob/\Obj.isMp ob=true/\∀ t o,¬ D t b o:=by
 rcases h with (⟨_,h⟩ | ⟨b',ob',h1,h2,h3,h4,h5⟩) | ⟨b',vs,T,h1,h2,h3,h4,_⟩
 ·cases h
 ·rw[hb] at h1;injection h1 with h1;subst h1
  injection h4 with h4;injection h4 with h4;subst h4
  exact ⟨h2,h3,h5⟩
 ·obtain ⟨u,_,_,h⟩:=h4 0 _ rfl
  exact h.elim
theorem e_getK{x y:Operand}{z:Value}{a:κ}{ok:Bool}(ho:o.op=.lookup T x y ok)(hT:mapKB P T=some (K,E))(hK:KeyOk P K ke)(hz:zeroVm P E=some z)(hx:ev S x=.mp k)(hy:∀ (w:World) (D:kQ) (β:kU) (v:Value),kX w D β v (ev S y)->v=ke a) :
  uN P o S [(k,[.mo (uZ ke ve l)])] (.d (if ok then .tup [.val (((xF l a).map ve).getD z),.val (.bool (xF l a).isSome)] else .val (((xF l a).map ve).getD z))) :=
 uN.same fun w0 w D β hop hrd=>by
  have h1:=hop x (by simp [ho,Op.operands])
  have h2:=hop y (by simp [ho,Op.operands])
  rw[hx] at h1
  obtain ⟨b,hb,e1⟩:=h1
  have e2:=hy w D β _ h2
  obtain ⟨g1,_,_⟩:=odd_map (hrd (k,[.mo (uZ ke ve l)]) (by simp)) hb
  refine ⟨_,by simp only[execOp,ho,e1,e2,Sem.run_bind,run_getK hT hK hz g1 a ok,Result.andThen_ok];rfl,?_⟩
  cases ok with
  |true=>exact uS.tup [_,_] rfl (fun i v d hv hd=>by
    match i with
    |0=>simp at hv hd;subst hv;subst hd;exact .val _
    |1=>simp at hv hd;subst hv;subst hd;exact .val _
    |i+2=>simp at hv)
  |false=>exact uS.val _
theorem t_insK{x y z:Operand}{a:κ}{v:ν}(ho:o.op=.mapUpdate T x y z)(hT:mapKB P T=some (K,E))(hK:KeyOk P K ke)(hx:ev S x=.mp k)(hy:∀ (w:World) (D:kQ) (β:kU) (u:Value),kX w D β u (ev S y)->u=ke a)(hz:∀ (w:World) (D:kQ) (β:kU) (u:Value),kX w D β u (ev S z)->u=ve v)(hn:xF l a=none) :
  TOk P o S k [.mo (uZ ke ve l)] [.mo (uZ ke ve (l++[(a,v)]))]:=fun w0 w D β Q hop hb hD=>by
 have h1:=hop x (by simp [ho,Op.operands])
 have h2:=hop y (by simp [ho,Op.operands])
 have h3:=hop z (by simp [ho,Op.operands])
 rw[hx] at h1
 obtain ⟨b,hkb,e1⟩:=h1
 have e2:=hy w D β _ h2
 have e3:=hz w D β _ h3
 obtain ⟨g1,g2,g3⟩:=odd_map hb hkb
 have hlt:=qV g1
 have hrun:(execOp w0.eval o).run P w=.ok .skip (w.putObj b (uZ ke ve (l++[(a,v)]))):=by
  simp only[execOp,ho,e1,e2,e3,Sem.run_bind,run_insK hT hK g1 a v hn,Result.andThen_ok];rfl
 refine wp_skip_ hrun ⟨rfl,b,hkb,⟨rfl,rfl,rfl,by simp [World.putObj],fun j hj=>World.putObj_heap_other hj,fun vs T f h=>by rw[g1] at h;injection h with h;cases h⟩,g3,.inl (.inr ⟨b,_,hkb,World.putObj_heap_same hlt,rfl,rfl,g3⟩)⟩
theorem n_mapK(ke:κ->Value)(ve:ν->Value)(b:Nat)(ho:o.op=.makeMap T none):NOk P o S b [.mo (uZ ke ve [])] (.mp b):=fun w0 w D β Q hop hD=>by
 have hrun:(execOp w0.eval o).run P w=.ok (.value (.map (some w.heap.size))) (w.alloc (.map #[] 0)):=by
  simp [execOp,ho,Instr.makeMap]
 have hb:Below w.heap.size w (w.alloc (.map #[] 0)):=(Below.refl _ _).alloc (Nat.le_refl _) _
 have hnd:∀ t o,¬ D t w.heap.size o:=fun t o hd=>Nat.lt_irrefl _ (hD.lt t _ o hd)
 refine mV hrun ⟨_,D,w.heap.size,rfl,hb,aE.of_same D,Nat.le_refl _,by simp,hnd,.inl (.inr ⟨w.heap.size,_,by simp [kU.set],World.alloc_heap_new w _,rfl,rfl,hnd⟩),⟨w.heap.size,by simp [kU.set],rfl⟩⟩
end
section
variable {P:Program} {S:SL} {B:BS} {o:Oper} {x y z:Operand} {k:Nat} {T K E:TypeId} {κ ν:Type} [DecidableEq κ] {ke:κ->Value} {ve:ν->Value} {l:List (κ × ν)}
theorem oMm(b:Nat)(ke:κ->Value)(ve:ν->Value)(ho:o.op=.makeMap T none:=by exact rfl):NOk P o (jZ S) b [.mo (uZ ke ve [])] (.mp b):=n_mapK ke ve b ho
theorem oGm(hT:mapKB P T=some (K,E))(hK:KeyOk P K ke){zv:Value}(hz:zeroVm P E=some zv)(a:κ){d:jS}(hd:∀ (w:World) (D:kQ) (v:Value),uS w D v d->v=ke a)(ho:o.op=.lookup T x y true:=by exact rfl)(hx:ev (jZ S) x=.mp k:=by exact rfl)(hy:ev (jZ S) y=.d d:=by exact rfl)(hb:kA B k=some [.mo (uZ ke ve l)]:=by exact rfl) :
  ROk P o S B k (.d (.tup [.val (((xF l a).map ve).getD zv),.val (.bool (xF l a).isSome)])) :=
 ⟨_,by
  have h:=e_getK (P:=P) (S:=jZ S) (ve:=ve) (l:=l) (a:=a) ho hT hK hz hx (fun w D β v h=>by rw[hy] at h;exact hd w D v h)
  simpa using h,hb⟩
theorem oIm(hT:mapKB P T=some (K,E))(hK:KeyOk P K ke)(a:κ)(v:ν){d e:jS}(hd:∀ (w:World) (D:kQ) (u:Value),uS w D u d->u=ke a)(he:∀ (w:World) (D:kQ) (u:Value),uS w D u e->u=ve v)(hn:xF l a=none)(ho:o.op=.mapUpdate T x y z:=by exact rfl)(hx:ev (jZ S) x=.mp k:=by exact rfl)(hy:ev (jZ S) y=.d d:=by exact rfl)(hz:ev (jZ S) z=.d e:=by exact rfl)(hb:kA B k=some [.mo (uZ ke ve l)]:=by exact rfl) :
  TK P o S B k [.mo (uZ ke ve (l++[(a,v)]))] :=
 ⟨_,t_insK (a:=a) (v:=v) ho hT hK hx (fun w D β u h=>by rw[hy] at h;exact hd w D u h) (fun w D β u h=>by rw[hz] at h;exact he w D u h) hn,hb⟩
end
section
variable {P:Program} {S:SL} {B:BS} {o:Oper} {x y:Operand} {k:Nat} {T:TypeId}
theorem oLf{α:Type}{F:α->jS}{L:List α}{s i n:Nat}(hs:qD P T=some (true,n))(j:Nat)(d:α)(c:jS)(ho:o.op=.load T x:=by exact rfl)(hx:ev (jZ S) x=.ref k (j*s+i):=by exact rfl)(hb:kA B k=some (uK F L):=by exact rfl)(hF:∀ g,(F g).cells.length=s:=by intro g;kernel_rfl)(hi:Nat.ble (i+n) s=true:=by kernel_rfl)
  (hG:gG true ((((F (L.getD j d)).cells.drop i).take n).map SV.d)=.d c:=by kernel_rfl) (h1:j<L.length:=by omega):ROk P o S B k (.d c):=by
 have hi2:i+n<=s:=Nat.le_of_ble_eq_true hi
 have hrm:=bxs_room (s:=s) h1
 have hb1:(uK F L).length=L.length*s:=by unfold uK;rw[List.length_map,bxs_flen hF]
 have h:=lP (P:=P) (cs:=uK F L) ho hx hs (fun h=>by cases h) (by rw[hb1];omega) (mI _)
 have e:((uK F L).drop (j*s+i)).take n=(((F (L.getD j d)).cells.drop i).take n).map SV.d:=by
  apply List.ext_getElem?
  intro r
  rw[List.getElem?_take,List.getElem?_map,List.getElem?_take]
  split
  ·rw[List.getElem?_drop,List.getElem?_drop,Nat.add_assoc]
   unfold uK
   rw[List.getElem?_map,bxs_cell hF d h1 (by omega)]
  ·rfl
 rw[e,hG] at h
 exact ⟨_,h,hb⟩
end
def SV.low:SV->Bool
 |.d _=>true
 |.own j _ _ _=>Nat.beq j 0
 |.ref j _=>Nat.beq j 0
 |.junk=>true
 |_=>false
theorem kX.low{w:World}{D:kQ}{β β':kU}{v:Value}{x:SV}(h0:β' 0=β 0)(hx:x.low=true)(h:kX w D β v x):kX w D β' v x:=by
 cases x with
 |d x=>exact h
 |own j t s n=>
  have e:j=0:=Nat.eq_of_beq_eq_true hx
  subst e
  rcases h with ⟨k1,k2⟩ | ⟨b,cap,vs,k1,k2⟩
  ·exact .inl ⟨h0.trans k1,k2⟩
  ·exact .inr ⟨b,cap,vs,h0.trans k1,k2⟩
 |ref j o=>
  have e:j=0:=Nat.eq_of_beq_eq_true hx
  subst e
  obtain ⟨b,k1,k2⟩:=h
  exact ⟨b,h0.trans k1,k2⟩
 |junk=>trivial
 |_=>cases hx
section
variable {P:Program} {S S':SL} {B:BS}
end
section
variable {α:Type} {F:α->jS}
variable {P:Program} {S S':SL} {B:BS}
end
theorem uD.take{w:World}{D:kQ}{β:kU}{k n:Nat}{cs:List SV}(h:uD w D β k cs)(hm:gO cs=false):uD w D β k (cs.take n):=by
 rcases h with h | ⟨b,vs,T,g1,g2,g3,g4,g5⟩
 ·obtain ⟨h1,h2⟩:=h.cells hm
  subst h2;exact .inl (.inl ⟨h1,by simp⟩)
 ·refine .inr ⟨b,vs,T,g1,g2,by rw[List.length_take];omega,fun i x hx=>?_,g5⟩
  rw[List.getElem?_take] at hx
  split at hx
  ·exact g4 i x hx
  ·cases hx
theorem NOk.take{P:Program}{o:Oper}{S:Nat->SV}{k:Nat}{cs:List SV}{x:SV}(n:Nat)(h:NOk P o S k cs x)(hm:gO cs=false):NOk P o S k (cs.take n) x:=fun a w D β Q hop hD=>
 Oper.wp_mono (fun a' w' ⟨v,D',b,h1,h2,h3,h4,h5,h6,h7,h8⟩=>⟨v,D',b,h1,h2,h3,h4,h5,h6,h7.take hm,h8⟩) (h a w D β Q hop hD)
section
variable {P:Program} {n:Fr} {ops:Array Oper} {C:Ctx}
theorem steps_sound2{st st':PS}{l l2:List Oper}(h:Steps P n ops st l st')(hp:l.all yV=true)(hn:C.n=n){N:Nat}{Q:Exit->Act->World->Prop}(hk:∀ a' w',dF C a' w' st'->wpListIn (fen n) N P ops Q l2 a' w'):∀ {a:Act} {w:World},dF C a w st->wpListIn (fen n) N P ops Q (l++l2) a w:=by
 induction h with
 |nil=>intro a w hs;exact hk a w hs
 |cons h hr ih=>
  intro a w hs
  simp only[List.all_cons,Bool.and_eq_true] at hp
  refine wpListIn_step fun K hK=>?_
  have h1:=step_sound h hn hs (Q:=Q) fun a' w' hs'=>hK a' w' (ih hp.2 hk hs')
  split
  ·rename_i e;rw[if_pos e] at h1;exact iW hp.1 h1
  ·rename_i e;rw[if_neg e] at h1;exact ⟨fun _ _=>trivial,h1⟩
end
section
variable {P:Program} {n:Fr} {S0:SL} {B0:BS}
end
section
variable {P:Program} {S S':SL} {B B':BS} {o:Oper}
end
section
variable {P:Program} {n:Fr} {S0:SL} {B0:BS}
theorem kr_cutm{id:Nat}{Q:Exit->PS->Prop}{l:List Oper}(i:Nat)(S1:SL)(B1:BS)(S2:SL)(B2:BS)(t t':Nat){k k':Nat}(h1:SK P n l.toArray (KI S1 B1) S0 B0 (l.take i))(ht:jZ S1 t=.mp k)(ht':jZ S1 t'=.mp k')
  (h2:∀ b b',SK P n l.toArray (KI S2 B2) ((t,.mpx k b)::(t',.mpx k' b')::S1) B1 (l.drop i)) (hq:Q .normal ⟨S2,B2⟩) (hp:l.all yV=true:=by kernel_rfl):eO P n (.region id l.toArray false) Q ⟨S0,B0⟩:=fun C a w N hn hs=>by
 obtain ⟨st1,g1,g2⟩:=h1
 subst hn
 have hp1:(l.take i).all yV=true:=List.all_eq_true.2 fun x hx=>List.all_eq_true.1 hp x (List.mem_of_mem_take hx)
 have hp2:(l.drop i).all yV=true:=List.all_eq_true.2 fun x hx=>List.all_eq_true.1 hp x (List.mem_of_mem_drop hx)
 refine wpIn_region_lit ?_
 have key:=steps_sound2 (C:=C) (l2:=l.drop i) (N:=N) (Q:=fun e a' w'=>∃ st',dF C a' w' st'/\Q e st') g1 hp1 rfl (fun a' w' hs'=>?_) hs
 ·rw[List.take_append_drop] at key;exact key
 ·obtain ⟨D,β,hx⟩:=g2 C a' w' hs'
  have hr:=hx.slots t
  have hr':=hx.slots t'
  dsimp only at hr hr'
  rw[ht] at hr
  rw[ht'] at hr'
  obtain ⟨b,e1,e2⟩:=hr
  obtain ⟨b',e1',e2'⟩:=hr'
  obtain ⟨st2,k1,k2⟩:=h2 b b'
  refine steps_sound (C:=C) k1 hp2 rfl (fun a'' w'' hs''=>⟨_,k2 C a'' w'' hs'',hq⟩) ⟨D,β,hx.base,hx.mem,hx.high,fun u=>?_⟩
  show kX w' D β _ (jZ ((t,_)::(t',_)::S1) u)
  rw[qP]
  split
  ·rename_i e;subst e;exact ⟨e1,e2⟩
  ·rw[qP]
   split
   ·rename_i e;subst e;exact ⟨e1',e2'⟩
   ·exact hx.slots u
end
section
variable {P:Program} {S S':SL} {B B':BS} {o:Oper}
theorem oOm(t:Nat){k b:Nat}{x:SV}(h:uN P o (jZ ((t,.d (.val (.map (some b))))::S)) [] x)(ht:jZ S t=.mpx k b:=by kernel_rfl):uN P o (jZ S) [] x:=fun a w D β Q hop hr hD=>h a w D β Q (fun y hy=>by
 have hy':=hop y hy
 cases y with
 |tmp q=>
  show kX w D β _ (jZ ((t,_)::S) q)
  rw[qP]
  split
  ·rename_i e
   subst e
   have h2:kX w D β _ (jZ S t):=hy'
   rw[ht] at h2
   have e2:_=Value.map (some b):=h2.2
   rw[e2]
   exact uS.val _
  ·exact hy'
 |_=>exact hy') hr hD
theorem cell_mps(j:Nat){cs cs':List SV}{B0:BS}(hj:kA B j=some cs)(hl:cs'.length=cs.length)(hx:∀ (i:Nat) (x:SV),cs'[i]?=some x->cs[i]?=some x\/∃ t k b,jZ S t=.mpx k b/\x=SV.mp k/\cs[i]?=some (SV.d (.val (.map (some b)))))(hm:gO cs=false)(hs1:S'.map (fun p=>jZ S p.1)=S'.map (·.2))(hB:∀ i c,kA B' i=some c->(i=j/\c=cs')\/kA B i=some c):uY ⟨S,B⟩ ⟨S',B'⟩:=fun C a w ⟨D,β,hs⟩=>by
 have src:∀ {i c},kA B' i=some c->∃ c',kA B i=some c':=fun {i c} h=>by
  rcases hB i c h with ⟨e,_⟩ | h
  ·exact ⟨_,e▸hj⟩
  ·exact ⟨_,h⟩
 refine ⟨D,β,hs.base,⟨fun i c hi=>?_,fun i1 i2 c1 c2 q1 q2 b e1 e2=>?_⟩,fun i c hi b e=>?_,fun q=>?_⟩
 ·rcases hB i c hi with ⟨rfl,rfl⟩ | h
  ·rcases hs.mem.ok _ _ hj with hq0 | ⟨b,vs,T',g1,g2,g3,g4,g5⟩
   ·obtain ⟨h1,h2⟩:=hq0.cells hm
    subst h2
    exact .inl (.inl ⟨h1,List.eq_nil_of_length_eq_zero hl⟩)
   ·refine .inr ⟨b,vs,T',g1,g2,by rw[hl];exact g3,fun q x hq=>?_,g5⟩
    rcases hx q x hq with h | ⟨t,k,b2,h1,rfl,h3⟩
    ·exact g4 q x h
    ·obtain ⟨u,e1,e2,e3⟩:=g4 q _ h3
     have ev:=vO e3
     have hr:=hs.slots t
     dsimp only at hr
     rw[h1] at hr
     exact ⟨u,e1,e2,b2,hr.1,ev⟩
  ·exact hs.mem.ok _ _ h
 ·obtain ⟨d1,h1⟩:=src q1
  obtain ⟨d2,h2⟩:=src q2
  exact hs.mem.inj _ _ _ _ h1 h2 b e1 e2
 ·obtain ⟨d,h⟩:=src hi
  exact hs.high _ _ h b e
 ·show kX w D β _ (jZ S' q)
  rcases fT hs1 q with h | h
  ·rw[h];trivial
  ·rw[h];exact hs.slots q
end
end Go.Fid
