/- Part 18 of a proof: rules, plain facts, and functions walked. -/
import Derived.Test.YtckccjhflbljgaaGreatDoorM17
set_option linter.all false
namespace Go.Fid
open Go.RowKit (Below)
def rn(ks:List Nat):SV->Option SV
 |.ref k o=>(ks[k]?).map fun j=>.ref j o
 |.own k t s n=>(ks[k]?).map fun j=>.own j t s n
 |.clo f l=>(l.mapM fun k=>ks[k]?).map fun l'=>.clo f l'
 |.view k o n=>(ks[k]?).map fun j=>.view j o n
 |.pr k t s n x=>(ks[k]?).map fun j=>.pr j t s n x
 |.refx k o b=>(ks[k]?).map fun j=>.refx j o b
 |.mpx k b=>(ks[k]?).map fun j=>.mpx j b
 |.bnd f k o=>(ks[k]?).map fun j=>.bnd f j o
 |.ownx k t s n u=>(ks[k]?).map fun j=>.ownx j t s n u
 |.mp k=>(ks[k]?).map fun j=>.mp j
 |x=>some x
def rnL(ks:List Nat):List SV->Option (List SV)
 |[]=>some []
 |x::l=>match rn ks x,rnL ks l with
  |some y,some l'=>some (y::l')
  |_,_=>none
theorem vG{α:Type}(ks:List Nat)(G:α->jQ):∀ L:List α,rnL ks (L.map fun g=>SV.d (G g))=some (L.map fun g=>SV.d (G g))
 |[]=>rfl
 |x::L=>by rw[List.map_cons,rnL,vG ks G L];rfl
theorem vI(ks:List Nat):∀ ds:List jQ,rnL ks (ds.map SV.d)=some (ds.map SV.d)
 |[]=>rfl
 |x::L=>by rw[List.map_cons,rnL,vI ks L];rfl
theorem rnL_get{ks:List Nat}:∀ {c c2:List SV},rnL ks c=some c2->c2.length=c.length/\∀ i:Nat,(∀ x,c[i]?=some x->∃ y,c2[i]?=some y/\rn ks x=some y)/\∀ y,c2[i]?=some y->∃ x,c[i]?=some x/\rn ks x=some y
 |[],c2,h=>by
  injection h with h;subst h
  exact ⟨rfl,fun i=>⟨fun x hx=>by simp at hx,fun y hy=>by simp at hy⟩⟩
 |x::l,c2,h=>by
  unfold rnL at h
  split at h
  ·rename_i y l' hy hl
   injection h with h;subst h
   obtain ⟨h1,h2⟩:=rnL_get hl
   refine ⟨by simp [h1],fun i=>?_⟩
   cases i with
   |zero=>exact ⟨fun z hz=>by simp at hz;subst hz;exact ⟨y,rfl,hy⟩,fun z hz=>by simp at hz;subst hz;exact ⟨x,rfl,hy⟩⟩
   |succ i=>exact ⟨fun z hz=>(h2 i).1 z (by simpa using hz),fun z hz=>(h2 i).2 z (by simpa using hz)⟩
  ·cases h
theorem mapM_get{ks:List Nat}:∀ {l l':List Nat},(l.mapM fun k=>ks[k]?)=some l'->l'.length=l.length/\∀ (i k:Nat),l[i]?=some k->∃ j,l'[i]?=some j/\ks[k]?=some j
 |[],l',h=>by
  simp at h;subst h
  exact ⟨rfl,fun i k hk=>by simp at hk⟩
 |k::l,l',h=>by
  rw[List.mapM_cons] at h
  cases h1:ks[k]? with
  |none=>rw[h1] at h;cases h
  |some j=>
   cases h2:l.mapM (fun k=>ks[k]?) with
   |none=>rw[h1,h2] at h;cases h
   |some m=>
    rw[h1,h2] at h
    injection h with h;subst h
    obtain ⟨g1,g2⟩:=mapM_get h2
    refine ⟨by simp [g1],fun i q hq=>?_⟩
    cases i with
    |zero=>simp at hq;subst hq;exact ⟨j,rfl,h1⟩
    |succ i=>exact g2 i q (by simpa using hq)
theorem rep_rn{w:World}{D:kV}{β γ:kU}{ks:List Nat}{v:Value}{x y:SV}(h:rn ks x=some y)(hg:∀ k j,ks[k]?=some j->γ k=β j):kT w D γ v x↔kT w D β v y:=by
 cases x with
 |d x=>injection h with h;subst h;exact Iff.rfl
 |emp=>injection h with h;subst h;exact Iff.rfl
 |junk=>injection h with h;subst h;exact Iff.rfl
 |mo ob=>injection h with h;subst h;exact Iff.rfl
 |clo f l=>
  unfold rn at h
  rw[Option.map_eq_some_iff] at h
  obtain ⟨l',hl,rfl⟩:=h
  obtain ⟨g1,g2⟩:=mapM_get hl
  constructor
  ·rintro ⟨vs,h1,h2,h3⟩
   refine ⟨vs,h1,h2.trans g1.symm,fun i j hj=>?_⟩
   have hlt:i<l.length:=by rw[<- g1];exact (List.getElem?_eq_some_iff.1 hj).1
   obtain ⟨q,e1,e2⟩:=g2 i _ (List.getElem?_eq_getElem hlt)
   rw[hj] at e1
   injection e1 with e1;subst e1
   rw[<- hg _ _ e2]
   exact h3 i _ (List.getElem?_eq_getElem hlt)
  ·rintro ⟨vs,h1,h2,h3⟩
   refine ⟨vs,h1,h2.trans g1,fun i k hk=>?_⟩
   obtain ⟨q,e1,e2⟩:=g2 i k hk
   rw[hg _ _ e2]
   exact h3 i q e1
 |ref k o | own k t s n | view k o n | pr k t s n x | refx k o b | mpx k b | bnd f k o | ownx k t s n u | mp k=>
  unfold rn at h
  rw[Option.map_eq_some_iff] at h
  obtain ⟨j,hj,rfl⟩:=h
  simp only[kT,hg k j hj]
theorem rn_mo{ks:List Nat}{x:SV}{ob:Obj}(h:rn ks x=some (.mo ob)):x=.mo ob:=by
 cases x with
 |mo o=>injection h with h
 |d x=>cases h
 |emp=>cases h
 |junk=>cases h
 |ref k o | own k t s n | view k o n | pr k t s n x | refx k o b | mpx k b | bnd f k o | ownx k t s n u | mp k | clo f l=>
  unfold rn at h
  rw[Option.map_eq_some_iff] at h
  obtain ⟨_,_,h⟩:=h
  cases h
theorem rnL_mo{ks:List Nat}{c:List SV}{ob:Obj}(h:rnL ks c=some [.mo ob]):c=[.mo ob]:=by
 obtain ⟨h1,h2⟩:=rnL_get h
 match c,h1,h2 with
 |[x],_,h2=>
  obtain ⟨x',e1,e2⟩:=(h2 0).2 _ rfl
  simp at e1;subst e1
  rw[rn_mo e2]
theorem blk_rn{w:World}{D:kV}{β γ:kU}{ks:List Nat}{k j:Nat}{c c2:List SV}(h:rnL ks c=some c2)(hk:ks[k]?=some j)(hg:∀ k j,ks[k]?=some j->γ k=β j):uC w D γ k c↔uC w D β j c2:=by
 obtain ⟨h1,h2⟩:=rnL_get h
 have e:=hg k j hk
 constructor
 ·rintro ((⟨g1,g2⟩ | ⟨b,ob,g1,g2,g3,g4,g5⟩) | ⟨b,vs,T,g1,g2,g3,g4,g5⟩)
  ·subst g2
   exact .inl (.inl ⟨e.symm.trans g1,List.eq_nil_of_length_eq_zero (by simpa using h1)⟩)
  ·subst g4
   injection h with h;subst h
   exact .inl (.inr ⟨b,ob,e.symm.trans g1,g2,g3,rfl,g5⟩)
  ·refine .inr ⟨b,vs,T,e.symm.trans g1,g2,by omega,fun i y hy=>?_,g5⟩
   obtain ⟨x,e1,e2⟩:=(h2 i).2 y hy
   obtain ⟨u,f1,f2,f3⟩:=g4 i x e1
   exact ⟨u,f1,f2,(rep_rn e2 hg).1 f3⟩
 ·rintro ((⟨g1,g2⟩ | ⟨b,ob,g1,g2,g3,g4,g5⟩) | ⟨b,vs,T,g1,g2,g3,g4,g5⟩)
  ·subst g2
   exact .inl (.inl ⟨e.trans g1,List.eq_nil_of_length_eq_zero (by simpa using h1.symm)⟩)
  ·subst g4
   exact .inl (.inr ⟨b,ob,e.trans g1,g2,g3,rnL_mo h,g5⟩)
  ·refine .inr ⟨b,vs,T,e.trans g1,g2,by omega,fun i x hx=>?_,g5⟩
   obtain ⟨y,e1,e2⟩:=(h2 i).1 x hx
   obtain ⟨u,f1,f2,f3⟩:=g4 i y e1
   exact ⟨u,f1,f2,(rep_rn e2 hg).2 f3⟩
inductive RBi (ks:List Nat):BS->BS->Prop
 |nil:RBi ks [] []
 |cons {k j:Nat} {c c2:List SV} {B B2:BS} (hk:ks[k]?=some j) (hc:rnL ks c=some c2) (h:RBi ks B B2):RBi ks ((k,some c)::B) ((j,some c2)::B2)
def ndI:List Nat->Bool
 |[]=>true
 |k::ks=>!(eE ks k)&&ndI ks
theorem iH:∀ {ks:List Nat},ndI ks=true->∀ {k q j:Nat},ks[k]?=some j->ks[q]?=some j->k=q
 |[],_,k,q,j,h1,_=>by simp at h1
 |p::ks,h,k,q,j,h1,h2=>by
  simp only[ndI,Bool.and_eq_true,Bool.not_eq_true'] at h
  have hno:∀ i:Nat,ks[i]?≠some p:=fun i e=>by
   have:=yE.2 (List.mem_of_getElem? e);rw[h.1] at this;cases this
  cases k with
  |zero=>
   cases q with
   |zero=>rfl
   |succ q=>simp at h1 h2;subst h1;exact absurd h2 (hno q)
  |succ k=>
   cases q with
   |zero=>simp at h1 h2;subst h2;exact absurd h1 (hno k)
   |succ q=>simp at h1 h2;rw[iH h.2 h1 h2]
theorem RBi.to{ks:List Nat}(hn:ndI ks=true){B B2:BS}(h:RBi ks B B2):∀ {k:Nat} {c:List SV},jZ B k=some c->∃ j c2,ks[k]?=some j/\jZ B2 j=some c2/\rnL ks c=some c2:=by
 induction h with
 |nil=>intro k c hk;simp [jZ] at hk
 |@cons q j c1 c2 B B2 hk hc h ih=>
  intro k c hg
  rw[jJ] at hg
  split at hg
  ·rename_i e;subst e
   injection hg with hg;subst hg
   exact ⟨j,c2,hk,by rw[jJ,if_pos rfl],hc⟩
  ·rename_i hne
   obtain ⟨j',d,h1,h2,h3⟩:=ih hg
   exact ⟨j',d,h1,by rw[jJ,if_neg (fun e=>by subst e;exact hne (iH hn hk h1)),h2],h3⟩
theorem RBi.back{ks:List Nat}(hn:ndI ks=true){B B2:BS}(h:RBi ks B B2):∀ {j:Nat} {c2:List SV},jZ B2 j=some c2->∃ k c,ks[k]?=some j/\jZ B k=some c/\rnL ks c=some c2:=by
 induction h with
 |nil=>intro k c hk;simp [jZ] at hk
 |@cons q j c1 c2 B B2 hk hc h ih=>
  intro i d hg
  rw[jJ] at hg
  split at hg
  ·rename_i e;subst e
   injection hg with hg;subst hg
   exact ⟨q,c1,hk,by rw[jJ,if_pos rfl],hc⟩
  ·rename_i hne
   obtain ⟨k,c,h1,h2,h3⟩:=ih hg
   exact ⟨k,c,h1,by rw[jJ,if_neg (fun e=>by subst e;rw[hk] at h1;injection h1 with h1;exact hne h1),h2],h3⟩
theorem RBi.some{ks:List Nat}{B B2:BS}(h:RBi ks B B2):∀ p∈B2,∃ c,p.2=.some c:=by
 induction h with
 |nil=>intro p hp;cases hp
 |cons hk hc h ih=>
  intro p hp
  rcases List.mem_cons.1 hp with e | e
  ·subst e;exact ⟨_,rfl⟩
  ·exact ih p e
def pinI(ks:List Nat)(j:Nat):SV->Bool
 |.ref k _=>decide (ks[k]?=some j)
 |.clo _ l=>l.any fun k=>decide (ks[k]?=some j)&&!Nat.beq k 9
 |_=>false
inductive FixI (ks:List Nat) (B B':BS):List Nat->Prop
 |nil:FixI ks B B' []
 |cons {k q o b j:Nat} {G:List Nat} (hj:ks[k]?=some j) (h1:jZ B q=some [.refx k o b]) (h2:jZ B' q=some [.refx k o b]) (h:FixI ks B B' G):FixI ks B B' (j::G)
theorem FixI.at{ks:List Nat}{B B':BS}{G:List Nat}(h:FixI ks B B' G){j:Nat}(hj:j∈G):∃ k q o b,ks[k]?=some j/\jZ B q=some [.refx k o b]/\jZ B' q=some [.refx k o b]:=by
 induction h with
 |nil=>cases hj
 |cons e h1 h2 h ih=>
  rcases List.mem_cons.1 hj with rfl | hj
  ·exact ⟨_,_,_,_,e,h1,h2⟩
  ·exact ih hj
section
variable {P:Program}
theorem effI{xs:List SV}{B B2:BS}{r x:SV}{B' B2':BS}{ks mv G:List Nat}{w w':World}{D D':kV}{β β':kU}{v:Value}(hn:ndI ks=true)(hB:RBi ks B B2)(hB':RBi ks B' B2')(hr:rn ks r=some x)
  (hG:FixI ks B B' G) (hmv:(ks.all fun j=>eE mv j||(xs.any (pinI ks j))||eE G j)=true) (γ:kU) (hγ:∀ k j,ks[k]?=some j->γ k=β j) (hp:SPost w D γ xs B r B' v w' D' β') (hmem:Mem w D γ B):∃ βn,SEff w D β B2 B2' mv v x w' D' βn:=by
 obtain ⟨βn,hβ1,hβ2⟩:∃ βn:kU,(∀ k j,ks[k]?=some j->β' k=βn j)/\∀ j,j∉ks->βn j=β j:=by
  classical
  refine ⟨fun j=>if h:∃ k,ks[k]?=some j then β' h.choose else β j,fun k j hk=>?_,fun j h1=>?_⟩
  ·have hx:∃ q,ks[q]?=some j:=⟨k,hk⟩
   show β' k=(if h:∃ q,ks[q]?=some j then β' h.choose else β j)
   rw[dif_pos hx,iH hn hx.choose_spec hk]
  ·show (if h:∃ q,ks[q]?=some j then β' h.choose else β j)=β j
   rw[dif_neg]
   rintro ⟨k,hk⟩
   exact h1 (List.mem_of_getElem? hk)
 have hmine:∀ b,zY γ B b->zY β B2 b:=fun b ⟨k,c,h1,h2⟩=>by
  obtain ⟨j,c2,e1,e2,_⟩:=hB.to hn h1
  exact ⟨j,c2,e2,(hγ _ _ e1).symm.trans h2⟩
 refine ⟨βn,⟨⟨hp.below.os,hp.below.tape,hp.below.output,hp.below.size,fun k hk hm=>hp.below.block k hk fun h=>hm (hmine k h),hp.below.shape⟩,hp.keep,fun k o hk ho hmp=>hp.oth k o hk ho fun e hq=>hmp e (hmine k hq),hp.up,fun t g o hd=>?_,hp.dok,⟨fun j c hj=>?_,fun j1 j2 c1 c2 q1 q2 b e1 e2=>?_⟩,fun j c hj b hb=>?_,fun j hj=>?_,(rep_rn hr hβ1).1 hp.res⟩⟩
 ·rcases hp.new t g o hd with h | h | h
  ·exact .inl h
  ·exact .inr (.inl h)
  ·exact .inr (.inr (hmine g h))
 ·obtain ⟨k,c0,e1,e2,e3⟩:=hB'.back hn hj
  exact (blk_rn e3 e1 hβ1).1 (hp.mem.ok k c0 e2)
 ·obtain ⟨k1,d1,f1,f2,_⟩:=hB'.back hn q1
  obtain ⟨k2,d2,g1,g2,_⟩:=hB'.back hn q2
  rw[<- hβ1 _ _ f1] at e1
  rw[<- hβ1 _ _ g1] at e2
  have:=hp.mem.inj k1 k2 d1 d2 f2 g2 b e1 e2
  subst this
  rw[f1] at g1
  injection g1
 ·obtain ⟨k,d,f1,f2,_⟩:=hB'.back hn hj
  rw[<- hβ1 _ _ f1] at hb
  rcases hp.high k d f2 b hb with h | h
  ·exact .inl h
  ·exact .inr (hmine b h)
 ·by_cases hjk:j∈ks
  ·have h1:=List.all_eq_true.1 hmv j hjk
   rw[Bool.or_eq_true,Bool.or_eq_true] at h1
   rcases h1 with (h1 | h1) | h1
   ·exact absurd (yE.1 h1) hj
   ·obtain ⟨y,hy,e⟩:=List.any_eq_true.1 h1
    obtain ⟨i,hi⟩:=List.getElem?_of_mem hy
    cases y with
    |ref q o=>
     have e:=of_decide_eq_true e
     rw[<- hβ1 _ _ e,<- hγ _ _ e]
     exact hp.same i _ hi q (by simp [SV.pins])
    |clo g js=>
     obtain ⟨q,hq,e⟩:=List.any_eq_true.1 e
     rw[Bool.and_eq_true] at e
     have e1:=of_decide_eq_true e.1
     rw[<- hβ1 _ _ e1,<- hγ _ _ e1]
     exact hp.same i _ hi q (List.any_eq_true.2 ⟨q,hq,by rw[e.2];simp⟩)
    |_=>cases e
   ·obtain ⟨k,q,o,b,e,g1,g2⟩:=hG.at (yE.1 h1)
    have e1:=refx_at hmem g1
    have e2:=refx_at hp.mem g2
    rw[<- hβ1 _ _ e,<- hγ _ _ e,e2]
    exact e1.symm
  ·exact hβ2 j hjk
def CallV(P:Program)(o:Oper)(S:Nat->SV)(f:FuncId)(ys:List SV):Prop :=
 callB P f=true->∀ (a:Act) (w:World) (D:kV) (β:kU),(∀ q∈o.op.operands,kT w D β (a.eval q) (ev S q)) ->
  ∃ us:List Value,(execOp a.eval o).run P w=.ok (.enter f us.toArray) w/\us.length=ys.length/\∀ (i:Nat) v x,us[i]?=some v->ys[i]?=some x->kT w D β v x
theorem callV_fn{o:Oper}{S:Nat->SV}{y:Operand}{args:List Operand}{ats:Array TypeId}{ex:List SV}{f:FuncId}{ys:List SV}(ho:o.op=.call { callee:=.value y,args:=args.toArray,argTypes:=ats })(hy:FnV S y f ex)(hx:args.map (ev S)++ex=ys):CallV P o S f ys:=fun hm a w D β hop=>by
 obtain ⟨us,hrun,hul,hur⟩:=fnv_run hop ho hm hy
 refine ⟨args.map a.eval++us,hrun,by rw[<- hx];simp [hul],fun i v z hv e1=>?_⟩
 rw[<- hx] at e1
 by_cases hlt:i<args.length
 ·rw[List.getElem?_append_left (by simpa using hlt)] at hv e1
  rw[List.getElem?_map,Option.map_eq_some_iff] at hv
  obtain ⟨p,hqi,rfl⟩:=hv
  have hm:=hop p (by simp [ho,Op.operands,Call.operands,List.mem_of_getElem? hqi])
  rw[List.getElem?_map,hqi,Option.map_some,Option.some.injEq] at e1
  rw[<- e1];exact hm
 ·rw[List.getElem?_append_right (by simpa using hlt)] at hv e1
  simp only[List.length_map] at hv e1
  exact hur _ v _ hv e1
theorem sok_of{o:Oper}{S:Nat->SV}{f:FuncId}{xs ys:List SV}{B B2:BS}{r x:SV}{B' B2':BS}{ks mv G:List Nat}
  (hf:uI P f xs B r B') (hc:CallV P o S f ys) (hxs:rnL ks xs=some ys) (hn:ndI ks=true)
  (hB:RBi ks B B2) (hB':RBi ks B' B2') (hr:rn ks r=some x) (hG:FixI ks B B' G) (hmv:(ks.all fun j=>eE mv j||(xs.any (pinI ks j))||eE G j)=true):SOk P o S B2 B2' mv x:=fun a w D β Q hop hmem2 hD=>by
 obtain ⟨us,hrun,hul,hur⟩:=hc hf.may a w D β hop
 obtain ⟨γ,hγ⟩:∃ γ:kU,∀ k j,ks[k]?=some j->γ k=β j:=⟨fun k=>(ks[k]?).bind β,fun k j hk=>by show (ks[k]?).bind β=β j;rw[hk];rfl⟩
 have hmem:Mem w D γ B:=⟨fun k c hk=>by
  obtain ⟨j,c2,e1,e2,e3⟩:=hB.to hn hk
  exact (blk_rn e3 e1 hγ).2 (hmem2.ok j c2 e2),fun k1 k2 c1 c2 q1 q2 b e1 e2=>by
  obtain ⟨j1,d1,f1,f2,_⟩:=hB.to hn q1
  obtain ⟨j2,d2,g1,g2,_⟩:=hB.to hn q2
  rw[hγ _ _ f1] at e1
  rw[hγ _ _ g1] at e2
  have:=hmem2.inj j1 j2 d1 d2 f2 g2 b e1 e2
  subst this
  exact iH hn f1 g1⟩
 obtain ⟨hl1,hl2⟩:=rnL_get hxs
 have qO:us.length=xs.length:=hul.trans hl1
 have hrep:∀ (i:Nat) v z,us[i]?=some v->xs[i]?=some z->kT w D γ v z:=fun i v z hv hz=>by
  obtain ⟨y',e1,e2⟩:=(hl2 i).1 z hz
  exact (rep_rn e2 hγ).2 (hur i v y' hv e1)
 refine mF hrun ((hf.run w D γ _ hD hmem qO hrep).mono fun e w' h=>?_)
 obtain ⟨v,D',β',he,hp⟩:=h
 obtain ⟨βn,hE⟩:=effI hn hB hB' hr hG hmv γ hγ hp hmem
 exact ⟨v,he,v,D',βn,rfl,hE⟩
end
theorem sok_sim{P:Program}{o:Oper}{C:Ctx}{a:Act}{w:World}{S0:SL}{B0 old new:BS}{mv:List Nat}{x:SV}{Q:Exit->Act->World->Prop}(h:SOk P o (kA S0) old new mv x)(hd:gZ C.n o.dst=true)(hb:∀ p∈old,∃ c,p.2=some c/\jZ B0 p.1=some c)(hks:new.map (·.1)=old.map (·.1))
  (hm:∀ k∈mv,k∈old.map (·.1)/\clrM (old.map (·.1)) k ⟨S0,B0⟩) (hs:cJ C a w ⟨S0,B0⟩):o.wp P a w (fun a' w'=>cJ C a' w' ⟨aE o.dst x S0,new++B0⟩) Q:=by
 obtain ⟨D,β,hs⟩:=hs
 have hop:∀ q,kT w D β (a.eval q) (ev (kA S0) q):=fun q=>by
  cases q with
  |tmp t=>exact hs.slots t
  |const v=>exact uQ.val v
  |func f=>exact uQ.val _
  |global g=>trivial
 have hcur:∀ k c,jZ old k=some c->jZ B0 k=some c:=fun k c hk=>by
  obtain ⟨c',e1,e2⟩:=hb _ (cX hk)
  injection e1 with e1;subst e1;exact e2
 have hmem:Mem w D β old:=⟨fun k c hk=>hs.mem.ok k c (hcur k c hk),fun k1 k2 c1 c2 q1 q2=>hs.mem.inj k1 k2 c1 c2 (hcur _ _ q1) (hcur _ _ q2)⟩
 refine Oper.wp_mono (fun a' wd' hp=>?_) (h a w D β Q (fun q _=>hop q) hmem hs.base.dok)
 obtain ⟨v,D',β',rfl,hE⟩:=hp
 have hmine:∀ b,zY β old b->C.own b:=fun b ⟨k,c,h1,h2⟩=>hs.high k c (hcur k c h1) b h2
 have hbase:fZ C a wd' D':=⟨hs.base.defers.keep fun q hq _=>hE.oth q _ hq rfl (fun e=>by cases e),hs.base.size,fun t g o hd=>(hE.keep t g o (hs.base.dmono _ _ _ hd)).trans (hs.base.keep t g o hd),fun k o hk ho hmp=>hE.oth k o (hs.base.oth k o hk ho hmp) ho (fun e hq=>hmp e (hmine k hq)),hs.base.pin,
  ⟨hE.below.os.trans hs.base.below.os,hE.below.tape.trans hs.base.below.tape,hE.below.output.trans hs.base.below.output,Nat.le_trans hs.base.below.size hE.below.size,fun k hk hn=>(hE.below.block k (Nat.lt_of_lt_of_le hk hs.base.below.size) (fun hq=>by rcases hmine k hq with h1 | h1;omega;exact hn h1)).trans (hs.base.below.block k hk hn),fun k hk vs T f h1=>by
   obtain ⟨us,e1,e2⟩:=hs.base.below.shape k hk vs T f h1
   obtain ⟨us',g1,g2⟩:=hE.below.shape k (Nat.lt_of_lt_of_le hk hs.base.below.size) us T f e1
   exact ⟨us',g1,g2.trans e2⟩⟩,
  fun t g o hd=>hE.up _ _ _ (hs.base.dmono _ _ _ hd),fun t g o hd=>by
   rcases hE.dnew t g o hd with h1 | h1 | h1
   ·exact hs.base.dnew t g o h1
   ·exact .inr (hs.base.fresh h1)
   ·exact .inr (hmine g h1),hE.dok⟩
 have hkmv:∀ {k},k∉old.map (·.1)->k∉mv:=fun h1 h2=>h1 (hm _ h2).1
 have hnot:∀ {j c b},j∉old.map (·.1)->jZ B0 j=some c->β j=some b->¬ zY β old b:=fun {j c b} hj hc hb ⟨k,c',h1,h2⟩=>by
  have:=hs.mem.inj j k _ _ hc (hcur k c' h1) b hb h2
  subst this
  exact hj (bget_in h1).1
 have hcase:∀ {j c},jZ (new++B0) j=some c->(j∈old.map (·.1)/\jZ new j=some c)\/(j∉old.map (·.1)/\jZ B0 j=some c):=fun {j c} hc=>by
  by_cases hj:j∈old.map (·.1)
  ·rw[iW (by rw[hks];exact hj)] at hc
   exact .inl ⟨hj,hc⟩
  ·rw[bget_other (by rw[hks];exact hj)] at hc
   exact .inr ⟨hj,hc⟩
 have hlt:∀ {j c b},jZ B0 j=some c->β j=some b->b<w.heap.size:=fun {j c b} hj hb'=>by
  exact (hs.mem.ok j c hj).lt hb'
 refine ⟨D',β',hbase.put hd _,⟨fun j c hc'=>?_,fun k1 k2 c1 c2 q1 q2 b e1 e2=>?_⟩,fun j c hc' b hb'=>?_,fun t=>?_⟩
 ·rcases hcase hc' with ⟨h1,h2⟩ | ⟨h1,h2⟩
  ·exact hE.mem.ok j c h2
  ·refine hE.blk (hkmv h1) (fun b hb=>hnot h1 h2 hb) (fun q hq=>?_) (hs.mem.ok j c h2)
   rcases (hm q hq).2.2 _ (cX h2) with h | h
   ·exact absurd h h1
   ·exact h c rfl
 ·rcases hcase q1 with ⟨h1,h2⟩ | ⟨h1,h2⟩
  ·rcases hcase q2 with ⟨g1,g2⟩ | ⟨g1,g2⟩
   ·exact hE.mem.inj k1 k2 _ _ h2 g2 b e1 e2
   ·rw[hE.stay k2 (hkmv g1)] at e2
    rcases hE.high k1 _ h2 b e1 with h | h
    ·have:=hlt g2 e2;omega
    ·exact absurd h (hnot g1 g2 e2)
  ·rw[hE.stay k1 (hkmv h1)] at e1
   rcases hcase q2 with ⟨g1,g2⟩ | ⟨g1,g2⟩
   ·rcases hE.high k2 _ g2 b e2 with h | h
    ·have:=hlt h2 e1;omega
    ·exact absurd h (hnot h1 h2 e1)
   ·rw[hE.stay k2 (hkmv g1)] at e2
    exact hs.mem.inj k1 k2 _ _ h2 g2 b e1 e2
 ·rcases hcase hc' with ⟨h1,h2⟩ | ⟨h1,h2⟩
  ·rcases hE.high j _ h2 b hb' with h | h
   ·exact hs.base.fresh h
   ·exact hmine b h
  ·rw[hE.stay j (hkmv h1)] at hb'
   exact hs.high j c h2 b hb'
 ·rw[vH hs.base.size hd,uU]
  split
  ·exact hE.res
  ·exact hE.repS (fun k hk=>sl_clr (l:=[]) (r:=S0) (hm k hk).2 rfl t) (hs.slots t)
inductive FrM (ks mv:List Nat):BS->Prop
 |nil:FrM ks mv []
 |hid {k:Nat} {x:Option (List SV)} {B:BS} (hk:eE ks k=true) (h:FrM ks mv B):FrM ks mv ((k,x)::B)
 |none {k:Nat} {B:BS} (h:FrM ks mv B):FrM ks mv ((k,.none)::B)
 |dat {k:Nat} {ds:List jQ} {B:BS} (h:FrM ks mv B):FrM ks mv ((k,some (ds.map SV.d))::B)
 |map {α:Type} {k:Nat} {G:α->jQ} {L:List α} {B:BS} (h:FrM ks mv B):FrM ks mv ((k,some (L.map fun g=>SV.d (G g)))::B)
 |cells {k:Nat} {c:List SV} {B:BS} (hc:(mv.all fun q=>!(qF q c))=true) (h:FrM ks mv B):FrM ks mv ((k,some c)::B)
theorem namesAny_dat(k:Nat)(ds:List jQ):qF k (ds.map SV.d)=false:=by
 unfold qF
 rw[List.any_eq_false]
 intro x hx
 obtain ⟨d,_,rfl⟩:=List.mem_map.1 hx
 simp [SV.names]
theorem namesAny_mapd{α:Type}(k:Nat)(G:α->jQ)(L:List α):qF k (L.map fun g=>SV.d (G g))=false:=by
 unfold qF
 rw[List.any_eq_false]
 intro x hx
 obtain ⟨d,_,rfl⟩:=List.mem_map.1 hx
 simp [SV.names]
theorem FrM.ok{ks mv:List Nat}{B:BS}(h:FrM ks mv B){k:Nat}(hk:k∈mv):∀ p∈B,p.1∈ks\/∀ c,p.2=some c->qF k c=false:=by
 induction h with
 |nil=>intro p hp;cases hp
 |hid hk' h ih=>
  intro p hp;rcases List.mem_cons.1 hp with e | e
  ·subst e;exact .inl (yE.1 hk')
  ·exact ih p e
 |none h ih=>
  intro p hp;rcases List.mem_cons.1 hp with e | e
  ·subst e;exact .inr fun c hc=>by cases hc
  ·exact ih p e
 |dat h ih=>
  intro p hp;rcases List.mem_cons.1 hp with e | e
  ·subst e;exact .inr fun c hc=>by injection hc with hc;subst hc;exact namesAny_dat _ _
  ·exact ih p e
 |map h ih=>
  intro p hp;rcases List.mem_cons.1 hp with e | e
  ·subst e;exact .inr fun c hc=>by injection hc with hc;subst hc;exact namesAny_mapd _ _ _
  ·exact ih p e
 |cells hc h ih=>
  intro p hp;rcases List.mem_cons.1 hp with e | e
  ·subst e;exact .inr fun c hc'=>by injection hc' with hc';subst hc';simpa using List.all_eq_true.1 hc k hk
  ·exact ih p e
inductive NmM (news mv:List Nat):BS->Prop
 |nil:NmM news mv []
 |dat {k:Nat} {ds:List jQ} {B:BS} (h:NmM news mv B):NmM news mv ((k,some (ds.map SV.d))::B)
 |map {α:Type} {k:Nat} {G:α->jQ} {L:List α} {B:BS} (h:NmM news mv B):NmM news mv ((k,some (L.map fun g=>SV.d (G g)))::B)
 |cells {k:Nat} {c:List SV} {B:BS} (hc:(news.all fun q=>!(qF q c)||eE mv q)=true) (h:NmM news mv B):NmM news mv ((k,some c)::B)
theorem NmM.ok{news mv:List Nat}{B:BS}(h:NmM news mv B):∀ p∈B,∀ c,p.2=some c->∀ k∈news,qF k c=true->k∈mv:=by
 induction h with
 |nil=>intro p hp;cases hp
 |dat h ih=>
  intro p hp;rcases List.mem_cons.1 hp with e | e
  ·subst e;exact fun c hc k _ hn=>by injection hc with hc;subst hc;rw[namesAny_dat] at hn;cases hn
  ·exact ih p e
 |map h ih=>
  intro p hp;rcases List.mem_cons.1 hp with e | e
  ·subst e;exact fun c hc k _ hn=>by injection hc with hc;subst hc;rw[namesAny_mapd] at hn;cases hn
  ·exact ih p e
 |cells hc h ih=>
  intro p hp;rcases List.mem_cons.1 hp with e | e
  ·subst e;exact fun c hc' k hk hn=>by
                                      injection hc' with hc';subst hc'
                                      have:=List.all_eq_true.1 hc k hk
                                      rw[hn] at this
                                      exact yE.1 this
  ·exact ih p e
section
variable {P:Program} {n:Fr} {ops:Array Oper} {K:SL->BS->Prop} {S:SL} {B:BS} {l:List Oper} {o:Oper} {news:List Nat} {acc0:List (List Nat × List Nat)}
theorem wS{f:FuncId}{xs:List SV}{B1:BS}{r:SV}{B1':BS}(ks mv:List Nat)(x:SV)(ys:List SV)(B2 B2':BS)(hf:uI P f xs B1 r B1')(hB:RBi ks B1 B2)(hB':RBi ks B1' B2')(hM:FrM (B2.map (·.1)) mv B)(hN:NmM news mv B2')
  (rr:DK P n ops K (mv++news) (acc0++[(B2.map (·.1),B2.map (·.1))]) ((dO o,x)::S) (B2'++B) l) (hc:CallV P o (kA S) f ys:=by exact callV_fn (ex:=[]) (by exact rfl) (.fn (by kernel_rfl)) (by kernel_rfl)) (g:goK n ops S o=true:=by kernel_rfl)
  (hxs:rnL ks xs=some ys:=by kernel_rfl) (hr:rn ks r=some x:=by kernel_rfl) (hn:ndI ks=true:=by kernel_rfl) (hb:B2.map (fun p=>jZ B p.1)=B2.map (·.2):=by kernel_rfl) (hks:B2'.map (·.1)=B2.map (·.1):=by kernel_rfl)
  (hsl:(S.all fun p=>mv.all fun k=>!p.2.names k)=true:=by kernel_rfl) (hin:(mv.all fun k=>eE (B2.map (·.1)) k)=true:=by kernel_rfl) (hcl:((mv++news).all fun k=>!x.names k)=true:=by kernel_rfl)
  (G:List Nat:=[]) (hG:FixI ks B1 B1' G:=by exact .nil) (hmv:(ks.all fun j=>eE mv j||(xs.any (pinI ks j))||eE G j)=true:=by kernel_rfl):DK P n ops K news acc0 S B (o::l):=by
 obtain ⟨st1,acc,r1,r0,r2⟩:=rr
 obtain ⟨hd,hg,hdB⟩:=zW g
 have hb':∀ p∈B2,∃ c,p.2=some c/\jZ B p.1=some c:=fun p hp=>by
  obtain ⟨c,e⟩:=hB.some p hp
  exact ⟨c,e,(List.map_inj_left.1 hb p hp).trans e⟩
 have hs:=nZ.s (P:=P) (n:=n) (ops:=ops) (news:=news) (st:=⟨S,B⟩) (o:=o) (sok_of hf hc hxs hn hB hB' hr hG hmv) hg (by rw[hd];exact hdB) hb' hks (wk:=B2.map (·.1)) (fun _ h=>h) (fun _ h hn=>absurd h hn)
  (fun k hk=>⟨yE.1 (List.all_eq_true.1 hin k hk),fun p hp=>by simpa using List.all_eq_true.1 (List.all_eq_true.1 hsl p hp) k hk,hM.ok hk⟩)
  (fun k hk=>by simpa using List.all_eq_true.1 hcl k (List.mem_append.2 hk)) hN.ok
 rw[hd] at hs
 exact ⟨st1,(B2.map (·.1),B2.map (·.1))::acc,.cons hs r1,by simpa using r0,r2⟩
end
section
variable {P:Program} {n:Fr} {ops:Array Oper} {K:SL->BS->Prop} {S:SL} {B:BS} {l:List Oper} {o:Oper}
end
section
variable {P:Program}
end
def ixN:List Nat->Nat->Nat->Option Nat
 |[],_,_=>none
 |k::ks,i,j=>bif Nat.beq k j then some i else ixN ks (i+1) j
theorem fA:∀ {ks:List Nat} {i j q:Nat},ixN ks i j=some q->i<=q/\ks[q-i]?=some j
 |[],i,j,q,h=>by cases h
 |k::ks,i,j,q,h=>by
  unfold ixN at h
  cases hb:Nat.beq k j with
  |true=>
   rw[hb] at h
   injection h with h;subst h
   rw[Nat.sub_self,gK hb]
   exact ⟨Nat.le_refl _,rfl⟩
  |false=>
   rw[hb] at h
   obtain ⟨h1,h2⟩:=fA (ks:=ks) h
   refine ⟨by omega,?_⟩
   rw[show q-i=(q-(i+1))+1 by omega]
   exact h2
def rawS(ks:List Nat):SV->Bool
 |.own k _ _ _=>(ixN ks 0 k).isNone
 |_=>false
def bkc(ks:List Nat)(u:Value):SV->Option SV
 |.d x=>some (.d x)
 |.own k t s n=>match ixN ks 0 k with
  |some i=>some (.own i t s n)
  |none=>some (.d (.val u))
 |.ref k o=>(ixN ks 0 k).map fun i=>.ref i o
 |.refx k o b=>(ixN ks 0 k).map fun i=>.refx i o b
 |.mpx k b=>(ixN ks 0 k).map fun i=>.mpx i b
 |_=>none
def bkL(ks:List Nat)(U:Nat->Value):Nat->List SV->Option (List SV)
 |_,[]=>some []
 |i,y::c=>match bkc ks (U i) y,bkL ks U (i+1) c with
  |some x,some l=>some (x::l)
  |_,_=>none
theorem eW(ks:List Nat)(U:Nat->Value):∀ (ds:List jQ) (i:Nat),bkL ks U i (ds.map SV.d)=some (ds.map SV.d)
 |[],_=>rfl
 |x::ds,i=>by rw[List.map_cons,bkL,eW ks U ds (i+1)];rfl
theorem bkL_get{ks:List Nat}{U:Nat->Value}:∀ {c2 c:List SV} {j:Nat},bkL ks U j c2=some c->c.length=c2.length/\∀ i:Nat,(∀ y,c2[i]?=some y->∃ x,c[i]?=some x/\bkc ks (U (j+i)) y=some x)/\∀ x,c[i]?=some x->∃ y,c2[i]?=some y/\bkc ks (U (j+i)) y=some x
 |[],c,j,h=>by
  injection h with h;subst h
  exact ⟨rfl,fun i=>⟨fun x hx=>by simp at hx,fun y hy=>by simp at hy⟩⟩
 |y::l,c,j,h=>by
  unfold bkL at h
  split at h
  ·rename_i x l' hy hl
   injection h with h;subst h
   obtain ⟨h1,h2⟩:=bkL_get hl
   refine ⟨by simp [h1],fun i=>?_⟩
   cases i with
   |zero=>exact ⟨fun z hz=>by simp at hz;subst hz;exact ⟨x,rfl,hy⟩,fun z hz=>by simp at hz;subst hz;exact ⟨y,rfl,hy⟩⟩
   |succ i=>
    obtain ⟨g1,g2⟩:=h2 i
    rw[show j+1+i=j+(i+1) by omega] at g1 g2
    exact ⟨fun z hz=>g1 z (by simpa using hz),fun z hz=>g2 z (by simpa using hz)⟩
  ·cases h
theorem bkc_mo{ks:List Nat}{u:Value}{y:SV}{ob:Obj}(h:bkc ks u y=some (.mo ob)):False:=by
 cases y with
 |own k t s n=>unfold bkc at h;dsimp only at h;split at h<;>cases h
 |ref k o | refx k o b | mpx k b=>unfold bkc at h;rw[Option.map_eq_some_iff] at h;obtain ⟨_,_,h⟩:=h;cases h
 |_=>cases h
theorem bkL_mo{ks:List Nat}{U:Nat->Value}{j:Nat}{c:List SV}{ob:Obj}(h:bkL ks U j c=some [.mo ob]):False:=by
 obtain ⟨h1,h2⟩:=bkL_get h
 match c,h1,h2 with
 |[y],_,h2=>
  obtain ⟨x,e1,e2⟩:=(h2 0).1 _ rfl
  simp at e1;subst e1
  exact bkc_mo e2
theorem bkc_to{w:World}{D:kV}{β γ:kU}{ks:List Nat}{u:Value}{x y:SV}(h:bkc ks u y=some x)(hg:∀ k j,ks[k]?=some j->γ k=β j)(hu:kT w D β u y):kT w D γ u x:=by
 cases y with
 |d z=>injection h with h;subst h;exact hu
 |own k t s n=>
  unfold bkc at h
  dsimp only at h
  split at h
  ·rename_i i hi
   injection h with h;subst h
   have e:=hg i k (by simpa using (fA hi).2)
   simp only[kT,e]
   exact hu
  ·injection h with h;subst h
   exact uQ.val u
 |ref k o=>
  unfold bkc at h
  rw[Option.map_eq_some_iff] at h
  obtain ⟨i,hi,rfl⟩:=h
  have e:=hg i k (by simpa using (fA hi).2)
  simp only[kT,e]
  exact hu
 |refx k o b=>
  unfold bkc at h
  rw[Option.map_eq_some_iff] at h
  obtain ⟨i,hi,rfl⟩:=h
  have e:=hg i k (by simpa using (fA hi).2)
  simp only[kT,e]
  exact hu
 |mpx k b=>
  unfold bkc at h
  rw[Option.map_eq_some_iff] at h
  obtain ⟨i,hi,rfl⟩:=h
  have e:=hg i k (by simpa using (fA hi).2)
  simp only[kT,e]
  exact hu
 |_=>cases h
theorem bkc_back{w:World}{D:kV}{β γ:kU}{ks:List Nat}{u v:Value}{x y:SV}(h:bkc ks u y=some x)(hg:∀ k j,ks[k]?=some j->γ k=β j)(hv:kT w D γ v x)(hr:rawS ks y=true->kT w D β u y):kT w D β v y:=by
 cases y with
 |d z=>injection h with h;subst h;exact hv
 |own k t s n=>
  unfold bkc at h
  dsimp only at h
  split at h
  ·rename_i i hi
   injection h with h;subst h
   have e:=hg i k (by simpa using (fA hi).2)
   simp only[kT,e] at hv
   exact hv
  ·rename_i hi
   injection h with h;subst h
   have hv:=vB hv
   subst hv
   exact hr (by simp only[rawS,hi];rfl)
 |ref k o=>
  unfold bkc at h
  rw[Option.map_eq_some_iff] at h
  obtain ⟨i,hi,rfl⟩:=h
  have e:=hg i k (by simpa using (fA hi).2)
  simp only[kT,e] at hv
  exact hv
 |refx k o b=>
  unfold bkc at h
  rw[Option.map_eq_some_iff] at h
  obtain ⟨i,hi,rfl⟩:=h
  have e:=hg i k (by simpa using (fA hi).2)
  simp only[kT,e] at hv
  exact hv
 |mpx k b=>
  unfold bkc at h
  rw[Option.map_eq_some_iff] at h
  obtain ⟨i,hi,rfl⟩:=h
  have e:=hg i k (by simpa using (fA hi).2)
  simp only[kT,e] at hv
  exact hv
 |_=>cases h
inductive RBu (ks:List Nat) (U:Nat->Nat->Value):BS->BS->Prop
 |nil:RBu ks U [] []
 |cons {k j:Nat} {c c2:List SV} {B B2:BS} (hk:ks[k]?=some j) (hc:bkL ks (U j) 0 c2=some c) (h:RBu ks U B B2):RBu ks U ((k,some c)::B) ((j,some c2)::B2)
theorem RBu.to{ks:List Nat}{U:Nat->Nat->Value}(hn:ndI ks=true){B B2:BS}(h:RBu ks U B B2):∀ {k:Nat} {c:List SV},jZ B k=some c->∃ j c2,ks[k]?=some j/\jZ B2 j=some c2/\bkL ks (U j) 0 c2=some c:=by
 induction h with
 |nil=>intro k c hk;simp [jZ] at hk
 |@cons q j c1 c2 B B2 hk hc h ih=>
  intro k c hg
  rw[jJ] at hg
  split at hg
  ·rename_i e;subst e
   injection hg with hg;subst hg
   exact ⟨j,c2,hk,by rw[jJ,if_pos rfl],hc⟩
  ·rename_i hne
   obtain ⟨j',d,h1,h2,h3⟩:=ih hg
   exact ⟨j',d,h1,by rw[jJ,if_neg (fun e=>by subst e;exact hne (iH hn hk h1)),h2],h3⟩
theorem RBu.back{ks:List Nat}{U:Nat->Nat->Value}(hn:ndI ks=true){B B2:BS}(h:RBu ks U B B2):∀ {j:Nat} {c2:List SV},jZ B2 j=some c2->∃ k c,ks[k]?=some j/\jZ B k=some c/\bkL ks (U j) 0 c2=some c:=by
 induction h with
 |nil=>intro k c hk;simp [jZ] at hk
 |@cons q j c1 c2 B B2 hk hc h ih=>
  intro i d hg
  rw[jJ] at hg
  split at hg
  ·rename_i e;subst e
   injection hg with hg;subst hg
   exact ⟨q,c1,hk,by rw[jJ,if_pos rfl],hc⟩
  ·rename_i hne
   obtain ⟨k,c,h1,h2,h3⟩:=ih hg
   exact ⟨k,c,h1,by rw[jJ,if_neg (fun e=>by subst e;rw[hk] at h1;injection h1 with h1;exact hne h1),h2],h3⟩
theorem RBu.some{ks:List Nat}{U:Nat->Nat->Value}{B B2:BS}(h:RBu ks U B B2):∀ p∈B2,∃ c,p.2=.some c:=by
 induction h with
 |nil=>intro p hp;cases hp
 |cons hk hc h ih=>
  intro p hp
  rcases List.mem_cons.1 hp with e | e
  ·subst e;exact ⟨_,rfl⟩
  ·exact ih p e
def unm(ks:List Nat)(c:List SV):List (Option SV):=c.map fun y=>bif rawS ks y then some y else none
inductive OwS (ks:List Nat):BS->BS->Prop
 |nil:OwS ks [] []
 |dat {j:Nat} {ds ds':List jQ} {B B':BS} (h:OwS ks B B'):OwS ks ((j,some (ds.map SV.d))::B) ((j,some (ds'.map SV.d))::B')
 |map {α:Type} {j:Nat} {G G':α->jQ} {L L':List α} {B B':BS} (h:OwS ks B B'):OwS ks ((j,some (L.map fun g=>SV.d (G g)))::B) ((j,some (L'.map fun g=>SV.d (G' g)))::B')
 |cells {j:Nat} {c c':List SV} {B B':BS} (hc:unm ks c'=unm ks c) (h:OwS ks B B'):OwS ks ((j,some c)::B) ((j,some c')::B')
theorem unm_get{ks:List Nat}{c c':List SV}(h:unm ks c'=unm ks c){i:Nat}{y:SV}(hy:c'[i]?=some y)(hr:rawS ks y=true):c[i]?=some y:=by
 have h1:=congrArg (fun l:List (Option SV)=>l[i]?) h
 simp only[unm,List.getElem?_map,hy,Option.map_some,hr,cond_true] at h1
 cases hc:c[i]? with
 |none=>rw[hc] at h1;cases h1
 |some z=>
  rw[hc] at h1
  simp only[Option.map_some,Option.some.injEq] at h1
  cases hz:rawS ks z with
  |true=>rw[hz] at h1;injection h1 with h1;rw[h1]
  |false=>rw[hz] at h1;cases h1
theorem OwS.at{ks:List Nat}{B B':BS}(h:OwS ks B B'):∀ {j:Nat} {c':List SV},jZ B' j=some c'->∃ c,jZ B j=some c/\∀ (i:Nat) y,c'[i]?=some y->rawS ks y=true->c[i]?=some y:=by
 have no:∀ (ds:List jQ) (i:Nat) (y:SV),(ds.map SV.d)[i]?=some y->rawS ks y=true->False:=fun ds i y hy hr=>by
  rw[List.getElem?_map,Option.map_eq_some_iff] at hy
  obtain ⟨d,_,rfl⟩:=hy
  cases hr
 induction h with
 |nil=>intro j c' hj;simp [jZ] at hj
 |@dat q ds ds' B B' h ih=>
  intro j c' hj
  rw[jJ] at hj
  split at hj
  ·rename_i e;subst e
   injection hj with hj;subst hj
   exact ⟨_,by rw[jJ,if_pos rfl],fun i y hy hr=>(no _ _ _ hy hr).elim⟩
  ·rename_i hne
   obtain ⟨c,h1,h2⟩:=ih hj
   exact ⟨c,by rw[jJ,if_neg hne,h1],h2⟩
 |@map α q G G' L L' B B' h ih=>
  intro j c' hj
  rw[jJ] at hj
  split at hj
  ·rename_i e;subst e
   injection hj with hj;subst hj
   exact ⟨_,by rw[jJ,if_pos rfl],fun i y hy hr=>by
    rw[List.getElem?_map,Option.map_eq_some_iff] at hy
    obtain ⟨d,_,rfl⟩:=hy
    cases hr⟩
  ·rename_i hne
   obtain ⟨c,h1,h2⟩:=ih hj
   exact ⟨c,by rw[jJ,if_neg hne,h1],h2⟩
 |@cells q c c' B B' hc h ih=>
  intro j d hj
  rw[jJ] at hj
  split at hj
  ·rename_i e;subst e
   injection hj with hj;subst hj
   exact ⟨c,by rw[jJ,if_pos rfl],fun i y hy hr=>unm_get hc hy hr⟩
  ·rename_i hne
   obtain ⟨c,h1,h2⟩:=ih hj
   exact ⟨c,by rw[jJ,if_neg hne,h1],h2⟩
section
variable {P:Program}
noncomputable def celV (w:World) (β:kU) (j i:Nat):Value:=match β j with
 |some b=>match w.heap[b]? with
  |some (.cells vs _ _)=>vs.getD i undef
  |_=>undef
 |none=>undef
theorem cel_at{w:World}{D:kV}{β:kU}{j:Nat}{c:List SV}(h:uC w D β j c){i:Nat}{y:SV}(hy:c[i]?=some y)(hm:y.isMo=false):∃ b vs T,β j=some b/\w.heap[b]?=some (.cells vs T (0,0))/\vs[i]?=some (celV w β j i)/\(celV w β j i).oneCell'=true/\kT w D β (celV w β j i) y:=by
 rcases h with h | ⟨b,vs,T,h1,h2,h3,h4,_⟩
 ·obtain ⟨_,h2⟩:=h.cells (bF hy hm);subst h2;simp at hy
 ·obtain ⟨u,e1,e2,e3⟩:=h4 i y hy
  have e:celV w β j i=u:=by
   unfold celV
   simp only[h1,h2]
   rw[Array.getD_eq_getD_getElem?,e1];rfl
  rw[e]
  exact ⟨b,vs,T,h1,h2,e1,e2,e3⟩
theorem blk_to{w:World}{D:kV}{β γ:kU}{ks:List Nat}{k j:Nat}{c c2:List SV}(h:bkL ks (celV w β j) 0 c2=some c)(hk:ks[k]?=some j)(hg:∀ k j,ks[k]?=some j->γ k=β j)(hb:uC w D β j c2):uC w D γ k c:=by
 obtain ⟨h1,h2⟩:=bkL_get h
 have e:=hg k j hk
 rcases hb with (⟨g1,g2⟩ | ⟨b,ob,g1,g2,g3,g4,g5⟩) | ⟨b,vs,T,g1,g2,g3,g4,g5⟩
 ·subst g2
  exact .inl (.inl ⟨e.trans g1,List.eq_nil_of_length_eq_zero (by simpa using h1)⟩)
 ·subst g4
  cases h
 ·refine .inr ⟨b,vs,T,e.trans g1,g2,by omega,fun i x hx=>?_,g5⟩
  obtain ⟨y,e1,e2⟩:=(h2 i).2 x hx
  rw[Nat.zero_add] at e2
  obtain ⟨b',vs',T',q1,q2,q3,q4,q5⟩:=cel_at (.inr ⟨b,vs,T,g1,g2,g3,g4,g5⟩) e1 (by cases y<;>first | rfl | cases e2)
  rw[g1] at q1;injection q1 with q1;subst q1
  rw[g2] at q2;injection q2 with q2;injection q2 with q2 _ _;subst q2
  exact ⟨_,q3,q4,bkc_to e2 hg q5⟩
theorem sok_ofU{o:Oper}{S:Nat->SV}{f:FuncId}{xs ys:List SV}{B B':(Nat->Nat->Value)->BS}{B2 B2':BS}{r x:SV}{ks mv:List Nat}
  (hf:∀ U,uI P f xs (B U) r (B' U)) (hc:CallV P o S f ys) (hxs:rnL ks xs=some ys) (hn:ndI ks=true)
  (hB:∀ U,RBu ks U (B U) B2) (hB':∀ U,RBu ks U (B' U) B2') (hO:OwS ks B2 B2') (hr:rn ks r=some x) (G:List Nat) (hG:∀ U,FixI ks (B U) (B' U) G) (hmv:(ks.all fun j=>eE mv j||(xs.any (pinI ks j))||eE G j)=true) (hmk:(mv.all fun j=>eE ks j)=true):SOk P o S B2 B2' mv x:=fun a w D β Q hop hmem2 hD=>by
 obtain ⟨us,hrun,hul,hur⟩:=hc (hf fun _ _=>undef).may a w D β hop
 obtain ⟨γ,hγ⟩:∃ γ:kU,∀ k j,ks[k]?=some j->γ k=β j:=⟨fun k=>(ks[k]?).bind β,fun k j hk=>by show (ks[k]?).bind β=β j;rw[hk];rfl⟩
 have hU:=hB (celV w β)
 have hmem:Mem w D γ (B (celV w β)):=⟨fun k c hk=>by
  obtain ⟨j,c2,e1,e2,e3⟩:=hU.to hn hk
  exact blk_to e3 e1 hγ (hmem2.ok j c2 e2),fun k1 k2 c1 c2 q1 q2 b e1 e2=>by
  obtain ⟨j1,d1,f1,f2,_⟩:=hU.to hn q1
  obtain ⟨j2,d2,g1,g2,_⟩:=hU.to hn q2
  rw[hγ _ _ f1] at e1
  rw[hγ _ _ g1] at e2
  have:=hmem2.inj j1 j2 d1 d2 f2 g2 b e1 e2
  subst this
  exact iH hn f1 g1⟩
 obtain ⟨hl1,hl2⟩:=rnL_get hxs
 have qO:us.length=xs.length:=hul.trans hl1
 have hrep:∀ (i:Nat) v z,us[i]?=some v->xs[i]?=some z->kT w D γ v z:=fun i v z hv hz=>by
  obtain ⟨y',e1,e2⟩:=(hl2 i).1 z hz
  exact (rep_rn e2 hγ).2 (hur i v y' hv e1)
 refine mF hrun (((hf (celV w β)).run w D γ _ hD hmem qO hrep).mono fun e w' h=>?_)
 obtain ⟨v,D',β',he,hp⟩:=h
 refine ⟨v,he,v,D',?_⟩
 obtain ⟨βn,hβ1,hβ2⟩:∃ βn:kU,(∀ k j,ks[k]?=some j->β' k=βn j)/\∀ j,j∉ks->βn j=β j:=by
  classical
  refine ⟨fun j=>if h:∃ k,ks[k]?=some j then β' h.choose else β j,fun k j hk=>?_,fun j h1=>?_⟩
  ·have hx:∃ q,ks[q]?=some j:=⟨k,hk⟩
   show β' k=(if h:∃ q,ks[q]?=some j then β' h.choose else β j)
   rw[dif_pos hx,iH hn hx.choose_spec hk]
  ·show (if h:∃ q,ks[q]?=some j then β' h.choose else β j)=β j
   rw[dif_neg]
   rintro ⟨k,hk⟩
   exact h1 (List.mem_of_getElem? hk)
 have hmine:∀ b,zY γ (B (celV w β)) b->zY β B2 b:=fun b ⟨k,c,h1,h2⟩=>by
  obtain ⟨j,c2,e1,e2,_⟩:=hU.to hn h1
  exact ⟨j,c2,e2,(hγ _ _ e1).symm.trans h2⟩
 have hU':=hB' (celV w β)
 -- a slice that the callee does not know, behind the call
 have hraw:∀ {j i:Nat} {c2:List SV} {y:SV},jZ B2' j=some c2->c2[i]?=some y->rawS ks y=true->kT w' D' βn (celV w β j i) y:=fun {j i c2 y} h1 h2 h3=>by
  obtain ⟨c,g1,g2⟩:=hO.at h1
  obtain ⟨b,vs,T,q1,q2,q3,q4,q5⟩:=cel_at (hmem2.ok j c g1) (g2 i y h2 h3) (by cases y<;>first | rfl | cases h3)
  cases y with
  |own k t s n=>
   have hk:k∉ks:=fun hm=>by
    obtain ⟨q,hq⟩:=List.getElem?_of_mem hm
    have:∀ {ks:List Nat} {q i:Nat},ks[q]?=some k->(ixN ks i k).isNone=false:=by
     intro ks
     induction ks with
     |nil=>intro q i h;simp at h
     |cons p ks ih=>
      intro q i h
      unfold ixN
      cases hb:Nat.beq p k with
      |true=>rfl
      |false=>
       cases q with
       |zero=>simp at h;subst h;simp at hb
       |succ q=>exact ih (q:=q) (by simpa using h)
    simp only[rawS] at h3
    rw[this hq] at h3
    cases h3
   have e:=hβ2 k hk
   rcases q5 with ⟨f1,f2⟩ | ⟨b3,cap,us3,f1,f2,f3,f4,f5⟩
   ·exact .inl ⟨e.trans f1,f2⟩
   ·obtain ⟨us',p1,p2⟩:=hp.below.shape b3 (qX f3) us3 _ _ f3
    exact .inr ⟨b3,cap,us',e.trans f1,f2,p1,p2.trans f4,f5⟩
  |_=>cases h3
 refine ⟨βn,rfl,⟨⟨hp.below.os,hp.below.tape,hp.below.output,hp.below.size,fun k hk hm=>hp.below.block k hk fun h=>hm (hmine k h),hp.below.shape⟩,hp.keep,fun k o hk ho hmp=>hp.oth k o hk ho fun e hq=>hmp e (hmine k hq),hp.up,fun t g o hd=>?_,hp.dok,⟨fun j c hj=>?_,fun j1 j2 c1 c2 q1 q2 b e1 e2=>?_⟩,fun j c hj b hb=>?_,fun j hj=>?_,(rep_rn hr hβ1).1 hp.res⟩⟩
 ·rcases hp.new t g o hd with h | h | h
  ·exact .inl h
  ·exact .inr (.inl h)
  ·exact .inr (.inr (hmine g h))
 ·obtain ⟨k,c0,e1,e2,e3⟩:=hU'.back hn hj
  obtain ⟨l1,l2⟩:=bkL_get e3
  have e:=hβ1 k j e1
  rcases hp.mem.ok k c0 e2 with (⟨g1,g2⟩ | ⟨b,ob,g1,g2,g3,g4,g5⟩) | ⟨b,vs,T,g1,g2,g3,g4,g5⟩
  ·subst g2
   exact .inl (.inl ⟨e.symm.trans g1,List.eq_nil_of_length_eq_zero (by simpa using l1.symm)⟩)
  ·subst g4
   exact (bkL_mo e3).elim
  ·refine .inr ⟨b,vs,T,e.symm.trans g1,g2,by omega,fun i y hy=>?_,g5⟩
   obtain ⟨x',p1,p2⟩:=(l2 i).1 y hy
   rw[Nat.zero_add] at p2
   obtain ⟨u,f1,f2,f3⟩:=g4 i x' p1
   exact ⟨u,f1,f2,bkc_back p2 hβ1 f3 fun hr=>hraw hj hy hr⟩
 ·obtain ⟨k1,d1,f1,f2,_⟩:=hU'.back hn q1
  obtain ⟨k2,d2,g1,g2,_⟩:=hU'.back hn q2
  rw[<- hβ1 _ _ f1] at e1
  rw[<- hβ1 _ _ g1] at e2
  have:=hp.mem.inj k1 k2 d1 d2 f2 g2 b e1 e2
  subst this
  rw[f1] at g1
  injection g1
 ·obtain ⟨k,d,f1,f2,_⟩:=hU'.back hn hj
  rw[<- hβ1 _ _ f1] at hb
  rcases hp.high k d f2 b hb with h | h
  ·exact .inl h
  ·exact .inr (hmine b h)
 ·by_cases hjk:j∈ks
  ·have h1:=List.all_eq_true.1 hmv j hjk
   rw[Bool.or_eq_true,Bool.or_eq_true] at h1
   rcases h1 with (h1 | h1) | h1
   ·exact absurd (yE.1 h1) hj
   ·obtain ⟨y,hy,e⟩:=List.any_eq_true.1 h1
    obtain ⟨i,hi⟩:=List.getElem?_of_mem hy
    cases y with
    |ref q o=>
     have e:=of_decide_eq_true e
     rw[<- hβ1 _ _ e,<- hγ _ _ e]
     exact hp.same i _ hi q (by simp [SV.pins])
    |clo g js=>
     obtain ⟨q,hq,e⟩:=List.any_eq_true.1 e
     rw[Bool.and_eq_true] at e
     have e1:=of_decide_eq_true e.1
     rw[<- hβ1 _ _ e1,<- hγ _ _ e1]
     exact hp.same i _ hi q (List.any_eq_true.2 ⟨q,hq,by rw[e.2];simp⟩)
    |_=>cases e
   ·obtain ⟨k,q,o,b,e,g1,g2⟩:=(hG (celV w β)).at (yE.1 h1)
    have e1:=refx_at hmem g1
    have e2:=refx_at hp.mem g2
    rw[<- hβ1 _ _ e,<- hγ _ _ e,e2]
    exact e1.symm
  ·exact hβ2 j hjk
end
section
variable {P:Program} {n:Fr} {ops:Array Oper} {K:SL->BS->Prop} {S:SL} {B:BS} {l:List Oper} {o:Oper} {news:List Nat} {acc0:List (List Nat × List Nat)}
theorem bget_filter{wk:List Nat}{k:Nat}(hn:k∉wk):∀ {X:BS},jZ (X.filter (fun p=>!(eE wk p.1))) k=jZ X k
 |[]=>rfl
 |(j,x)::X=>by
  have ih:=bget_filter hn (X:=X)
  cases hj:eE wk j with
  |true=>
   rw[List.filter_cons_of_neg (by simp [hj]),jJ,if_neg (fun e=>by subst e;exact hn (yE.1 hj)),ih]
  |false=>
   rw[List.filter_cons_of_pos (by simp [hj]),jJ,jJ,ih]
theorem wV{f:FuncId}{xs:List SV}{B1 B1':(Nat->Nat->Value)->BS}{r:SV}(ks mv G wk:List Nat)(x:SV)(ys:List SV)(B2 B2':BS)(hf:∀ U,uI P f xs (B1 U) r (B1' U))(hB:∀ U,RBu ks U (B1 U) B2)(hB':∀ U,RBu ks U (B1' U) B2')(hG:∀ U,FixI ks (B1 U) (B1' U) G)(hO:OwS ks B2 B2')(hM:FrM wk mv B)(hN:NmM news mv B2')
  (rr:DK P n ops K (mv++news) (acc0++[(B2.map (·.1),wk)]) ((dO o,x)::S) (B2'++B) l) (hc:CallV P o (kA S) f ys:=by exact callV_fn (ex:=[]) (by exact rfl) (.fn (by kernel_rfl)) (by kernel_rfl)) (g:goK n ops S o=true:=by kernel_rfl)
  (hxs:rnL ks xs=some ys:=by kernel_rfl) (hr:rn ks r=some x:=by kernel_rfl) (hn:ndI ks=true:=by kernel_rfl) (hb:B2.map (fun p=>jZ B p.1)=B2.map (·.2):=by kernel_rfl) (hks:B2'.map (·.1)=B2.map (·.1):=by kernel_rfl)
  (hsl:(S.all fun p=>mv.all fun k=>!p.2.names k)=true:=by kernel_rfl) (hin:(mv.all fun k=>eE wk k)=true:=by kernel_rfl) (hwk:(wk.all fun k=>eE (B2.map (·.1)) k)=true:=by kernel_rfl) (hst:B2'.filter (fun p=>!(eE wk p.1))=B2.filter (fun p=>!(eE wk p.1)):=by kernel_rfl) (hcl:((mv++news).all fun k=>!x.names k)=true:=by kernel_rfl) (hmk:(mv.all fun j=>eE ks j)=true:=by kernel_rfl)
  (hmv:(ks.all fun j=>eE mv j||(xs.any (pinI ks j))||eE G j)=true:=by kernel_rfl):DK P n ops K news acc0 S B (o::l):=by
 obtain ⟨st1,acc,r1,r0,r2⟩:=rr
 obtain ⟨hd,hg,hdB⟩:=zW g
 have hb':∀ p∈B2,∃ c,p.2=some c/\jZ B p.1=some c:=fun p hp=>by
  obtain ⟨c,e⟩:=(hB fun _ _=>undef).some p hp
  exact ⟨c,e,(List.map_inj_left.1 hb p hp).trans e⟩
 have hs:=nZ.s (P:=P) (n:=n) (ops:=ops) (news:=news) (st:=⟨S,B⟩) (o:=o) (sok_ofU hf hc hxs hn hB hB' hO hr G hG hmv hmk) hg (by rw[hd];exact hdB) hb' hks (fun k hk=>yE.1 (List.all_eq_true.1 hwk k hk)) (fun k _ hn=>by rw[<- bget_filter hn,hst,bget_filter hn])
  (fun k hk=>⟨yE.1 (List.all_eq_true.1 hin k hk),fun p hp=>by simpa using List.all_eq_true.1 (List.all_eq_true.1 hsl p hp) k hk,hM.ok hk⟩)
  (fun k hk=>by simpa using List.all_eq_true.1 hcl k (List.mem_append.2 hk)) hN.ok
 rw[hd] at hs
 exact ⟨st1,(B2.map (·.1),wk)::acc,.cons hs r1,by simpa using r0,r2⟩
theorem zV{f:FuncId}{xs:List SV}{B1 B1':(Nat->Nat->Value)->BS}{r:SV}(ks mv G:List Nat)(x:SV)(ys:List SV)(B2 B2':BS)(hf:∀ U,uI P f xs (B1 U) r (B1' U))(hB:∀ U,RBu ks U (B1 U) B2)(hB':∀ U,RBu ks U (B1' U) B2')(hG:∀ U,FixI ks (B1 U) (B1' U) G)(hO:OwS ks B2 B2')(hM:FrM (B2.map (·.1)) mv B)
  (rr:SK P n ops K ((dO o,x)::S) (B2'++B) l) (hc:CallV P o (kA S) f ys:=by exact callV_fn (ex:=[]) (by exact rfl) (.fn (by kernel_rfl)) (by kernel_rfl)) (g:goK n ops S o=true:=by kernel_rfl)
  (hxs:rnL ks xs=some ys:=by kernel_rfl) (hr:rn ks r=some x:=by kernel_rfl) (hn:ndI ks=true:=by kernel_rfl) (hb:B2.map (fun p=>jZ B p.1)=B2.map (·.2):=by kernel_rfl) (hks:B2'.map (·.1)=B2.map (·.1):=by kernel_rfl)
  (hsl:(S.all fun p=>mv.all fun k=>!p.2.names k)=true:=by kernel_rfl) (hin:(mv.all fun k=>eE (B2.map (·.1)) k)=true:=by kernel_rfl) (hmk:(mv.all fun j=>eE ks j)=true:=by kernel_rfl)
  (hmv:(ks.all fun j=>eE mv j||(xs.any (pinI ks j))||eE G j)=true:=by kernel_rfl):SK P n ops K S B (o::l):=by
 obtain ⟨hd,hg,hdB⟩:=zW g
 have hb':∀ p∈B2,∃ c,p.2=some c/\jZ B p.1=some c:=fun p hp=>by
  obtain ⟨c,e⟩:=(hB fun _ _=>undef).some p hp
  exact ⟨c,e,(List.map_inj_left.1 hb p hp).trans e⟩
 refine zX (fun C a w Q hn' hs=>?_) hg rr
 have:=sok_sim (Q:=Q) (sok_ofU hf hc hxs hn hB hB' hO hr G hG hmv hmk) (by rw[hn',hd];exact hdB) hb' hks
  (fun k hk=>⟨yE.1 (List.all_eq_true.1 hin k hk),fun p hp=>by simpa using List.all_eq_true.1 (List.all_eq_true.1 hsl p hp) k hk,hM.ok hk⟩) hs
 rw[hd] at this
 exact this
end
section
variable {P:Program} {S:SL} {B:BS} {o:Oper} {T:TypeId} {x:Operand} {k:Nat}
theorem oLi{cs:List SV}{p:Nat}(hs:kZ P T=some (false,1))(f:Nat->jQ)(m j:Nat)(ho:o.op=.load T x:=by exact rfl)(hx:ev (kA S) x=.ref k (p+j*1):=by exact rfl)(hb:jZ B k=some cs:=by exact rfl)(hj:j<m:=by omega)
  (hf:∀ i,i<m->cs[p+i*1]?=some (.d (f i)):=by intro i hi;rcases i with _ | _ | _ | _ | _ | _ | _ | _ | i<;>first | rfl | omega):ROk P o S B k (.d (f j)):=⟨cs,e_ld1 ho hx hs (hf j hj) rfl,hb⟩
end
end Go.Fid
