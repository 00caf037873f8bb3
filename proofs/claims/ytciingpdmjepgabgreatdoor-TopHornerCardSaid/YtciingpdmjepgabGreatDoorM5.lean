/- Part 5 of a proof: rules, plain facts, and functions walked. -/
import Derived.Test.YtciingpdmjepgabGreatDoorM4
set_option linter.all false
namespace Go.Fid
open Go.RowKit (Below)
section
variable {P:Program} {n:Fr} {ops:Array Oper} {f:Nat->PS} {g r w:Nat->List Nat} {C:Ctx} {Q:Exit->Act->World->Prop}
theorem L_set{listed:Array Bool}{i:Nat}(hi:i<listed.size)(j:Nat):L (listed.setIfInBounds i true) j↔(L listed j\/j=i):=by
 unfold L
 simp only[Array.getD_eq_getD_getElem?,Array.getElem?_setIfInBounds]
 by_cases h:i=j
 ·subst h;simp [hi]
 ·have h':j≠i:=fun e=>h e.symm
  simp [h,h']
def wpOp1(P:Program)(ops:Array Oper)(Q:Exit->Act->World->Prop)(i:Nat)(K:Act->World->Prop)(a:Act)(w:World):Prop :=
 match ops[i]? with
 |none=>K a w
 |some o=>if Region.wanted o (yielded ops a.tmps) then o.wp P a w K Q else K (a.put o.dst undef) w
theorem op1_lift{n:Fr}{N i:Nat}{K:Act->World->Prop}{a:Act}{w:World}(hp:ops.toList.all yU=true)(h:wpOp1 P ops Q i K a w):wpOpIn (fen n) N P ops Q i K a w:=by
 unfold wpOp1 at h
 unfold wpOpIn
 cases ho:ops[i]? with
 |none=>rw[ho] at h;exact h
 |some o=>
  rw[ho] at h
  simp only at h ⊢
  have hpo:yU o=true:=List.all_eq_true.1 hp o (by
   have:=Array.mem_of_getElem? ho
   exact Array.mem_toList_iff.2 this)
  split
  ·rename_i e;rw[if_pos e] at h;exact op_lift hpo h
  ·rename_i e;rw[if_neg e] at h;exact ⟨fun _ _=>trivial,h⟩
theorem last_writer(hf:Line P n ops f g r w)(i:Nat)(d:Tmp):∀ j,i<=j->j<=ops.size->kA (f j).sl d=kA (f i).sl d\/∃ j',i<=j'/\j'<j/\gU ops j'=some d/\kA (f (j'+1)).sl d=kA (f j).sl d:=by
 intro j
 induction j with
 |zero=>intro h _;obtain rfl:i=0:=(by omega);exact .inl rfl
 |succ j ih=>
  intro h1 h2
  by_cases he:i=j+1
  ·subst he;exact .inl rfl
  have ho:ops[j]?=some ops[j]:=Array.getElem?_eq_getElem (by omega)
  by_cases hd:gU ops j=some d
  ·exact .inr ⟨j,by omega,by omega,hd,rfl⟩
  ·have hs:kA (f (j+1)).sl d=kA (f j).sl d:=dstep_slot (hf.step j _ ho) (fun e=>hd (by simp [gU,ho,e]))
   rcases ih (by omega) (by omega) with h | ⟨j',a,b,c,e⟩
   ·exact .inl (hs.trans h)
   ·exact .inr ⟨j',a,by omega,c,e.trans hs.symm⟩
theorem any_step(hn:C.n=n)(hf:Line P n ops f g r w)(hneed:∀ i j,i<j->j<ops.size->Needs ops r w i j){listed:Array Bool}(hsz:listed.size=ops.size)(hcl:Closed ops listed)
  {i:Nat} (hi:i<ops.size) (hnot:¬ L listed i) (hedge:∀ o,ops[i]?=some o->∀ e∈o.after,Region.binds .any e=true->L listed e.on) {a:Act} {wd:World} {D:kV} {β:kY} (hinv:Inv C ops f w (L listed) a wd D β)
  {K:Act->World->Prop} (hk:∀ a' wd' D' β',Inv C ops f w (L (listed.setIfInBounds i true)) a' wd' D' β'->K a' wd'):wpOp1 P ops Q i K a wd:=by
 have ho:ops[i]?=some ops[i]:=Array.getElem?_eq_getElem hi
 generalize hoo:ops[i]=o at ho
 have hst:=hf.step i o ho
 have hA:=L_set (listed:=listed) (i:=i) (by omega)
 have hdst:gU ops i=o.dst:=by simp [gU,ho]
 -- what must come before i has come; what must come behind i has not
 have before:∀ j,j<i->ancB ops ops.size i j=true->L listed j:=fun j _ h=>dZ hcl ops.size i j h hedge
 have behind:∀ j,i<j->j<ops.size->ancB ops ops.size j i=true->¬ L listed j:=fun j _ hj h hl=>hnot (dZ hcl ops.size j i h fun o' ho'=>hcl j o' ho' hl)
 have dst_get:∀ j t,gU ops j=some t->∃ oj,ops[j]?=some oj/\oj.dst=some t:=fun j t h=>by
  unfold gU at h
  cases hj:ops[j]? with
  |none=>simp [hj] at h
  |some oj=>exact ⟨oj,rfl,by simpa [hj] using h⟩
 have lt_of:∀ j t,gU ops j=some t->j<ops.size:=fun j t h=>by
  obtain ⟨oj,h1,_⟩:=dst_get j t h
  exact (Array.getElem?_eq_some_iff.1 h1).1
 -- a slot that the operation looks at holds what the text says
 have read:∀ t,t∈nF ops o->qC wd D β (a.tmps.getD t undef) (kA (f i).sl t):=fun t ht=>by
  refine hinv.slots t _ (curS_text hf _ t i (by omega) (fun j hj hd=>?_) (fun j hj hj2 hl hd=>?_))
  ·obtain ⟨oj,h1,h2⟩:=dst_get j t hd
   exact before j hj (hneed j i hj hi oj o h1 ho (.inl ⟨t,h2,ht⟩))
  ·rcases Nat.lt_or_ge i j with h | h
   ·obtain ⟨oj,h1,h2⟩:=dst_get j t hd
    exact behind j h hj2 (hneed i j h hj2 o oj ho h1 (.inr (.inl ⟨t,h2,ht⟩))) hl
   ·obtain rfl:j=i:=(by omega)
    exact hnot hl
 have hop:Opnds wd D β a o (kA (f i).sl):=fun y hy=>by
  cases y with
  |tmp t=>
   refine read t ?_
   simp only[nF,List.mem_append,List.mem_flatMap]
   exact .inl ⟨_,Array.mem_toList_iff.2 hy,by simp [tmpOf]⟩
  |const v=>exact uN.val v
  |func f=>exact uN.val _
  |global g=>trivial
 have hwant:∀ bv,vR ops (f i).sl o=some bv->Region.wanted o (yielded ops a.tmps)=bv:=fun bv hg=>wanted_of hg fun j want d h1 h2=>read d (by
  simp only[nF,List.mem_append]
  exact .inr (by simp [h1,h2]))
 have late_w:∀ k,k∈w i->∀ j,i<j->j<ops.size->L listed j->k∉w j:=fun k hk j hj hj2 hl hkj=>
  behind j hj hj2 (hneed i j hj hj2 o _ ho (Array.getElem?_eq_getElem hj2) (.inr (.inr (.inr (.inr (.inl ⟨k,hk,hkj⟩)))))) hl
 have late_d:∀ t,o.dst=some t->∀ j,i<j->j<ops.size->L listed j->gU ops j≠some t:=fun t ht j hj hj2 hl hd=>by
  obtain ⟨oj,h1,h2⟩:=dst_get j t hd
  exact behind j hj hj2 (hneed i j hj hj2 o oj ho h1 (.inr (.inr (.inl ⟨t,ht,h2⟩)))) hl
 have blk_text:∀ k,(k∈r i\/k∈w i)->gB ops f w (L listed) k (jY (f i).bs k):=fun k hk=>curB_text hf _ k i (by omega) (fun j hj hd=>by
   have h1:ops[j]?=some ops[j]:=Array.getElem?_eq_getElem (by omega)
   refine before j hj (hneed j i hj hi _ o h1 ho ?_)
   rcases hk with hk | hk
   ·exact .inr (.inr (.inr (.inl ⟨k,hd,hk⟩)))
   ·exact .inr (.inr (.inr (.inr (.inl ⟨k,hd,hk⟩))))) (fun j hj hj2 hl hd=>by
   rcases Nat.lt_or_ge i j with h | h
   ·have h1:ops[j]?=some ops[j]:=Array.getElem?_eq_getElem hj2
    refine behind j h hj2 (hneed i j h hj2 o _ ho h1 ?_) hl
    rcases hk with hk | hk
    ·exact .inr (.inr (.inr (.inr (.inr ⟨k,hd,hk⟩))))
    ·exact .inr (.inr (.inr (.inr (.inl ⟨k,hk,hd⟩))))
   ·obtain rfl:j=i:=(by omega)
    exact hnot hl)
 -- names of blocks that are made here
 have clear_from:∀ k,(∀ l r,(f i).sl=l++r->∀ t,(kA r t).names k=false)->k∈g (i+1)->∀ m j,j<m->i<j->j<ops.size->L listed j->∀ t,gU ops j=some t->(kA (f (j+1)).sl t).names k=false:=by
   intro k hfr hkn m
   induction m with
   |zero=>intro j h;omega
   |succ m ih=>
    intro j hjm hij hj hl t hd
    obtain ⟨oj,h1,h2⟩:=dst_get j t hd
    rcases clear_slot (hf.step j oj h1) (news_mono hf (show i+1<=j by omega) (by omega) k hkn) h2 with h | ⟨d,hdr,hdn⟩
    ·exact h
    ·exfalso
     rcases last_writer hf i d j (by omega) (by omega) with hw | ⟨j',q1,q2,q3,q4⟩
     ·rw[hw] at hdn
      rw[hfr [] _ rfl d] at hdn
      cases hdn
     ·obtain ⟨oj',p1,p2⟩:=dst_get j' d q3
      have hanc:=hneed j' j q2 hj oj' oj p1 h1 (.inl ⟨d,p2,hdr⟩)
      rcases Nat.lt_or_ge i j' with hlt | hge
      ·have hl':L listed j':=dZ hcl ops.size j j' hanc fun o' ho'=>hcl j o' ho' hl
       rw[<- q4,ih j' (by omega) hlt (by omega) hl' d q3] at hdn
       cases hdn
      ·obtain rfl:j'=i:=(by omega)
       exact behind j hij hj hanc hl
 have reads_clear:∀ k,(∀ l r,(f i).sl=l++r->∀ t,(kA r t).names k=false)->k∈g (i+1)->∀ j oj,i<j->ops[j]?=some oj->L listed j->∀ d∈nF ops oj,(kA (f j).sl d).names k=false:=fun k hfr hkn j oj hij h1 hl d hdr=>by
  have hj:j<ops.size:=(Array.getElem?_eq_some_iff.1 h1).1
  rcases last_writer hf i d j (by omega) (by omega) with hw | ⟨j',q1,q2,q3,q4⟩
  ·rw[hw]
   exact hfr [] _ rfl d
  ·obtain ⟨oj',p1,p2⟩:=dst_get j' d q3
   have hanc:=hneed j' j q2 hj oj' oj p1 h1 (.inl ⟨d,p2,hdr⟩)
   rcases Nat.lt_or_ge i j' with hlt | hge
   ·have hl':L listed j':=dZ hcl ops.size j j' hanc fun o' ho'=>hcl j o' ho' hl
    rw[<- q4]
    exact clear_from k hfr hkn (j'+1) j' (by omega) hlt (by omega) hl' d q3
   ·obtain rfl:j'=i:=(by omega)
    exact absurd hl (fun hl=>behind j hij hj hanc hl)
 have name_s:∀ k,(∀ l r,(f i).sl=l++r->∀ t,(kA r t).names k=false)->k∈g (i+1)->∀ t x,CurS ops f (L listed) t x->x.names k=false:=fun k hfr hkn t x hc=>by
  have clear_from:=clear_from k hfr hkn
  have clear_from:∀ j,i<j->j<ops.size->L listed j->∀ t,gU ops j=some t->(kA (f (j+1)).sl t).names k=false:=fun j=>clear_from (j+1) j (by omega)
  rcases curS_from hc with h | ⟨j,hj,hl,hd,h⟩
  ·subst h
   obtain ⟨l,hl⟩:=sl_suffix hf (Nat.zero_le i) (by omega)
   exact hfr _ _ hl t
  ·subst h
   rcases Nat.lt_trichotomy j i with hji | hji | hji
   ·obtain ⟨l,hl'⟩:=sl_suffix hf (show j+1<=i by omega) (by omega)
    exact hfr _ _ hl' t
   ·subst hji;exact absurd hl hnot
   ·exact clear_from j hji hj hl t hd
 have name_b:∀ k,zU k (f i)=true->k∈g (i+1)->k∈w i->∀ k' c,gB ops f w (L listed) k' (some c)->k'≠k/\kZ k c=false:=fun k hfr hkn hkw k' c hc=>by
  rcases hc with ⟨j,hj,hl,hd,hmax,h⟩ | ⟨hno,h⟩
  ·rcases Nat.lt_trichotomy j i with hji | hji | hji
   ·obtain ⟨l,hl'⟩:=bs_suffix hf (show j+1<=i by omega) (by omega)
    exact fresh_bs hfr hl' h.symm
   ·subst hji;exact absurd hl hnot
   ·have h1:ops[j]?=some ops[j]:=Array.getElem?_eq_getElem hj
    refine ⟨fun e=>?_,?_⟩
    rotate_left
    ·rcases clear_blk (hf.step j _ h1) (news_mono hf (show i+1<=j by omega) (by omega) k hkn) hd h.symm with hq | ⟨d,hdr,hdn⟩ | hq
     ·exact hq
     ·rw[reads_clear k (fun l r hl t=>fresh_sl hfr hl t) hkn j _ hji h1 hl d hdr] at hdn
      cases hdn
     ·exact absurd hq (late_w k hkw j hji hj hl)
    subst e
    exact late_w k' hkw j hji hj hl hd
  ·obtain ⟨l,hl'⟩:=bs_suffix hf (Nat.zero_le i) (by omega)
   exact fresh_bs hfr hl' h.symm
 -- blocks that a call moves
 have name_m:∀ k,clrM (w i) k (f i)->k∈g (i+1)->k∈w i->∀ k' c,k'∉w i->gB ops f w (L listed) k' (some c)->kZ k c=false:=fun k hfr hkn hkw k' c hkk hc=>by
  have hsl:∀ l r,(f i).sl=l++r->∀ t,(kA r t).names k=false:=fun l r hl t=>sl_clr hfr hl t
  have hbs:∀ l r,(f i).bs=l++r->some c=jY r k'->kZ k c=false:=fun l r hl hb=>by
   rcases hfr.2 (k',some c) (by rw[hl];exact List.mem_append_right _ (eI hb.symm)) with h | h
   ·exact absurd h hkk
   ·exact h c rfl
  rcases hc with ⟨j,hj,hl,hd,hmax,h⟩ | ⟨hno,h⟩
  ·rcases Nat.lt_trichotomy j i with hji | hji | hji
   ·obtain ⟨l,hl'⟩:=bs_suffix hf (show j+1<=i by omega) (by omega)
    exact hbs _ _ hl' h
   ·subst hji;exact absurd hl hnot
   ·have h1:ops[j]?=some ops[j]:=Array.getElem?_eq_getElem hj
    rcases clear_blk (hf.step j _ h1) (news_mono hf (show i+1<=j by omega) (by omega) k hkn) hd h.symm with hq | ⟨d,hdr,hdn⟩ | hq
    ·exact hq
    ·rw[reads_clear k hsl hkn j _ hji h1 hl d hdr] at hdn
     cases hdn
    ·exact absurd hq (late_w k hkw j hji hj hl)
  ·obtain ⟨l,hl'⟩:=bs_suffix hf (Nat.zero_le i) (by omega)
   exact hbs _ _ hl' h
 unfold wpOp1
 rw[ho]
 dsimp only
 subst hn
 have old_s:∀ t x,o.dst≠some t->CurS ops f (L (listed.setIfInBounds i true)) t x->CurS ops f (L listed) t x:=fun t x ht hc=>curS_old hA (by rw[hdst];exact ht) hc
 have new_s:∀ t x,o.dst=some t->CurS ops f (L (listed.setIfInBounds i true)) t x->x=kA (f (i+1)).sl t:=fun t x ht hc=>curS_new hi hA (by rw[hdst];exact ht) (late_d t ht) hc
 have old_b:∀ k c,k∉w i->gB ops f w (L (listed.setIfInBounds i true)) k c->gB ops f w (L listed) k c:=fun k c hk hc=>curB_old hA hk hc
 have new_b:∀ k c,k∈w i->gB ops f w (L (listed.setIfInBounds i true)) k c->c=jY (f (i+1)).bs k:=fun k c hk hc=>curB_new hi hA hk (late_w k hk) hc
 generalize hfi:f (i+1)=st' at hst new_s new_b
 generalize hri:r i=rr at hst blk_text
 generalize hwi:w i=ww at hst blk_text old_b new_b name_b name_m
 generalize hgi:g (i+1)=gg at hst name_s name_b name_m
 cases hst with
 |e h hg hd hrd hcl1=>
  rename_i rd x
  rw[if_pos (hwant true hg)]
  refine Oper.wp_mono (fun a' wd' hp=>?_) (h a wd D β Q hop (fun p hp=>?_) hinv.base.dok)
  ·obtain ⟨v,D',rfl,h1,h2,h3⟩:=hp
   refine hk _ _ D' β ⟨(hinv.base.up h1 h2).put hd _,fun t y hc=>?_,fun k cs hc=>(hinv.blks k cs (old_b k _ (by simp) hc)).up h1 h2 hinv.base.dok,fun k1 k2 c1 c2 q1 q2=>hinv.inj k1 k2 c1 c2 (old_b _ _ (by simp) q1) (old_b _ _ (by simp) q2),fun k c hc=>hinv.high k c (old_b _ _ (by simp) hc)⟩
   rw[uP hinv.base.size hd]
   by_cases ht:o.dst=some t
   ·rw[if_pos ht]
    have:=new_s t y ht hc
    simp only[uH,ht,if_true] at this
    subst this;exact h3
   ·rw[if_neg ht]
    exact (hinv.slots t y (old_s t y ht hc)).up h1 h2 hinv.base.dok
  ·have h1:=blk_text p.1 (.inl (List.mem_map_of_mem hp))
   rw[hrd p hp] at h1
   exact hinv.blks _ _ h1
 |n h hg hd hfr hcl1 hcl2=>
  rename_i k cs x
  rw[if_pos (hwant true hg)]
  refine Oper.wp_mono (fun a' wd' hp=>?_) (h a wd D β Q hop hinv.base.dok)
  obtain ⟨v,D',b,rfl,h1,h2,h3,h4,h5,h6,h7⟩:=hp
  have hβ:∀ j,j≠k->(β.set k b) j=β j:=fun j hj=>by simp [kY.set,hj]
  have hlt:∀ j c,gB ops f w (L listed) j (some c)->∀ b',β j=some b'->b'<wd.heap.size:=fun j c hj b' hb'=>by
   exact (hinv.blks j c hj).lt hb'
  have hkk:∀ c,gB ops f w (L (listed.setIfInBounds i true)) k c->c=some cs:=fun c hc=>by
   have:=new_b k c (by simp) hc
   simpa [jI] using this
  refine hk _ _ D' (β.set k b) ⟨(hinv.base.up h1 h2).put hd _,fun t y hc=>?_,fun j c hc=>?_,fun k1 k2 c1 c2 q1 q2 b' e1 e2=>?_,fun j c hc b' hb'=>?_⟩
  ·rw[uP hinv.base.size hd]
   by_cases ht:o.dst=some t
   ·rw[if_pos ht]
    have:=new_s t y ht hc
    simp only[uH,ht,if_true] at this
    subst this;exact h7
   ·rw[if_neg ht]
    have hc':=old_s t y ht hc
    exact ((hinv.slots t y hc').up h1 h2 hinv.base.dok).frame hβ (name_s k (fun l r hl t=>fresh_sl hfr hl t) (by simp) t y hc')
  ·by_cases hj:j=k
   ·subst hj
    have:=hkk _ hc
    injection this with this
    subst this;exact h6
   ·have hc':=old_b j _ (by simpa using hj) hc
    obtain ⟨q1,q2⟩:=name_b k hfr (by simp) (by simp) j c hc'
    exact ((hinv.blks j c hc').up h1 h2 hinv.base.dok).frame hβ q1 q2
  ·by_cases j1:k1=k<;>by_cases j2:k2=k
   ·omega
   ·subst j1
    have q2':=old_b k2 _ (by simpa using j2) q2
    rw[hβ k2 j2] at e2
    have:=hlt k2 _ q2' b' e2
    simp [kY.set] at e1
    omega
   ·subst j2
    have q1':=old_b k1 _ (by simpa using j1) q1
    rw[hβ k1 j1] at e1
    have:=hlt k1 _ q1' b' e1
    simp [kY.set] at e2
    omega
   ·rw[hβ k1 j1] at e1
    rw[hβ k2 j2] at e2
    exact hinv.inj k1 k2 _ _ (old_b k1 _ (by simpa using j1) q1) (old_b k2 _ (by simpa using j2) q2) b' e1 e2
  ·by_cases hj:j=k
   ·subst hj
    simp [kY.set] at hb'
    subst hb'
    exact hinv.base.fresh (by omega)
   ·rw[hβ j hj] at hb'
    exact hinv.high j c (old_b j _ (by simpa using hj) hc) b' hb'
 |t h hg hd hb hcl2=>
  rename_i k old cs
  rw[if_pos (hwant true hg)]
  have hcur:gB ops f w (L listed) k (some old):=by
   have h1:=blk_text k (.inl (by simp))
   rw[hb] at h1
   exact h1
  refine Oper.wp_mono (fun a' wd' hp=>?_) (h a wd D β Q hop (hinv.blks k old hcur) hinv.base.dok)
  obtain ⟨rfl,b,h1,h2,h3,h4⟩:=hp
  have hkk:∀ c,gB ops f w (L (listed.setIfInBounds i true)) k c->c=some cs:=fun c hc=>by
   have:=new_b k c (by simp) hc
   simpa [jI] using this
  have bQ:∀ j c,gB ops f w (L (listed.setIfInBounds i true)) j (some c)->∃ c',gB ops f w (L listed) j (some c'):=fun j c hc=>by
   by_cases hj:j=k
   ·subst hj;exact ⟨_,hcur⟩
   ·exact ⟨_,old_b j _ (by simpa using hj) hc⟩
  refine hk _ _ D β ⟨(hinv.base.wrote h2 (hinv.high k _ hcur b h1) (blk_heap (hinv.blks k old hcur) h1) h3).put hd _,fun t y hc=>?_,fun j c hc=>?_,fun k1 k2 c1 c2 q1 q2 b' e1 e2=>?_,fun j c hc b' hb'=>?_⟩
  ·rw[uP hinv.base.size hd]
   by_cases ht:o.dst=some t
   ·rw[if_pos ht]
    have:=new_s t y ht hc
    simp only[uH,ht,if_true] at this
    subst this;trivial
   ·rw[if_neg ht]
    exact h2.repS h3 (hinv.slots t y (old_s t y ht hc))
  ·by_cases hj:j=k
   ·subst hj
    have:=hkk _ hc
    injection this with this
    subst this;exact h4
   ·have hc':=old_b j _ (by simpa using hj) hc
    exact h2.blk h3 (fun e=>hj (hinv.inj j k _ _ hc' hcur b e h1)) (hinv.blks j c hc')
  ·obtain ⟨d1,g1⟩:=bQ k1 c1 q1
   obtain ⟨d2,g2⟩:=bQ k2 c2 q2
   exact hinv.inj k1 k2 d1 d2 g1 g2 b' e1 e2
  ·obtain ⟨d1,g1⟩:=bQ j c hc
   exact hinv.high j d1 g1 b' hb'
 |a h hg hd hb hfr hne hcl1 hcl2=>
  rename_i k k' old cs x
  rw[if_pos (hwant true hg)]
  have hcur:gB ops f w (L listed) k (some old):=by
   have h1:=blk_text k (.inl (by simp))
   rw[hb] at h1
   exact h1
  refine Oper.wp_mono (fun a' wd' hp=>?_) (h a wd D β Q hop (hinv.blks k old hcur) hinv.base.dok)
  obtain ⟨v,b,rfl,h6,h7,hor⟩:=hp
  have hβ:∀ j,j≠k'->(β.set k' b) j=β j:=fun j hj=>by simp [kY.set,hj]
  have hkk:∀ c,gB ops f w (L (listed.setIfInBounds i true)) k' c->c=some cs:=fun c hc=>by
   have:=new_b k' c (by simp) hc
   simpa [jI] using this
  have hkn:∀ c,gB ops f w (L (listed.setIfInBounds i true)) k c->c=none:=fun c hc=>by
   have:=new_b k c (by simp) hc
   rw[jI,if_neg (fun e=>hne e.symm),jI,if_pos rfl] at this
   exact this
  have hrest:∀ j c,j≠k'->gB ops f w (L (listed.setIfInBounds i true)) j (some c)->j≠k/\gB ops f w (L listed) j (some c):=fun j c hj hc=>by
   have hjk:j≠k:=fun e=>by subst e;have:=hkn _ hc;cases this
   exact ⟨hjk,old_b j _ (by simp [hj,hjk]) hc⟩
  have hlt:∀ j c,gB ops f w (L listed) j (some c)->∀ b',β j=some b'->b'<wd.heap.size:=fun j c hj b' hb'=>by
   exact (hinv.blks j c hj).lt hb'
  have hslot:∀ (v:Value) (y:SV),qC wd D β v y->qC wd' D β v y:=fun v y hy=>by
   rcases hor with ⟨h1,_,_⟩ | ⟨_,h2,h3⟩
   ·exact hy.up h1 (aF.of_same D) hinv.base.dok
   ·exact h2.repS h3 hy
  have hbase:fJ C a wd' D:=by
   rcases hor with ⟨h1,_,_⟩ | ⟨h1,h2,h3⟩
   ·exact hinv.base.up h1 (aF.of_same D)
   ·exact hinv.base.wrote h2 (hinv.high k _ hcur b h1) (blk_heap (hinv.blks k old hcur) h1) h3
  have hapart:∀ j c,j≠k->gB ops f w (L listed) j (some c)->β j≠some b:=fun j c hjk hc e=>by
   rcases hor with ⟨_,h2,_⟩ | ⟨h1,_,_⟩
   ·have:=hlt j c hc b e;omega
   ·exact hjk (hinv.inj j k _ _ hc hcur b e h1)
  refine hk _ _ D (β.set k' b) ⟨hbase.put hd _,fun t y hc=>?_,fun j c hc=>?_,fun k1 k2 c1 c2 q1 q2 b' e1 e2=>?_,fun j c hc b' hb'=>?_⟩
  ·rw[uP hinv.base.size hd]
   by_cases ht:o.dst=some t
   ·rw[if_pos ht]
    have:=new_s t y ht hc
    simp only[uH,ht,if_true] at this
    subst this;exact h7
   ·rw[if_neg ht]
    have hc':=old_s t y ht hc
    exact (hslot _ _ (hinv.slots t y hc')).frame hβ (name_s k' (fun l r hl t=>fresh_sl hfr hl t) (by simp) t y hc')
  ·by_cases hj:j=k'
   ·subst hj
    have:=hkk _ hc
    injection this with this
    subst this;exact h6
   ·obtain ⟨hjk,hc'⟩:=hrest j c hj hc
    obtain ⟨q1,q2⟩:=name_b k' hfr (by simp) (by simp) j c hc'
    have hB:uA wd' D β j c:=by
     rcases hor with ⟨h1,_,_⟩ | ⟨h1,h2,h3⟩
     ·exact (hinv.blks j c hc').up h1 (aF.of_same D) hinv.base.dok
     ·exact h2.blk h3 (hapart j c hjk hc') (hinv.blks j c hc')
    exact hB.frame hβ q1 q2
  ·by_cases j1:k1=k'<;>by_cases j2:k2=k'
   ·omega
   ·subst j1
    obtain ⟨g1,g2⟩:=hrest k2 _ j2 q2
    rw[hβ k2 j2] at e2
    simp [kY.set] at e1
    subst e1
    exact absurd e2 (hapart k2 _ g1 g2)
   ·subst j2
    obtain ⟨g1,g2⟩:=hrest k1 _ j1 q1
    rw[hβ k1 j1] at e1
    simp [kY.set] at e2
    subst e2
    exact absurd e1 (hapart k1 _ g1 g2)
   ·rw[hβ k1 j1] at e1
    rw[hβ k2 j2] at e2
    exact hinv.inj k1 k2 _ _ (hrest k1 _ j1 q1).2 (hrest k2 _ j2 q2).2 b' e1 e2
  ·by_cases hj:j=k'
   ·subst hj
    simp [kY.set] at hb'
    subst hb'
    rcases hor with ⟨_,h2,_⟩ | ⟨h1,_,_⟩
    ·exact hinv.base.fresh (by omega)
    ·exact hinv.high k _ hcur b h1
   ·rw[hβ j hj] at hb'
    exact hinv.high j c (hrest j c hj hc).2 b' hb'
 |skip hg hd=>
  rw[if_neg (by rw[hwant false hg];simp)]
  refine hk _ _ D β ⟨hinv.base.put hd _,fun t y hc=>?_,fun k cs hc=>hinv.blks k cs (old_b k _ (by simp) hc),fun k1 k2 c1 c2 q1 q2=>hinv.inj k1 k2 c1 c2 (old_b _ _ (by simp) q1) (old_b _ _ (by simp) q2),fun k c hc=>hinv.high k c (old_b _ _ (by simp) hc)⟩
  rw[uP hinv.base.size hd]
  by_cases ht:o.dst=some t
  ·rw[if_pos ht]
   have:=new_s t y ht hc
   simp only[uH,ht,if_true] at this
   subst this;exact rep_undef _ _
  ·rw[if_neg ht]
   exact hinv.slots t y (old_s t y ht hc)
 |s h hg hd hb hks hwk hst hm hn hc=>
  rename_i old new mv x
  rw[if_pos (hwant true hg)]
  have hcur:∀ k c,jY old k=some c->gB ops f w (L listed) k (some c):=fun k c hk=>by
   obtain ⟨c',e1,e2⟩:=hb _ (eI hk)
   injection e1 with e1;subst e1
   have h1:=blk_text k (.inl (bget_in hk).1)
   rw[e2] at h1
   exact h1
  have hmem:Mem wd D β old:=⟨fun k c hk=>hinv.blks k c (hcur k c hk),fun k1 k2 c1 c2 q1 q2=>hinv.inj k1 k2 c1 c2 (hcur _ _ q1) (hcur _ _ q2)⟩
  refine Oper.wp_mono (fun a' wd' hp=>?_) (h a wd D β Q hop hmem hinv.base.dok)
  obtain ⟨v,D',β',rfl,hE⟩:=hp
  have hmine:∀ b,yE β old b->C.own b:=fun b ⟨k,c,h1,h2⟩=>hinv.high k c (hcur k c h1) b h2
  have hbase:fJ C a wd' D':=⟨hinv.base.defers.keep fun q hq _=>hE.oth q _ hq rfl (fun e=>by cases e),hinv.base.size,fun t g o hd=>(hE.keep t g o (hinv.base.dmono _ _ _ hd)).trans (hinv.base.keep t g o hd),fun k o hk ho hm2=>hE.oth k o (hinv.base.oth k o hk ho hm2) ho (fun e h=>hm2 e (hmine k h)),hinv.base.pin,
   ⟨hE.below.os.trans hinv.base.below.os,hE.below.tape.trans hinv.base.below.tape,hE.below.output.trans hinv.base.below.output,Nat.le_trans hinv.base.below.size hE.below.size,fun k hk hn=>(hE.below.block k (Nat.lt_of_lt_of_le hk hinv.base.below.size) (fun hq=>by rcases hmine k hq with h1 | h1;omega;exact hn h1)).trans (hinv.base.below.block k hk hn),fun k hk vs T f h1=>by
    obtain ⟨us,e1,e2⟩:=hinv.base.below.shape k hk vs T f h1
    obtain ⟨us',g1,g2⟩:=hE.below.shape k (Nat.lt_of_lt_of_le hk hinv.base.below.size) us T f e1
    exact ⟨us',g1,g2.trans e2⟩⟩,
   fun t g o hd=>hE.up _ _ _ (hinv.base.dmono _ _ _ hd),fun t g o hd=>by
    rcases hE.dnew t g o hd with h1 | h1 | h1
    ·exact hinv.base.dnew t g o h1
    ·exact .inr (hinv.base.fresh h1)
    ·exact .inr (hmine g h1),hE.dok⟩
  have hkmv:∀ {k},k∉old.map (·.1)->k∉mv:=fun h1 h2=>h1 (hwk _ (hm _ h2).1)
  have hnot':∀ {j c b},j∉old.map (·.1)->gB ops f w (L listed) j (some c)->β j=some b->¬ yE β old b:=fun {j c b} hj hc hb ⟨k,c',h1,h2⟩=>by
   have:=hinv.inj j k _ _ hc (hcur k c' h1) b hb h2
   subst this
   exact hj (bget_in h1).1
  have hcase:∀ {j c},gB ops f w (L (listed.setIfInBounds i true)) j (some c)->(j∈old.map (·.1)/\jY new j=some c)\/(j∉old.map (·.1)/\gB ops f w (L listed) j (some c)):=fun {j c} hc=>by
   by_cases hj:j∈old.map (·.1)
   ·by_cases hjw:j∈ww
    ·have:=new_b j _ hjw hc
     rw[bget_keyed (by rw[hks];exact hj)] at this
     exact .inl ⟨hj,this.symm⟩
    ·have h1:=old_b j _ hjw hc
     obtain ⟨c',e1,e2⟩:=hb _ (bget_fst hj)
     have h2:=hcur j c' e1
     have h3:=curB_uniq h1 h2
     injection h3 with h3;subst h3
     exact .inl ⟨hj,by rw[hst j hj hjw];exact e1⟩
   ·exact .inr ⟨hj,old_b j _ (fun h=>hj (hwk j h)) hc⟩
  have hlt:∀ {j c b},gB ops f w (L listed) j (some c)->β j=some b->b<wd.heap.size:=fun {j c b} hj hb'=>by
   exact (hinv.blks j c hj).lt hb'
  refine hk _ _ D' β' ⟨hbase.put hd _,fun t y hc'=>?_,fun j c hc'=>?_,fun k1 k2 c1 c2 q1 q2 b e1 e2=>?_,fun j c hc' b hb'=>?_⟩
  ·rw[uP hinv.base.size hd]
   by_cases ht:o.dst=some t
   ·rw[if_pos ht]
    have:=new_s t y ht hc'
    simp only[uH,ht,if_true] at this
    subst this;exact hE.res
   ·rw[if_neg ht]
    have h1:=old_s t y ht hc'
    exact hE.repS (fun k hk=>name_s k (fun l r hl t=>sl_clr (hm k hk).2 hl t) (List.mem_append_left _ hk) t y h1) (hinv.slots t y h1)
  ·rcases hcase hc' with ⟨h1,h2⟩ | ⟨h1,h2⟩
   ·exact hE.mem.ok j c h2
   ·exact hE.blk (hkmv h1) (fun b hb=>hnot' h1 h2 hb) (fun q hq=>name_m q (hm q hq).2 (List.mem_append_left _ hq) (hm q hq).1 j c (fun h=>h1 (hwk j h)) h2) (hinv.blks j c h2)
  ·rcases hcase q1 with ⟨h1,h2⟩ | ⟨h1,h2⟩
   ·rcases hcase q2 with ⟨g1,g2⟩ | ⟨g1,g2⟩
    ·exact hE.mem.inj k1 k2 _ _ h2 g2 b e1 e2
    ·rw[hE.stay k2 (hkmv g1)] at e2
     rcases hE.high k1 _ h2 b e1 with h | h
     ·have:=hlt g2 e2;omega
     ·exact absurd h (hnot' g1 g2 e2)
   ·rw[hE.stay k1 (hkmv h1)] at e1
    rcases hcase q2 with ⟨g1,g2⟩ | ⟨g1,g2⟩
    ·rcases hE.high k2 _ g2 b e2 with h | h
     ·have:=hlt h2 e1;omega
     ·exact absurd h (hnot' h1 h2 e1)
    ·rw[hE.stay k2 (hkmv g1)] at e2
     exact hinv.inj k1 k2 _ _ h2 g2 b e1 e2
  ·rcases hcase hc' with ⟨h1,h2⟩ | ⟨h1,h2⟩
   ·rcases hE.high j _ h2 b hb' with h | h
    ·exact hinv.base.fresh h
    ·exact hmine b h
   ·rw[hE.stay j (hkmv h1)] at hb'
    exact hinv.high j c h2 b hb'
def unl(ops:Array Oper)(listed:Array Bool):Nat:=(List.range ops.size).countP fun i=>!(listed.getD i false)
theorem any_sound(hn:C.n=n)(hf:Line P n ops f g r w)(hneed:∀ i j,i<j->j<ops.size->Needs ops r w i j)(hback:backB ops=true)(hpl:ops.toList.all yU=true){N:Nat}(hk:∀ a' w',cI C a' w' (f ops.size)->Q .normal a' w') :
  ∀ (fuel:Nat) (listed:Array Bool) (a:Act) (wd:World) (D:kV) (β:kY),listed.size=ops.size->Closed ops listed->unl ops listed<=fuel->Inv C ops f w (L listed) a wd D β->wpAnyIn (fen n) N P .any ops Q fuel listed a wd:=by
 have fin:∀ (listed:Array Bool) (a:Act) (wd:World) (D:kV) (β:kY),listed.size=ops.size->Inv C ops f w (L listed) a wd D β->Region.ready .any ops listed=[]->Q .normal a wd:=fun listed a wd D β hsz hinv hr=>
  hk a wd ⟨D,β,inv_end hf (all_listed hback hr hsz) hinv⟩
 intro fuel
 induction fuel with
 |zero=>
  intro listed a wd D β hsz hcl hu hinv
  have hr:Region.ready .any ops listed=[]:=by
   rw[List.eq_nil_iff_forall_not_mem]
   intro i hi
   obtain ⟨h1,o,h2,_⟩:=mem_ready.1 hi
   have hlt:i<ops.size:=(Array.getElem?_eq_some_iff.1 h2).1
   have h0:unl ops listed=0:=by omega
   unfold unl at h0
   rw[List.countP_eq_zero] at h0
   have h3:=h0 i (by simpa using hlt)
   rw[Array.getD_eq_getD_getElem?] at h1 h3
   have:i<listed.size:=by omega
   simp only[Array.getElem?_eq_getElem this,Option.getD_some] at h1 h3
   rw[h1] at h3
   simp at h3
  exact ⟨hr,fin listed a wd D β hsz hinv hr⟩
 |succ fuel ih=>
  intro listed a wd D β hsz hcl hu hinv
  refine ⟨fin listed a wd D β hsz hinv,fun i hi=>?_⟩
  obtain ⟨h1,o,h2,h3⟩:=mem_ready.1 hi
  have hlt:i<ops.size:=(Array.getElem?_eq_some_iff.1 h2).1
  have hls:i<listed.size:=by omega
  have hnot:¬ L listed i:=fun h=>by
   unfold L at h
   rw[Array.getD_eq_getD_getElem?] at h1 h
   simp only[Array.getElem?_eq_getElem hls,Option.getD_some] at h1 h
   rw[h1] at h;cases h
  have hA:=L_set (listed:=listed) hls
  refine op1_lift hpl ?_
  refine any_step hn hf hneed hsz hcl hlt hnot (fun o' ho'=>by rw[h2] at ho';injection ho' with e;subst e;exact h3) hinv fun a' wd' D' β' hinv'=>ih _ a' wd' D' β' (by simpa using hsz) ?_ ?_ hinv'
  ·intro j oj hoj hl e he hb
   rcases (hA j).1 hl with h | h
   ·exact (hA _).2 (.inl (hcl j oj hoj h e he hb))
   ·subst h
    rw[h2] at hoj
    injection hoj with e';subst e'
    exact (hA _).2 (.inl (h3 e he hb))
  ·have:unl ops (listed.setIfInBounds i true)<unl ops listed:=countP_lt (i:=i) (fun x _ hx=>by
    simp only[Bool.not_eq_true'] at hx ⊢
    rcases h:listed.getD x false with _ | _
    ·rfl
    ·have:=(hA x).2 (.inl h)
     unfold L at this
     rw[this] at hx;cases hx) (by simpa using hlt) (by
     simp only[Bool.not_eq_true']
     rcases h:listed.getD i false with _ | _
     ·rfl
     ·exact absurd h hnot) (by
     have:=(hA i).2 (.inr rfl)
     unfold L at this
     simp [this])
   omega
end
section
variable {P:Program} {n:Fr} {C:Ctx} {Q:Exit->Act->World->Prop}
theorem draw_sound(hn:C.n=n){ops:Array Oper}{acc:List (List Nat × List Nat)}{st st':PS}(h:DSteps P n ops [] st ops.toList acc st')(ho:orderB ops acc=true)(hb:backB ops=true)(hpl:ops.toList.all yU=true){N:Nat}
  (hk:∀ a' w',cI C a' w' st'->Q .normal a' w') {a:Act} {wd:World} (hs:cI C a wd st):wpAnyIn (fen n) N P .any ops Q ops.size (Array.replicate ops.size false) a { wd with drawn:=wd.drawn+1 }:=by
 obtain ⟨f,g,h1,h2,h3,h4,h5⟩:=line_of h
 simp only[Array.length_toList] at h2 h4
 obtain ⟨D,β,hs⟩:=hs
 have hacc:∀ i,i<ops.size->acc[i]?=some ((acc.getD i ([],[])).1,(acc.getD i ([],[])).2):=fun i hi=>by
  have hlt:i<acc.length:=by omega
  simp [List.getElem?_eq_getElem hlt]
 have hf:Line P n ops f g (fun i=>(acc.getD i ([],[])).1) (fun i=>(acc.getD i ([],[])).2):=⟨fun i o hoi=>by
  obtain ⟨r,w,e1,e2⟩:=h5 i o (by simpa using hoi)
  have hlt:i<ops.size:=(Array.getElem?_eq_some_iff.1 hoi).1
  have e3:=hacc i hlt
  rw[e1] at e3
  injection e3 with e3
  have e4:(acc.getD i ([],[])).1=r:=(congrArg Prod.fst e3).symm
  have e5:(acc.getD i ([],[])).2=w:=(congrArg Prod.snd e3).symm
  simp only[e4,e5]
  exact e2⟩
 have hno:∀ i,¬ L (Array.replicate ops.size false) i:=fun i hi=>by
  unfold L at hi
  rw[Array.getD_eq_getD_getElem?,Array.getElem?_replicate] at hi
  split at hi<;>simp at hi
 refine any_sound hn hf (fun i j hij hj=>needs_of ho hacc hij hj) hb hpl (fun a' w' hs'=>hk a' w' (h2▸hs')) ops.size _ a _ D β (by simp) (fun j o _ hl=>absurd hl (hno j)) ?_ ?_
 ·unfold unl
  exact Nat.le_trans (List.countP_le_length) (by simp)
 ·have hb0:=below_draw wd
  have hu0:aF D D wd { wd with drawn:=wd.drawn+1 }:=aF.of_same D
  have hS:∀ t x,CurS ops f (L (Array.replicate ops.size false)) t x->x=kA st.sl t:=fun t x hc=>by
   rcases hc with ⟨i,_,hi,_⟩ | ⟨_,e⟩
   ·exact absurd hi (hno i)
   ·rw[e,h1]
  have hB:∀ k c,gB ops f (fun i=>(acc.getD i ([],[])).2) (L (Array.replicate ops.size false)) k c->jY st.bs k=c:=fun k c hc=>by
   rcases hc with ⟨i,_,hi,_⟩ | ⟨_,e⟩
   ·exact absurd hi (hno i)
   ·rw[e,h1]
  exact ⟨hs.base.draw,fun t x hc=>by rw[hS t x hc];exact (hs.slots t).up hb0 hu0 hs.base.dok,fun k cs hc=>(hs.mem.ok k cs (hB k _ hc)).up hb0 hu0 hs.base.dok,
   fun k1 k2 c1 c2 q1 q2=>hs.mem.inj k1 k2 c1 c2 (hB _ _ q1) (hB _ _ q2),fun k c hc=>hs.high k c (hB _ _ hc)⟩
end
end Go.Fid
