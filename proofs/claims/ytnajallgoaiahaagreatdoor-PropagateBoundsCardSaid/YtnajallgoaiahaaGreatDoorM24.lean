/- Part 24 of a proof: rules, plain facts, and functions walked. -/
import Derived.Test.YtnajallgoaiahaaGreatDoorM23
import Derived.Test.YtnajallgoaiahaaGreatDoorM7
import Derived.Test.YtnajallgoaiahaaGreatDoorM11
import Derived.Test.YtnajallgoaiahaaGreatDoorM20
set_option linter.all false
set_option maxRecDepth 4000
namespace Go.Fid
section
variable {P:Program} {S:SL} {B:BS} {o:Oper} {x y:Operand} {k:Nat} {T:TypeId}
theorem bxs_flen{α:Type}{F:α->jZ}{s:Nat}(hF:∀ g,(F g).cells.length=s)(L:List α):(qI (L.map F)).length=L.length*s:=by
 rw[vY (s:=s) (fun e he=>by obtain ⟨g,_,rfl⟩:=List.mem_map.1 he;exact hF g),List.length_map]
theorem bxs_cell{α:Type}{F:α->jZ}{s:Nat}(hF:∀ g,(F g).cells.length=s){L:List α}{j r:Nat}(d:α)(hj:j<L.length)(hr:r<s):(qI (L.map F))[j*s+r]?=(F (L.getD j d)).cells[r]? :=
 flat_get (s:=s) (e:=F (L.getD j d)) (fun e he=>by obtain ⟨g,_,rfl⟩:=List.mem_map.1 he;exact hF g) (by simp [List.getD_eq_getElem?_getD,List.getElem?_eq_getElem hj]) hr
theorem bxs_room{j n s:Nat}(h:j<n):j*s+s<=n*s:=by
 have:=Nat.mul_le_mul_right s (show j+1<=n from h)
 rwa [Nat.add_mul,Nat.one_mul] at this
theorem bxs_cut{α:Type}{F:α->jZ}{s:Nat}(hF:∀ g,(F g).cells.length=s){L:List α}{j:Nat}(d:α)(hj:j<L.length):((yU F L).drop (j*s)).take s=(F (L.getD j d)).cells.map SV.d:=by
 apply List.ext_getElem?
 intro r
 unfold yU
 rw[List.getElem?_take]
 split
 ·rename_i hr
  rw[List.getElem?_drop,List.getElem?_map,bxs_cell hF d hj hr,List.getElem?_map]
 ·rename_i hr
  rw[List.getElem?_eq_none (by rw[List.length_map,hF];omega)]
theorem oLA{α:Type}{F:α->jZ}{L:List α}{s:Nat}(hs:qX P T=some (true,s))(j:Nat)(d:α)(ho:o.op=.load T x:=by exact rfl)(hx:ev (kK S) x=.ref k (j*s):=by exact rfl)(hb:kB B k=some (yU F L):=by exact rfl)(hF:∀ g,(F g).cells.length=s:=by intro g;kernel_rfl)(hG:∀ g,mD true ((F g).cells.map SV.d)=.d (F g):=by intro g;kernel_rfl)(h1:j<L.length:=by omega):ROk P o S B k (.d (F (L.getD j d))):=by
 have h:=e_load_ref (P:=P) (cs:=yU F L) ho hx hs (fun h=>by cases h) (by unfold yU;rw[List.length_map,bxs_flen hF];exact bxs_room h1)
 rw[bxs_cut hF d h1,hG] at h
 exact ⟨_,h,hb⟩
theorem bxs_set{α:Type}{F:α->jZ}{s:Nat}(hF:∀ g,(F g).cells.length=s){L:List α}{j:Nat}(v:α)(hj:j<L.length):patch (yU F L) (j*s) ((F v).cells.map SV.d)=yU F (L.set j v):=by
 have hl:=bxs_flen hF L
 have hl2:=bxs_flen hF (L.set j v)
 rw[List.length_set] at hl2
 have hrm:=bxs_room (s:=s) hj
 apply List.ext_getElem?
 intro i
 have hb1:(yU F L).length=L.length*s:=by unfold yU;rw[List.length_map,hl]
 have hb2:(yU F (L.set j v)).length=L.length*s:=by unfold yU;rw[List.length_map,hl2]
 rw[nX (by rw[List.length_map,hF,hb1];exact hrm)]
 by_cases hi:i<L.length*s
 ·have hs0:0<s:=by
   rcases Nat.eq_zero_or_pos s with h | h
   ·subst h;simp at hi
   ·exact h
  have hq:i / s<L.length:=Nat.div_lt_of_lt_mul (by rw[Nat.mul_comm];exact hi)
  have hr:i % s<s:=Nat.mod_lt _ hs0
  have he:i=(i / s)*s+i % s:=by rw[Nat.mul_comm];exact (Nat.div_add_mod i s).symm
  have e1:(yU F (L.set j v))[i]?=((F ((L.set j v).getD (i / s) v)).cells[i % s]?).map SV.d:=by
   unfold yU;rw[List.getElem?_map];conv=>lhs;rw[he]
   rw[bxs_cell hF v (by rw[List.length_set];exact hq) hr]
  have e2:(yU F L)[i]?=((F (L.getD (i / s) v)).cells[i % s]?).map SV.d:=by
   unfold yU;rw[List.getElem?_map];conv=>lhs;rw[he]
   rw[bxs_cell hF v hq hr]
  rw[e1,e2,List.length_map,hF]
  by_cases hc:i / s=j
  ·have h3:j*s<=i/\i<j*s+s:=by subst hc;omega
   rw[if_neg (by omega),if_pos h3.2]
   have h4:(L.set j v).getD (i / s) v=v:=by rw[hc,List.getD_eq_getElem?_getD,List.getElem?_set_self hj];rfl
   rw[h4,List.getElem?_map,show i-j*s=i % s by subst hc;omega]
  ·have h3:¬ (j*s<=i/\i<j*s+s):=fun h=>hc (by
    have a1:j<=i / s:=(Nat.le_div_iff_mul_le hs0).2 h.1
    have a2:i / s<j+1:=Nat.div_lt_of_lt_mul (by rw[Nat.mul_comm,Nat.add_mul,Nat.one_mul];exact h.2)
    omega)
   have h4:(L.set j v).getD (i / s) v=L.getD (i / s) v:=by rw[List.getD_eq_getElem?_getD,List.getElem?_set_ne (fun e=>hc e.symm),<- List.getD_eq_getElem?_getD]
   rw[h4]
   split
   ·rfl
   ·rw[if_neg (fun h=>h3 ⟨by omega,h⟩)]
 ·have n1:(yU F (L.set j v))[i]?=none:=List.getElem?_eq_none (by rw[hb2];omega)
  have n2:(yU F L)[i]?=none:=List.getElem?_eq_none (by rw[hb1];omega)
  rw[n1,n2,List.length_map,hF,if_neg (by omega),if_neg (by omega)]
theorem oSA{α:Type}{F:α->jZ}{L:List α}{s:Nat}(hs:qX P T=some (true,s))(j:Nat)(v:α)(ho:o.op=.store T x y:=by exact rfl)(hx:ev (kK S) x=.ref k (j*s):=by exact rfl)(hb:kB B k=some (yU F L):=by exact rfl)(hy:ev (kK S) y=.d (F v):=by kernel_rfl)(h2:(F v).ok1=true:=by kernel_rfl)(hF:∀ g,(F g).cells.length=s:=by intro g;kernel_rfl)(h1:j<L.length:=by omega):TK P o S B k (yU F (L.set j v)):=by
 have h:=t_store (P:=P) (old:=yU F L) ho hx hy hs (.inl ⟨F v,rfl,h2,rfl⟩) (by rw[List.length_map,hF]) (by unfold yU;rw[List.length_map,bxs_flen hF];exact bxs_room h1)
 rw[bxs_set hF v h1] at h
 exact ⟨_,h,hb⟩
end
section
variable {P:Program} {o:Oper}
end
section
variable {P:Program}
section
variable {o:Oper} {S:Nat->SV} {T T':TypeId} {x y:Operand} {c:Nat}
end
end
open Go.RowKit (Below)
def aggOf(s:Nat)(u:Nat->Value):Value:=.agg ((List.range s).map u).toArray
structure BacksS (P:Program) (fB fI:FuncId) (T:TypeId) (s:Nat):Prop where
 call:∀ (a:Option Addr) (len cap:Nat) (w:World),Calls P fB #[.slice a len cap] w fun e w'=>e=.returned (.func (.func fI) #[] #[.pointer (some ⟨w.heap.size,0,none⟩)])/\w'=w.alloc (.cells #[.slice a len cap] T)
 empty:∀ (N l b cap:Nat) (ao:Option Addr) (J:World->Prop) (W:World),W.cell? ⟨b,0,none⟩=some (.slice ao 0 cap)->J W ->
  CallsIn Fence.wide (N+1) P fI #[.func (.yield l) #[] #[],.pointer (some ⟨b,0,none⟩)] W fun e W'=>(∃ v,e=.returned v)/\J W'
 rounds:∀ (N l c b off len cap:Nat) (u:Nat->Nat->Value),(len:Int)<=9223372036854775807->∀ (J:Nat->World->Prop) (Jx:World->Prop),
  (∀ j W,J j W->W.cell? ⟨c,0,none⟩=some (.slice (some ⟨b,off,none⟩) len cap)/\∀ i,i<len->∀ r,r<s->W.cell? ⟨b,off+(i*s+r),none⟩=some (u i r)) ->
  (∀ j W,J j W->j<len->YieldAt Fence.wide N P l #[.int .i64 ((len:Int)-1-(j:Int)),aggOf s (u (len-1-j))] W fun e W'=>(e=.returned (.bool true)/\J (j+1) W')\/(e=.returned (.bool false)/\Jx W')) ->
  ∀ W,J 0 W->CallsIn Fence.wide (N+1) P fI #[.func (.yield l) #[] #[],.pointer (some ⟨c,0,none⟩)] W fun e W'=>(∃ v,e=.returned v)/\(J len W'\/Jx W')
 enters:∀ args w,(callFunc fI args).run P w=.ok (.enter fI args) w
section
variable {C:iL} {a a':Act} {w w':World} {st:PS} {D:qU} {β:qM}
variable {P:Program} {n:Fr} {fB fI:FuncId} {T:TypeId} {S:SL} {B:BS} {Q:Exit->PS->Prop} {α:Type}
end
section
variable {P:Program} {o:Oper} {S:Nat->SV} {x:Operand} {k T s n:Nat} {d:jZ}
end
section
variable {P:Program} {o:Oper} {S:Nat->SV}
end
abbrev VBlk:=Nat × List SV × List jZ
inductive VArgs (bl:List VBlk):List Nat->List (List jZ)->Prop
 |nil:VArgs bl [] []
 |cons {k:Nat} {c:List SV} {cs:List jZ} {ks:List Nat} {css:List (List jZ)} (hk:(k,c,cs)∈bl) (h:VArgs bl ks css):VArgs bl (k::ks) (cs::css)
theorem VArgs.len{bl:List VBlk}{ks:List Nat}{css:List (List jZ)}(h:VArgs bl ks css):ks.length=css.length:=by
 induction h with
 |nil=>rfl
 |cons hk h ih=>simp [ih]
theorem VArgs.get{bl:List VBlk}{ks:List Nat}{css:List (List jZ)}(h:VArgs bl ks css):∀ (i:Nat) k cs,ks[i]?=some k->css[i]?=some cs->∃ c,(k,c,cs)∈bl:=by
 induction h with
 |nil=>intro i k cs h;simp at h
 |cons hk h ih=>
  intro i k cs h1 h2
  rcases i with _ | i
  ·simp at h1 h2;subst h1;subst h2;exact ⟨_,hk⟩
  ·exact ih i k cs (by simpa using h1) (by simpa using h2)
inductive See (bl:List VBlk) (E:TypeId):SV->jZ->Prop
 |d {x:jZ}:See bl E (.d x) x
 |r {k o:Nat} {c:List SV} {cs:List jZ} (hk:(k,c,cs)∈bl):See bl E (.ref k o) (.cptr E cs o)
 |s {k n s:Nat} {t:TypeId} {c:List SV} {cs es:List jZ} (hk:(k,c,cs)∈bl) (hes:∀ e∈es,e.cells.length=s) (hl:es.length=n) (hc:cs.take (n*s)=qI es):See bl E (.own k t s n) (.sl E s es)
 |x {k o b:Nat} {c:List SV} {cs:List jZ} (hk:(k,c,cs)∈bl):See bl E (.refx k o b) (.cptr E cs o)
 |f {g:FuncId} {ks:List Nat} {css:List (List jZ)} (hk:VArgs bl ks css):See bl E (.clo g ks) (.clo g (css.map fun cs=>.cptr E cs 0))
inductive Sees (bl:List VBlk) (E:TypeId):List SV->List jZ->Prop
 |nil:Sees bl E [] []
 |cons {x:SV} {d:jZ} {c:List SV} {cs:List jZ} (h:See bl E x d) (hr:Sees bl E c cs):Sees bl E (x::c) (d::cs)
 |all {c:List SV} {cs:List jZ} (h:c=cs.map SV.d):Sees bl E c cs
theorem Sees.len{bl:List VBlk}{E:TypeId}{c:List SV}{cs:List jZ}(h:Sees bl E c cs):c.length=cs.length:=by
 induction h with
 |nil=>rfl
 |cons h hr ih=>simp [ih]
 |all h=>subst h;simp
theorem Sees.get{bl:List VBlk}{E:TypeId}{c:List SV}{cs:List jZ}(h:Sees bl E c cs):∀ (i:Nat) x d,c[i]?=some x->cs[i]?=some d->See bl E x d:=by
 induction h with
 |nil=>intro i x d h;simp at h
 |cons h hr ih=>
  intro i x d h1 h2
  rcases i with _ | i
  ·simp at h1 h2;subst h1;subst h2;exact h
  ·exact ih i x d (by simpa using h1) (by simpa using h2)
 |all h=>
  intro i x d h1 h2
  subst h
  rw[List.getElem?_map,h2] at h1
  simp at h1;subst h1;exact .d
theorem bS{α:Type}{bl:List VBlk}{E k s n:Nat}{t:TypeId}{c:List SV}{F:α->jZ}{L:List α}(hk:(k,c,qI (L.map F))∈bl)(hF:∀ x,(F x).cells.length=s)(hl:L.length=n):See bl E (.own k t s n) (.sl E s (L.map F)) :=
 .s hk (map_celllen F hF L) (by simpa using hl) (by
  refine List.take_of_length_le ?_
  rw[dE F hF,hl]
  exact Nat.le_refl _)
theorem sees_bm{α:Type}{bl:List VBlk}{E:TypeId}{F:α->jZ}{L:List α}(hF:∀ x,(F x).cells=[F x]):Sees bl E (L.map fun g=>SV.d (F g)) (qI (L.map F)):=by
 refine .all ?_
 induction L with
 |nil=>rfl
 |cons x L ih=>simp only[List.map_cons,mY,hF,List.singleton_append,ih]
inductive VBlks (E:TypeId):List VBlk->Prop
 |nil:VBlks E []
 |cons {k:Nat} {c:List SV} {cs:List jZ} {bl:List VBlk} (h:Sees bl E c cs) (hr:VBlks E bl):VBlks E ((k,c,cs)::bl)
def SeenB(w:World)(D':qU)(β:qM)(E:TypeId)(p:VBlk):Prop :=
 (β p.1=none->p.2.2=[])/\∀ b,β p.1=some b->(∀ i,D' E b i)/\∃ us T',w.heap[b]?=some (.cells us T' (0,0))/\∀ (j:Nat) d,p.2.2[j]?=some d->∃ u,us[j]?=some u/\u.oneCell'=true/\vL w D' u d
section
variable {w:World} {D D':qU} {β:qM} {bl:List VBlk} {E:TypeId}
theorem seen_ptr{k o:Nat}{c:List SV}{cs:List jZ}{v:Value}(hb:SeenB w D' β E (k,c,cs))(hv:qH w D β v (.ref k o)):vL w D' v (.cptr E cs o):=by
 obtain ⟨b,h1,h2⟩:=hv
 obtain ⟨hD,us,T',g2,g4⟩:=hb.2 b h1
 rw[h2]
 have hcell:∀ i,w.cell? ⟨b,i,none⟩=us[i]?:=fun i=>cell_of_row w b i us T' (0,0) g2
 have hp:=vL.cptr (w:=w) (D:=D') (t:=E) (cs:=cs) (off:=o) b 0 (fun i=>us.getD i undef) (fun i hi=>hD _) (fun i hi=>by
  obtain ⟨x,q1,q2,q3⟩:=g4 i _ (List.getElem?_eq_getElem hi)
  rw[Nat.zero_add,hcell,Array.getD_eq_getD_getElem?,q1];rfl) (fun i hi=>by
  obtain ⟨x,q1,q2,q3⟩:=g4 i _ (List.getElem?_eq_getElem hi)
  rw[Array.getD_eq_getD_getElem?,q1];exact q2) (fun i d hd=>by
  obtain ⟨x,q1,q2,q3⟩:=g4 i d hd
  rw[Array.getD_eq_getD_getElem?,q1]
  exact q3)
 rw[Nat.zero_add] at hp
 exact hp
theorem see_rep(hm:∀ t g i,D t g i->D' t g i)(hB:∀ p∈bl,SeenB w D' β E p){x:SV}{d:jZ}(h:See bl E x d){v:Value}(hv:qH w D β v x):vL w D' v d:=by
 cases h with
 |d=>exact vL.mono (fun t g i hd=>⟨hm _ _ _ hd,rfl⟩) hv
 |r hk=>exact seen_ptr (hB _ hk) hv
 |x hk=>exact seen_ptr (D:=D) (hB _ hk) ⟨_,hv.1,hv.2⟩
 |s hk hes hl hc=>
  rename_i k n s t c cs es
  rcases hv with ⟨h1,h2,h3⟩ | ⟨b,cap,vs,h1,h2,h3,h4,h5,h6⟩
  ·have hn:es=[]:=List.eq_nil_of_length_eq_zero (by rw[hl,h2])
   subst hn
   rw[h3];exact bO w D' E s
  ·obtain ⟨hD,us,T',g2,g4⟩:=(hB _ hk).2 b h1
   rw[h2]
   have hfl:=vY hes
   have hcell:∀ i,w.cell? ⟨b,i,none⟩=us[i]?:=fun i=>cell_of_row w b i us T' (0,0) g2
   have key:∀ (i:Nat) d,(qI es)[i]?=some d->∃ u,us[0+i]?=some u/\u.oneCell'=true/\vL w D' u d:=fun i d hd=>by
    have hi:i<n*s:=by
     have:=(List.getElem?_eq_some_iff.1 hd).1
     rw[hfl,hl] at this;exact this
    have e1:cs[i]?=some d:=by
     rw[<- hc,List.getElem?_take_of_lt hi] at hd
     exact hd
    rw[Nat.zero_add]
    exact g4 _ d e1
   refine vL.sl b 0 (fun i=>us.getD (0+i) undef) hl.symm h5 h6 hes (fun _=>rfl) (fun i hi=>hD _) (fun i hi=>?_) (fun i hi=>?_) (fun i d hd=>?_)
   ·obtain ⟨x,q1,q2,q3⟩:=key i _ (List.getElem?_eq_getElem hi)
    rw[hcell,Array.getD_eq_getD_getElem?,q1];rfl
   ·obtain ⟨x,q1,q2,q3⟩:=key i _ (List.getElem?_eq_getElem hi)
    rw[Array.getD_eq_getD_getElem?,q1];exact q2
   ·obtain ⟨x,q1,q2,q3⟩:=key i d hd
    rw[Array.getD_eq_getD_getElem?,q1]
    exact q3
 |f hk=>
  obtain ⟨us,e1,e2,e3⟩:=hv
  rw[e1]
  refine .clo us (by rw[e2,hk.len,List.length_map]) fun j u d hu hd=>?_
  rw[List.getElem?_map,Option.map_eq_some_iff] at hd
  obtain ⟨cs,hcs,rfl⟩:=hd
  have hlt:j<_:=(List.getElem?_eq_some_iff.1 hcs).1
  rw[<- hk.len] at hlt
  obtain ⟨b,g1,g2⟩:=e3 j _ (List.getElem?_eq_getElem hlt)
  rw[hu] at g2
  injection g2 with g2
  obtain ⟨c,hc⟩:=hk.get j _ cs (List.getElem?_eq_getElem hlt) hcs
  exact seen_ptr (D:=D) (o:=0) (hB _ hc) ⟨b,g1,g2⟩
theorem blks_seen(hm:∀ t g i,D t g i->D' t g i)(hX:∀ p∈bl,∀ b,β p.1=some b->∀ i,D' E b i)(hbl:∀ p∈bl,vH w D β p.1 p.2.1)(h:VBlks E bl):∀ p∈bl,SeenB w D' β E p:=by
 induction h with
 |nil=>intro p hp;simp at hp
 |@cons k c cs bl h hr ih=>
  have ih':=ih (fun p hp=>hX p (.tail _ hp)) (fun p hp=>hbl p (.tail _ hp))
  intro p hp
  rcases List.mem_cons.1 hp with rfl | hp
  ·rcases hbl (k,c,cs) (.head _) with ⟨g1,g2⟩ | ⟨b,us,T',g1,g2,g3,g4,g5⟩
   ·refine ⟨fun _=>?_,fun b hb=>?_⟩
    ·have:=h.len
     have g2:c=[]:=g2
     rw[g2] at this
     exact List.eq_nil_of_length_eq_zero this.symm
    ·rw[show β k=none from g1] at hb;cases hb
   ·refine ⟨fun hn=>absurd hn (by rw[show β k=some b from g1];simp),fun b' hb=>?_⟩
    obtain rfl:b=b':=by rw[show β k=some b from g1] at hb;injection hb
    refine ⟨hX _ (.head _) _ hb,us,T',g2,fun j d hd=>?_⟩
    have hlt:j<c.length:=by rw[h.len];exact (List.getElem?_eq_some_iff.1 hd).1
    obtain ⟨u,e1,e2,e3⟩:=g4 j _ (List.getElem?_eq_getElem hlt)
    exact ⟨u,e1,e2,see_rep hm ih' (h.get j _ d (List.getElem?_eq_getElem hlt) hd) e3⟩
  ·exact ih' p hp
end
section
variable {P:Program} {o:Oper} {S:Nat->SV}
theorem fnv_run{w:World}{D:qU}{β:qM}{a:Act}{y:Operand}{args:List Operand}{ats:Array TypeId}{ex:List SV}{f:FuncId}(hop:∀ q∈o.op.operands,qH w D β (a.eval q) (ev S q))(ho:o.op=.call { callee:=.value y,args:=args.toArray,argTypes:=ats })
  (hm:callB P f=true) (hy:FnV S y f ex):∃ us:List Value,(execOp a.eval o).run P w=.ok (.enter f (args.map a.eval++us).toArray) w/\us.length=ex.length/\∀ (i:Nat) v x,us[i]?=some v->ex[i]?=some x->qH w D β v x:=by
 have hyv:=hop y (by simp [ho,Op.operands,Call.operands])
 cases hy with
 |fn h=>
  rw[h] at hyv
  have hv:=vW hyv
  refine ⟨[],?_,rfl,fun i v x h=>by simp at h⟩
  simp only[execOp,ho,resolve,Deferred.ofValue,hv,Sem.run_bind,Sem.run_pure,Result.andThen_ok,invoke,Array.empty_append,Array.append_empty]
  rw[xF hm]
  simp
 |@clo kk _ h he=>
  rw[h] at hyv
  obtain ⟨vs,hv1,hv2,hv3⟩:=hyv
  refine ⟨vs,?_,by rw[<- he];simpa using hv2,fun i v x hvi hxi=>?_⟩
  ·simp only[execOp,ho,resolve,Deferred.ofValue,hv1,Sem.run_bind,Sem.run_pure,Result.andThen_ok,invoke,Array.empty_append]
   rw[xF hm]
   simp
  ·rw[<- he,List.getElem?_map,Option.map_eq_some_iff] at hxi
   obtain ⟨k,hk,rfl⟩:=hxi
   obtain ⟨b,g1,g2⟩:=hv3 i k hk
   rw[hvi] at g2
   injection g2 with g2
   exact ⟨b,g1,g2⟩
 |@dat caps _ h he=>
  rw[h] at hyv
  generalize hq:a.eval y=q at hyv
  cases hyv with
  |clo vs hl hr=>
   refine ⟨vs,?_,by rw[<- he];simpa using hl,fun i v x hvi hxi=>?_⟩
   ·simp only[execOp,ho,resolve,Deferred.ofValue,hq,Sem.run_bind,Sem.run_pure,Result.andThen_ok,invoke,Array.empty_append]
    rw[xF hm]
    simp
   ·rw[<- he,List.getElem?_map,Option.map_eq_some_iff] at hxi
    obtain ⟨k,hk,rfl⟩:=hxi
    exact hr i v k hvi hk
theorem e_clh{y:Operand}{xs:List Operand}{ats:Array TypeId}{f:FuncId}{ds:List jZ}{r:jZ}{zs ex:List SV}{E:TypeId}{bl:List VBlk}(hf:jO P f ds r)(ho:o.op=.call { callee:=.value y,args:=xs.toArray,argTypes:=ats })(hy:FnV S y f ex)
  (hx:xs.map (ev S)++ex=zs) (hz:Sees bl E zs ds) (hb:VBlks E bl) (ha:gA E r):vI P o S (bl.map fun p=>(p.1,p.2.1)) (.d r) :=
 fun a w D β Q hop hrd hD=>by
  obtain ⟨us,hrun,hul,hur⟩:=fnv_run hop ho hf.may hy
  have uF:(xs.map a.eval++us).length=zs.length:=by
   rw[<- hx];simp [hul]
  have hrep:∀ (i:Nat) v x,(xs.map a.eval++us)[i]?=some v->zs[i]?=some x->qH w D β v x:=fun i v x hv hz'=>by
   rw[<- hx] at hz'
   by_cases hlt:i<xs.length
   ·rw[List.getElem?_append_left (by simpa using hlt)] at hv hz'
    rw[List.getElem?_map,Option.map_eq_some_iff] at hv
    obtain ⟨p,hqi,rfl⟩:=hv
    have hm:=hop p (by simp [ho,Op.operands,Call.operands,List.mem_of_getElem? hqi])
    rw[List.getElem?_map,hqi,Option.map_some,Option.some.injEq] at hz'
    rw[<- hz'];exact hm
   ·rw[List.getElem?_append_right (by simpa using hlt)] at hv hz'
    simp only[List.length_map] at hv hz'
    exact hur _ v _ hv hz'
  have hbl:∀ p∈bl,vH w D β p.1 p.2.1:=fun p hp=>hrd (p.1,p.2.1) (List.mem_map_of_mem (f:=fun p:VBlk=>(p.1,p.2.1)) hp)
  let X:TypeId->Nat->Nat->Prop:=fun t g _=>t=E/\∃ p∈bl,β p.1=some g
  have hXp:∀ t g i,X t g i->t=E/\∀ t' i',¬ D t' g i':=fun t g i ⟨h1,p,hp,hb⟩=>by
   rcases hbl p hp with ⟨g1,_⟩ | ⟨b',us,T',g1,g2,g3,g4,g5⟩
   ·rw[hb] at g1;cases g1
   ·obtain rfl:g=b':=by rw[hb] at g1;injection g1
    exact ⟨h1,g5⟩
  have hD':DOk (fun t g i=>D t g i\/X t g i) w:=fun t g i hd=>by
   rcases hd with hd | ⟨_,p,hp,hb⟩
   ·exact hD _ _ _ hd
   ·obtain ⟨vs,T,f',hh⟩:=iQ (hbl p hp) hb
    exact uZ hh
  have hm:∀ t g i,D t g i->(D t g i\/X t g i):=fun t g i hd=>.inl hd
  have hseen:=blks_seen (D':=fun t g i=>D t g i\/X t g i) hm (fun p hp b hb i=>.inr ⟨rfl,p,hp,hb⟩) hbl hb
  have hargs:Args w (fun t g i=>D t g i\/X t g i) (xs.map a.eval++us) ds:=⟨uF.trans hz.len,fun i v d hv hd=>by
   have hlt:i<zs.length:=by rw[hz.len];exact (List.getElem?_eq_some_iff.1 hd).1
   exact see_rep hm hseen (hz.get i _ d (List.getElem?_eq_getElem hlt) hd) (hrep i v _ hv (List.getElem?_eq_getElem hlt))⟩
  refine mH hrun ((hf.run w _ _ hD' hargs).mono fun e w' h=>?_)
  obtain ⟨v,D2,he,h1,h2,h3⟩:=h
  refine ⟨v,he,v,fun t g i=>D2 t g i/\¬ X t g i,rfl,h1,⟨fun t g i hd=>⟨h2.up _ _ _ (.inl hd),fun hx'=>(hXp t g i hx').2 t i hd⟩,fun t g i hd=>?_⟩,?_⟩
  ·rcases h2.new t g i hd.1 with h | h
   ·rcases h with h | h
    ·exact .inl h
    ·exact absurd h hd.2
   ·exact .inr h
  ·exact ha.rep (fun t g i hne hd=>⟨hd,fun hx'=>hne (hXp t g i hx').1⟩) h3
end
theorem oCh{P:Program}{o:Oper}{S:SL}{B:BS}{y:Operand}{xs:List Operand}{ats:Array TypeId}{f:FuncId}{ds:List jZ}{r:jZ}{ex:List SV}(bl:List VBlk)(zs:List SV)(hf:jO P f ds r)(hz:Sees bl 1000000 zs ds)(hv:VBlks 1000000 bl)(ha:gA 1000000 r)
  (ho:o.op=.call { callee:=.value y,args:=xs.toArray,argTypes:=ats }:=by exact rfl) (hy:FnV (kK S) y f ex:=by first | exact .fn (by kernel_rfl) | exact .clo (by kernel_rfl) (by kernel_rfl) | exact .dat (by kernel_rfl) (by kernel_rfl)) (hx:xs.map (ev (kK S))++ex=zs:=by kernel_rfl)
  (hb:bl.map (fun p=>kB B p.1)=bl.map (fun p=>some p.2.1):=by kernel_rfl) {ks:List Nat} (hks:bl.map (·.1)=ks:=by exact rfl):RKs P o S B ks (.d r):=by
 refine ⟨bl.map fun p=>(p.1,p.2.1),by rw[List.map_map];exact hks,e_clh hf ho hy hx hz hv ha,fun p hp=>?_⟩
 obtain ⟨q,hq,rfl⟩:=List.mem_map.1 hp
 exact List.map_inj_left.1 hb q hq
section
variable {P:Program} {n:Fr} {ops:Array Oper} {K:SL->BS->Prop} {S:SL} {B:BS} {l:List Oper} {o:Oper} {news:List Nat} {acc0:List (List Nat × List Nat)}
end
theorem pwp_fix{P:Program}{n:Fr}{c:Code}{Q:Exit->PS->Prop}{S:SL}{B:BS}(j:Nat){k o:Nat}(hj:kB B j=some [.ref k o]:=by kernel_rfl)(h:∀ b,eI P n c Q ⟨S,(j,some [.refx k o b])::B⟩):eI P n c Q ⟨S,B⟩:=fun C a w N hn ⟨D,β,hs⟩=>by
 obtain ⟨b,hb⟩:∃ b,β k=some b:=by
  rcases hs.mem.ok _ _ hj with ⟨_,e⟩ | ⟨_,vs,T,_,_,_,g4,_⟩
  ·cases e
  ·obtain ⟨u,_,_,b,e3,_⟩:=g4 0 _ rfl
   exact ⟨b,e3⟩
 have conv:∀ {i c},kB ((j,some [SV.refx k o b])::B) i=some c->∃ c',kB B i=some c':=fun {i c} hi=>by
  rw[jK] at hi
  split at hi
  ·rename_i e;subst e;exact ⟨_,hj⟩
  ·exact ⟨_,hi⟩
 refine h b C a w N hn ⟨D,β,hs.base,⟨fun i c hi=>?_,fun i1 i2 c1 c2 q1 q2=>?_⟩,fun i c hi=>?_,hs.slots⟩
 ·rw[jK] at hi
  split at hi
  ·rename_i e;subst e
   injection hi with hi;subst hi
   rcases hs.mem.ok _ _ hj with ⟨_,e⟩ | ⟨b2,vs,T,g1,g2,g3,g4,g5⟩
   ·cases e
   ·refine .inr ⟨b2,vs,T,g1,g2,g3,fun q x hx=>?_,g5⟩
    cases q with
    |zero=>
     simp only[List.getElem?_cons_zero,Option.some.injEq] at hx
     subst hx
     obtain ⟨u,e1,e2,b3,e3,e4⟩:=g4 0 _ rfl
     rw[hb] at e3
     injection e3 with e3
     subst e3
     exact ⟨u,e1,e2,hb,e4⟩
    |succ q=>simp at hx
  ·exact hs.mem.ok i c hi
 ·obtain ⟨d1,g1⟩:=conv q1
  obtain ⟨d2,g2⟩:=conv q2
  exact hs.mem.inj i1 i2 d1 d2 g1 g2
 ·obtain ⟨d1,g1⟩:=conv hi
  exact hs.high i d1 g1
theorem oLx{P:Program}{o:Oper}{S:SL}{B:BS}{T:TypeId}{x:Operand}{k j q b:Nat}(hs:qX P T=some (false,1))(ho:o.op=.load T x:=by exact rfl)(hx:ev (kK S) x=.ref k 0:=by exact rfl)(hb:kB B k=some [.refx j q b]:=by exact rfl):ROk P o S B k (.ref j q):=by
 obtain ⟨cs,h,e⟩:=uE (P:=P) (o:=o) (S:=S) (B:=B) (off:=0) (k:=k) (cs:=[.refx j q b]) hs ho hx hb (by rfl)
 exact ⟨cs,h.weaken fun w D β v hv=>⟨b,hv.1,hv.2⟩,e⟩
section
variable {P:Program} {n:Fr} {ops:Array Oper} {K:SL->BS->Prop} {S:SL} {B:BS} {l:List Oper} {o:Oper} {α:Type} {T E t':TypeId} {x y:Operand} {k s m bytes:Nat} {zv:List Value}
variable {news:List Nat} {acc0:List (List Nat × List Nat)}
theorem wAS(k':Nat)(F:α->jZ)(L L':List α)(hL:L.length=m)(hT:vN P T=some (E,s))(hz:yI P E=some zv)(hby:yQ P E=some bytes)(r:DK P n ops K (k'::news) (acc0++[([k],[k',k])]) ((dO o,.own k' E s (L++L').length)::S) ((k',some (yU F (L++L')))::(k,none)::B) l)
  (ho:o.op=.call { callee:=.builtin .append,args:=#[x,y],argTypes:=#[T,T] }:=by exact rfl) (g:goK n ops S o=true:=by kernel_rfl) (hx:ev (kK S) x=.own k E s m:=by exact rfl) (hb:kB B k=some (yU F L):=by kernel_rfl) (hy:ev (kK S) y=.d (.sl t' s (L'.map F)):=by exact rfl) (hF:∀ g,(F g).cells.length=s:=by intro g;kernel_rfl) (hzl:zv.length=s:=by kernel_rfl)
  (hpos:Nat.blt 0 L'.length=true:=by kernel_rfl) (hbig:m+L'.length<=maxLen:=by first | (simp only[List.length_cons,List.length_nil,maxLen];omega) | (simp [maxLen];omega)) (hbig':(m+L'.length)*bytes<=140737488355328:=by first | omega | (simp only[List.length_cons,List.length_nil];omega) | (simp;omega))
  (hne:Nat.beq k k'=false:=by kernel_rfl) (h1:(S.all fun p=>!p.2.names k')=true:=by kernel_rfl)
  (h2:FrB k' B:=by repeat first | exact frb_nil _ | refine frb_map rfl ?_ | refine frb_d rfl ?_ | refine frb_cs rfl rfl ?_ | refine frb_none rfl ?_) (hn:clear1 news (.own k' E s 0)=true:=by kernel_rfl):DK P n ops K news acc0 S B (o::l):=by
 obtain ⟨st1,acc,r1,r0,r2⟩:=r
 obtain ⟨hd,hg,hdB⟩:=yP g
 have h:=app_local (P:=P) (o:=o) (S:=kK S) (k:=k) (k':=k') (cs:=yU F L) (es':=L'.map F) ho hT hz hzl hby hx (gI k' id _) (by rw[List.length_map,dE F hF,hL]) hy (by rw[List.length_map];exact Nat.le_of_ble_eq_true hpos) (by simpa using hbig) (by simpa using hbig')
 have e1:yU F L++(qI (L'.map F)).map .d=yU F (L++L'):=by
  show (qI (L.map F)).map SV.d++(qI (L'.map F)).map SV.d=(qI ((L++L').map F)).map SV.d
  rw[List.map_append,bL,List.map_append]
 have e2:m+(L'.map F).length=(L++L').length:=by rw[List.length_map,List.length_append,hL]
 rw[e1,e2] at h
 have hs:=mQ.a (P:=P) (n:=n) (ops:=ops) (news:=news) (st:=⟨S,B⟩) (o:=o) h hg (by rw[hd];exact hdB) hb (freshB_of h1 h2) (lK hne) hn (clearL_map _ id _)
 rw[hd] at hs
 exact ⟨st1,([k],[k',k])::acc,.cons hs r1,by simpa using r0,r2⟩
end
def xn(p q j:Nat):Nat:=if j=p then q else if j=q then p else j
theorem xn_xn(p q j:Nat):xn p q (xn p q j)=j:=by
 unfold xn
 by_cases h1:j=p
 ·subst h1
  by_cases h2:q=j
  ·subst h2;simp
  ·simp [h2]
 ·by_cases h2:j=q
  ·subst h2
   simp [h1]
  ·simp [h1,h2]
theorem takesS_ren{P:Program}{f:FuncId}{xs:List SV}{B:BS}{r:SV}{B' B2:BS}(p q:Nat)(h:xA P f xs B r B')(hB:B2.map (fun e=>(e.1,e.2.map fun c=>c.map (SV.ren (xn p q))))=B'.map (fun e=>(xn p q e.1,e.2)))(hr:r.ren (xn p q)=r)(hx:(xs.all fun x=>!x.pins p&&!x.pins q)=true):xA P f xs B r B2 :=
 ⟨h.may,fun w D β vs hD hm hl ha=>(h.run w D β vs hD hm hl ha).mono fun e w' ⟨v,D',β',he,s⟩=>by
  have hinv:(fun j=>(fun k=>β' (xn p q k)) (xn p q j))=β':=funext fun j=>by show β' (xn p q (xn p q j))=β' j;rw[xn_xn]
  -- a block of B2 is a block of B' under the other number
  have key:∀ {l l':BS},l.map (fun e=>(e.1,e.2.map fun c=>c.map (SV.ren (xn p q))))=l'.map (fun e=>(xn p q e.1,e.2))->∀ {k c},kB l k=some c->kB l' (xn p q k)=some (c.map (SV.ren (xn p q))):=by
   intro l
   induction l with
   |nil=>intro l' _ k c h;simp [kB] at h
   |cons e l ih=>
    intro l' hl k c hk
    obtain ⟨j,x⟩:=e
    cases l' with
    |nil=>simp at hl
    |cons e' l'=>
     obtain ⟨j',x'⟩:=e'
     simp only[List.map_cons,List.cons.injEq,Prod.mk.injEq] at hl
     obtain ⟨⟨h1,h2⟩,h3⟩:=hl
     rw[jK] at hk
     rw[jK]
     split at hk
     ·rename_i ejk
      subst ejk
      rw[if_pos (by rw[h1,xn_xn]),<- h2,hk];rfl
     ·rename_i hne
      rw[if_neg (fun e=>hne (by rw[h1,e,xn_xn]))]
      exact ih h3 hk
  have hmem:∀ {k c},kB B2 k=some c->kB B' (xn p q k)=some (c.map (SV.ren (xn p q))):=key hB
  refine ⟨v,D',fun k=>β' (xn p q k),he,s.below,s.keep,s.oth,s.up,s.new,s.dok,⟨fun k c hk=>?_,fun k1 k2 c1 c2 q1 q2 b e1 e2=>?_⟩,fun k c hk b hb=>s.high _ _ (hmem hk) b hb,fun i x hi k hk=>?_,?_⟩
  ·have:=s.mem.ok _ _ (hmem hk)
   exact (blk_ren (xn p q)).1 this
  ·have:=s.mem.inj _ _ _ _ (hmem q1) (hmem q2) b e1 e2
   rw[<- xn_xn p q k1,this,xn_xn]
  ·have hall:=List.all_eq_true.1 hx x (List.mem_of_getElem? hi)
   rw[Bool.and_eq_true,Bool.not_eq_true',Bool.not_eq_true'] at hall
   have h1:k≠p:=fun e=>by subst e;rw[hk] at hall;cases hall.1
   have h2:k≠q:=fun e=>by subst e;rw[hk] at hall;cases hall.2
   show β' (xn p q k)=β k
   rw[show xn p q k=k by unfold xn;rw[if_neg h1,if_neg h2]]
   exact s.same i x hi k hk
  ·have:=s.res
   rw[<- hr] at this
   exact (repS_ren (xn p q)).1 this⟩
end Go.Fid
namespace Go.Proofs.YtnajallgoaiahaaGreatDoor
open Go.Fid
theorem xY(h140:140≠1000000)(x:jL):gA 1000000 (jF x):=.agg (fJ (.val _) (fJ (avo_vals h140 _) (fJ (.val _) (fJ (avo_vals h140 _) (fJ (.val _) (fJ (avo_vals h140 _) (fJ (.val _) (fJ (avo_vals h140 _) avo_nil))))))))
abbrev xZ (n k:Nat) (L:List JV) (b:Bool):List SV:=[(jS n),(jS 1),(vi (-1)),(.own k 95 10 ((List.map qW L).length)),(vb b)]
abbrev yA (L:List JV):List SV:=yU jI (List.map qW L)
abbrev mcA (n:Nat) (x:jZ) (b:Bool):jZ:=.agg [(.val (.int .i64 ((n:Nat):Int))),(.val (.int .i64 ((1:Nat):Int))),(.val (.int .i64 (-1))),x,(.val (.bool b))]
theorem gl_ite{c:Prop}[Decidable c]{a b:R2}{n:Nat}(ha:GL n a)(hb:GL n b):GL n (if c then a else b):=by
 split
 ·exact ha
 ·exact hb
theorem j_whole(z:Int)(hz1:-9223372036854775808<=z)(hz2:z<=9223372036854775807):jO Tryz.prog 180 [(.val (.int .i64 (z)))] (jF (jY (gw z))):=by
 refine qY Tryz.func180 ?_
 refine jB<|kx [(2,(.ref 0 0))] [(0,some (bx (jF (jL.mk kH kH))))] (zN (qR 0 qJ qL)<|zZ) ?_
 refine jB<|kx [] [(0,some (bx (jF (jL.mk (jN ((z:Int):Rat)) (jN ((z:Int):Rat))))))] (zM<|zE (jV (bM z (by omega) (by omega)))<|zM<|zE (jV (bM z (by omega) (by omega)))<|zE (eD iJ qJ qL)<|zT (qA jP)<|zZ) ?_
 refine jE ⟨_,(kI (cs:=(bx (jF (jL.mk (jN ((z:Int):Rat)) (jN ((z:Int):Rat)))))) (d:=(jF (jL.mk (jN ((z:Int):Rat)) (jN ((z:Int):Rat))))) rfl rfl jP rfl rfl .nil),?_⟩
 rfl
theorem j_add(a:R2)(ha:GL 67108864 a)(b:R2)(hb:GL 67108864 b):jO Tryz.prog 192 [(jF (jY a)),(jF (jY b))] (jF (jY (vJ a b))):=by
 refine qY Tryz.func192 ?_
 refine jB<|kx [(2,(.ref 0 0)),(3,(.ref 1 0)),(4,(.ref 2 0))] [(0,some (bx (jF (jY a)))),(1,some (bx (jF (jY b)))),(2,some (bx (jF (jL.mk kH kH))))] (zN (uU 0)<|zN (uU 1)<|zN (qR 2 qJ qL)<|zZ) ?_
 refine jB<|kx [(5,(.ref 3 0))] [(3,some (bx (jF (jL.mk (jN (a.1+b.1)) (jN (a.2+b.2))))))] (zR (kJ jP)<|zR (kJ jP)<|zE (jV (i_add a.1 a.2 b.1 b.2 (qG ha.1) (qG ha.2.1) (qG hb.1) (qG hb.2.1) ha.2.2 hb.2.2))<|zM<|zE uX<|zE uX<|zN (qR 3 qJ qL)<|zT (qA jP)<|zM<|zZ) ?_
 refine jB<|kx [] [(2,some (bx (jF (jL.mk (jN (a.1+b.1)) (jN (a.2+b.2))))))] (zR (kJ jP)<|zT (qA jP)<|zZ) ?_
 refine jE ⟨_,(kI (cs:=(bx (jF (jL.mk (jN (a.1+b.1)) (jN (a.2+b.2)))))) (d:=(jF (jL.mk (jN (a.1+b.1)) (jN (a.2+b.2))))) rfl rfl jP rfl rfl .nil),?_⟩
 rfl
theorem j_sub(a:R2)(ha:GL 67108864 a)(b:R2)(hb:GL 67108864 b):jO Tryz.prog 193 [(jF (jY a)),(jF (jY b))] (jF (jY (uR a b))):=by
 refine qY Tryz.func193 ?_
 refine jB<|kx [(2,(.ref 0 0)),(3,(.ref 1 0)),(4,(.ref 2 0))] [(0,some (bx (jF (jY a)))),(1,some (bx (jF (jY b)))),(2,some (bx (jF (jL.mk kH kH))))] (zN (uU 0)<|zN (uU 1)<|zN (qR 2 qJ qL)<|zZ) ?_
 refine jB<|kx [(5,(.ref 3 0))] [(3,some (bx (jF (jL.mk (jN (a.1-b.2)) (jN (a.2-b.1))))))] (zR (kJ jP)<|zR (kJ jP)<|zE (jV (i_sub a.1 a.2 b.1 b.2 (qG ha.1) (qG ha.2.1) (qG hb.1) (qG hb.2.1) ha.2.2 hb.2.2))<|zM<|zE uX<|zE uX<|zN (qR 3 qJ qL)<|zT (qA jP)<|zM<|zZ) ?_
 refine jB<|kx [] [(2,some (bx (jF (jL.mk (jN (a.1-b.2)) (jN (a.2-b.1))))))] (zR (kJ jP)<|zT (qA jP)<|zZ) ?_
 refine jE ⟨_,(kI (cs:=(bx (jF (jL.mk (jN (a.1-b.2)) (jN (a.2-b.1)))))) (d:=(jF (jL.mk (jN (a.1-b.2)) (jN (a.2-b.1))))) rfl rfl jP rfl rfl .nil),?_⟩
 rfl
theorem j_mul(a:R2)(ha:GL 67108864 a)(b:R2)(hb:GL 67108864 b):jO Tryz.prog 196 [(jF (jY a)),(jF (jY b))] (jF (jY (qP a b))):=by
 let y1:=(bx (jF (jL.mk (jN (hC (a.1*b.1) [(a.1*b.2),(a.2*b.1),(a.2*b.2)])) (jN (nY (a.1*b.1) [(a.1*b.2),(a.2*b.1),(a.2*b.2)])))))
 refine qY Tryz.func196 ?_
 refine jB<|kx [(2,(.ref 0 0)),(3,(.ref 1 0)),(4,(.ref 2 0))] [(0,some (bx (jF (jY a)))),(1,some (bx (jF (jY b)))),(2,some (bx (jF (jL.mk kH kH))))] (zN (uU 0)<|zN (uU 1)<|zN (qR 2 qJ qL)<|zZ) ?_
 refine jB<|kx [(5,(.ref 3 0))] [(3,some y1)] (zR (kJ jP)<|zR (kJ jP)<|zE (jV (i_mul a.1 a.2 b.1 b.2 (qG ha.1) (qG ha.2.1) (qG hb.1) (qG hb.2.1) ha.2.2 hb.2.2))<|zM<|zE uX<|zE uX<|zN (qR 3 qJ qL)<|zT (qA jP)<|zM<|zZ) ?_
 refine jB<|kx [] [(2,some y1)] (zR (kJ jP)<|zT (qA jP)<|zZ) ?_
 refine jE ⟨_,(kI (cs:=y1) (d:=(jF (jL.mk (jN (hC (a.1*b.1) [(a.1*b.2),(a.2*b.1),(a.2*b.2)])) (jN (nY (a.1*b.1) [(a.1*b.2),(a.2*b.1),(a.2*b.2)]))))) rfl rfl jP rfl rfl .nil),?_⟩
 rfl
theorem j_sq(a:R2)(ha:GL 67108864 a):jO Tryz.prog 200 [(jF (jY a))] (jF (jY (gsq a))):=by
 refine qY Tryz.func200 ?_
 refine jB<|kx [(1,(.ref 0 0)),(2,(.ref 1 0))] [(0,some (bx (jF (jY a)))),(1,some (bx (jF (jL.mk kH kH))))] (zN (uU 0)<|zN (qR 1 qJ qL)<|zZ) ?_
 refine jB<|kx [(3,(.ref 2 0))] [(2,some (bx (jF (jL.mk (jN (sqL a.1 a.2)) (jN (sqH a.1 a.2))))))] (zR (kJ jP)<|zE (jV (i_square a.1 a.2 (qG ha.1) (qG ha.2.1) ha.2.2))<|zM<|zE uX<|zE uX<|zN (qR 2 qJ qL)<|zT (qA jP)<|zM<|zZ) ?_
 refine jB<|kx [] [(1,some (bx (jF (jL.mk (jN (sqL a.1 a.2)) (jN (sqH a.1 a.2))))))] (zR (kJ jP)<|zT (qA jP)<|zZ) ?_
 refine jE ⟨_,(kI (cs:=(bx (jF (jL.mk (jN (sqL a.1 a.2)) (jN (sqH a.1 a.2)))))) (d:=(jF (jL.mk (jN (sqL a.1 a.2)) (jN (sqH a.1 a.2))))) rfl rfl jP rfl rfl .nil),?_⟩
 rfl
theorem j_kids(o:Int):jO Tryz.prog 182 [(.val (.int .i64 (o)))] (.val (.int .i64 ((xG o)))):=by
 refine qY Tryz.func182 ?_
 refine jB<|kx [] [] (zM<|zZ) ?_
 refine jB<|jB<|kx [(3,(vi o))] [] (zM<|zZ) ?_
 refine jH<|jB<|jB<|kx [(4,(vb (o == 0)))] [] (zE xR<|zM<|zZ) ?_
 refine jG (b:=(o == 0)) rfl (fun h1=>?_) (fun h1=>?_)
 ·replace h1:=eq_of_beq h1
  refine jC<|jG rfl (fun _=>?_) (fun h=>absurd (Eq.trans (Eq.symm (show ((o == 0))=true from beq_iff_eq.2 h1)) h) (by decide))
  refine jB<|kx [(2,(jS 0))] [] (zM<|zZ) ?_
  refine jE ⟨_,(.tmp (d:=(.val (.int .i64 (0)))) rfl .nil),?_⟩
  show jZ.val (.int .i64 _)=_
  unfold xG;simp [*]
 ·replace h1:=ne_of_beq_false h1
  refine kx [(4,(vb (o == 1)))] [] (zE xR<|zM<|zZ) ?_
  refine jG (b:=(o == 1)) rfl (fun h2=>?_) (fun h2=>?_)
  ·replace h2:=eq_of_beq h2
   refine jB<|kx [(2,(jS 0))] [] (zM<|zZ) ?_
   refine jE ⟨_,(.tmp (d:=(.val (.int .i64 (0)))) rfl .nil),?_⟩
   show jZ.val (.int .i64 _)=_
   unfold xG;simp [*]
  ·replace h2:=ne_of_beq_false h2
   refine jB<|jB<|kx [(7,(vb (o == 6)))] [] (zE xR<|zM<|zZ) ?_
   refine jG (b:=(o == 6)) rfl (fun h3=>?_) (fun h3=>?_)
   ·replace h3:=eq_of_beq h3
    refine jC<|jG rfl (fun _=>?_) (fun h=>absurd (Eq.trans (Eq.symm (show ((o == 6))=true from beq_iff_eq.2 h3)) h) (by decide))
    refine jB<|kx [(2,(jS 1))] [] (zM<|zZ) ?_
    refine jE ⟨_,(.tmp (d:=(.val (.int .i64 (1)))) rfl .nil),?_⟩
    show jZ.val (.int .i64 _)=_
    unfold xG;simp [*]
   ·replace h3:=ne_of_beq_false h3
    refine kx [(7,(vb (o == 7)))] [] (zE xR<|zM<|zZ) ?_
    refine jG (b:=(o == 7)) rfl (fun h4=>?_) (fun h4=>?_)
    ·replace h4:=eq_of_beq h4
     refine jB<|kx [(2,(jS 1))] [] (zM<|zZ) ?_
     refine jE ⟨_,(.tmp (d:=(.val (.int .i64 (1)))) rfl .nil),?_⟩
     show jZ.val (.int .i64 _)=_
     unfold xG;simp [*]
    ·replace h4:=ne_of_beq_false h4
     refine jB<|jB<|kx [(10,(vb (o == 2)))] [] (zE xR<|zM<|zZ) ?_
     refine jG (b:=(o == 2)) rfl (fun h5=>?_) (fun h5=>?_)
     ·replace h5:=eq_of_beq h5
      refine jC<|jG rfl (fun _=>?_) (fun h=>absurd (Eq.trans (Eq.symm (show ((o == 2))=true from beq_iff_eq.2 h5)) h) (by decide))
      refine jB<|kx [(2,(jS 2))] [] (zM<|zZ) ?_
      refine jE ⟨_,(.tmp (d:=(.val (.int .i64 (2)))) rfl .nil),?_⟩
      show jZ.val (.int .i64 _)=_
      unfold xG;simp [*]
     ·replace h5:=ne_of_beq_false h5
      refine jB<|kx [(10,(vb (o == 3)))] [] (zE xR<|zM<|zZ) ?_
      refine jG (b:=(o == 3)) rfl (fun h6=>?_) (fun h6=>?_)
      ·replace h6:=eq_of_beq h6
       refine jC<|jG rfl (fun _=>?_) (fun h=>absurd (Eq.trans (Eq.symm (show ((o == 3))=true from beq_iff_eq.2 h6)) h) (by decide))
       refine jB<|kx [(2,(jS 2))] [] (zM<|zZ) ?_
       refine jE ⟨_,(.tmp (d:=(.val (.int .i64 (2)))) rfl .nil),?_⟩
       show jZ.val (.int .i64 _)=_
       unfold xG;simp [*]
      ·replace h6:=ne_of_beq_false h6
       refine jB<|kx [(10,(vb (o == 4)))] [] (zE xR<|zM<|zZ) ?_
       refine jG (b:=(o == 4)) rfl (fun h7=>?_) (fun h7=>?_)
       ·replace h7:=eq_of_beq h7
        refine jC<|jG rfl (fun _=>?_) (fun h=>absurd (Eq.trans (Eq.symm (show ((o == 4))=true from beq_iff_eq.2 h7)) h) (by decide))
        refine jB<|kx [(2,(jS 2))] [] (zM<|zZ) ?_
        refine jE ⟨_,(.tmp (d:=(.val (.int .i64 (2)))) rfl .nil),?_⟩
        show jZ.val (.int .i64 _)=_
        unfold xG;simp [*]
       ·replace h7:=ne_of_beq_false h7
        refine kx [(10,(vb (o == 5)))] [] (zE xR<|zM<|zZ) ?_
        refine jG (b:=(o == 5)) rfl (fun h8=>?_) (fun h8=>?_)
        ·replace h8:=eq_of_beq h8
         refine jB<|kx [(2,(jS 2))] [] (zM<|zZ) ?_
         refine jE ⟨_,(.tmp (d:=(.val (.int .i64 (2)))) rfl .nil),?_⟩
         show jZ.val (.int .i64 _)=_
         unfold xG;simp [*]
        ·replace h8:=ne_of_beq_false h8
         refine jC<|jB<|kx [(2,(vi (-1)))] [] (zM<|zZ) ?_
         refine jE ⟨_,(.tmp (d:=(.val (.int .i64 (-1)))) rfl .nil),?_⟩
         show jZ.val (.int .i64 _)=_
         unfold xG;simp [*]
theorem r_kids(o:Int):jO Tryz.prog 109 [(.val (.int .i64 (o)))] (.val (.int .i64 ((xG o)))):=by
 refine qY Tryz.func109 ?_
 refine jB<|kx [] [] (zM<|zZ) ?_
 refine jB<|jB<|kx [(3,(vi o))] [] (zM<|zZ) ?_
 refine jH<|jB<|jB<|kx [(4,(vb (o == 0)))] [] (zE xR<|zM<|zZ) ?_
 refine jG (b:=(o == 0)) rfl (fun h1=>?_) (fun h1=>?_)
 ·replace h1:=eq_of_beq h1
  refine jC<|jG rfl (fun _=>?_) (fun h=>absurd (Eq.trans (Eq.symm (show ((o == 0))=true from beq_iff_eq.2 h1)) h) (by decide))
  refine jB<|kx [(2,(jS 0))] [] (zM<|zZ) ?_
  refine jE ⟨_,(.tmp (d:=(.val (.int .i64 (0)))) rfl .nil),?_⟩
  show jZ.val (.int .i64 _)=_
  unfold xG;simp [*]
 ·replace h1:=ne_of_beq_false h1
  refine kx [(4,(vb (o == 1)))] [] (zE xR<|zM<|zZ) ?_
  refine jG (b:=(o == 1)) rfl (fun h2=>?_) (fun h2=>?_)
  ·replace h2:=eq_of_beq h2
   refine jB<|kx [(2,(jS 0))] [] (zM<|zZ) ?_
   refine jE ⟨_,(.tmp (d:=(.val (.int .i64 (0)))) rfl .nil),?_⟩
   show jZ.val (.int .i64 _)=_
   unfold xG;simp [*]
  ·replace h2:=ne_of_beq_false h2
   refine jB<|jB<|kx [(7,(vb (o == 6)))] [] (zE xR<|zM<|zZ) ?_
   refine jG (b:=(o == 6)) rfl (fun h3=>?_) (fun h3=>?_)
   ·replace h3:=eq_of_beq h3
    refine jC<|jG rfl (fun _=>?_) (fun h=>absurd (Eq.trans (Eq.symm (show ((o == 6))=true from beq_iff_eq.2 h3)) h) (by decide))
    refine jB<|kx [(2,(jS 1))] [] (zM<|zZ) ?_
    refine jE ⟨_,(.tmp (d:=(.val (.int .i64 (1)))) rfl .nil),?_⟩
    show jZ.val (.int .i64 _)=_
    unfold xG;simp [*]
   ·replace h3:=ne_of_beq_false h3
    refine kx [(7,(vb (o == 7)))] [] (zE xR<|zM<|zZ) ?_
    refine jG (b:=(o == 7)) rfl (fun h4=>?_) (fun h4=>?_)
    ·replace h4:=eq_of_beq h4
     refine jB<|kx [(2,(jS 1))] [] (zM<|zZ) ?_
     refine jE ⟨_,(.tmp (d:=(.val (.int .i64 (1)))) rfl .nil),?_⟩
     show jZ.val (.int .i64 _)=_
     unfold xG;simp [*]
    ·replace h4:=ne_of_beq_false h4
     refine jB<|jB<|kx [(10,(vb (o == 2)))] [] (zE xR<|zM<|zZ) ?_
     refine jG (b:=(o == 2)) rfl (fun h5=>?_) (fun h5=>?_)
     ·replace h5:=eq_of_beq h5
      refine jC<|jG rfl (fun _=>?_) (fun h=>absurd (Eq.trans (Eq.symm (show ((o == 2))=true from beq_iff_eq.2 h5)) h) (by decide))
      refine jB<|kx [(2,(jS 2))] [] (zM<|zZ) ?_
      refine jE ⟨_,(.tmp (d:=(.val (.int .i64 (2)))) rfl .nil),?_⟩
      show jZ.val (.int .i64 _)=_
      unfold xG;simp [*]
     ·replace h5:=ne_of_beq_false h5
      refine jB<|kx [(10,(vb (o == 3)))] [] (zE xR<|zM<|zZ) ?_
      refine jG (b:=(o == 3)) rfl (fun h6=>?_) (fun h6=>?_)
      ·replace h6:=eq_of_beq h6
       refine jC<|jG rfl (fun _=>?_) (fun h=>absurd (Eq.trans (Eq.symm (show ((o == 3))=true from beq_iff_eq.2 h6)) h) (by decide))
       refine jB<|kx [(2,(jS 2))] [] (zM<|zZ) ?_
       refine jE ⟨_,(.tmp (d:=(.val (.int .i64 (2)))) rfl .nil),?_⟩
       show jZ.val (.int .i64 _)=_
       unfold xG;simp [*]
      ·replace h6:=ne_of_beq_false h6
       refine jB<|kx [(10,(vb (o == 4)))] [] (zE xR<|zM<|zZ) ?_
       refine jG (b:=(o == 4)) rfl (fun h7=>?_) (fun h7=>?_)
       ·replace h7:=eq_of_beq h7
        refine jC<|jG rfl (fun _=>?_) (fun h=>absurd (Eq.trans (Eq.symm (show ((o == 4))=true from beq_iff_eq.2 h7)) h) (by decide))
        refine jB<|kx [(2,(jS 2))] [] (zM<|zZ) ?_
        refine jE ⟨_,(.tmp (d:=(.val (.int .i64 (2)))) rfl .nil),?_⟩
        show jZ.val (.int .i64 _)=_
        unfold xG;simp [*]
       ·replace h7:=ne_of_beq_false h7
        refine kx [(10,(vb (o == 5)))] [] (zE xR<|zM<|zZ) ?_
        refine jG (b:=(o == 5)) rfl (fun h8=>?_) (fun h8=>?_)
        ·replace h8:=eq_of_beq h8
         refine jB<|kx [(2,(jS 2))] [] (zM<|zZ) ?_
         refine jE ⟨_,(.tmp (d:=(.val (.int .i64 (2)))) rfl .nil),?_⟩
         show jZ.val (.int .i64 _)=_
         unfold xG;simp [*]
        ·replace h8:=ne_of_beq_false h8
         refine jC<|jB<|kx [(2,(vi (-1)))] [] (zM<|zZ) ?_
         refine jE ⟨_,(.tmp (d:=(.val (.int .i64 (-1)))) rfl .nil),?_⟩
         show jZ.val (.int .i64 _)=_
         unfold xG;simp [*]
theorem cY{L:List JV}{N n a:Nat}(h:∀ x∈L,nZ N n x)(ha:a<L.length):nZ N n (L.getD a jz):=by
 rw[List.getD_eq_getElem?_getD,List.getElem?_eq_getElem ha];exact h _ (List.getElem_mem _)
def zL(N:Nat)(t:List qB):Prop:=∀ x∈t,hP x.n (qS x.n) N
theorem tn_get{N:Nat}{t:List qB}(h:zL N t){k:Nat}(hk:k<t.length):hP (t.getD k tz).n (qS (t.getD k tz).n) N:=by
 rw[List.getD_eq_getElem?_getD,List.getElem?_eq_getElem hk];exact h _ (List.getElem_mem _)
theorem tn_up{M N:Nat}{t:List qB}(h:zL M t)(hm:M<=N:=by decide):zL N t:=fun x hx=>jM (h x hx) hm
theorem j_unset(x:jR)(p:Rat)(hx:hP x p 1048576):jO Tryz.prog 210 [(jJ x)] (.val (.bool ((unsB x)))):=by
 refine qY Tryz.func210 ?_
 refine jB<|kx [(1,(.ref 0 0))] [(0,some (bx (jJ x)))] (zN (uU 0)<|zM<|zZ) ?_
 refine jB<|kx [(2,(vb (((!x.num.neg&&!x.den.neg)&&(((x.num.gs.length:Nat):Int) == 0))&&(((x.den.gs.length:Nat):Int) == 0))))] [] ?_ ?_
 ·refine zE (kV zB)<|zE (kV vZ)<|zR (uE iP)<|zE gD<|zE (oV (vb (!x.num.neg)) (qC (by kernel_rfl)))<|?_
  rcases hb1:(!x.num.neg) with _ | _
  ·exact zK<|zK<|zK<|zK<|zE xQ<|zM<|zK<|zK<|zK<|zK<|zK<|zE xQ<|zM<|zK<|zK<|zK<|zK<|zK<|zE xQ<|zM<|zZ
  ·refine zE (kV xI)<|zE (kV vZ)<|zR (uE iP)<|zE gD<|zE fR<|zE (oV (vb (true&&!x.den.neg)) (qC (by kernel_rfl)))<|?_
   rcases hb2:(true&&!x.den.neg) with _ | _
   ·exact zK<|zK<|zK<|zK<|zK<|zE xQ<|zM<|zK<|zK<|zK<|zK<|zK<|zE xQ<|zM<|zZ
   ·refine zE (kV zB)<|zE (kV vR)<|zR (uE yD)<|zE (vP kO)<|zE xR<|zE fR<|zE (oV (vb (true&&(((x.num.gs.length:Nat):Int) == 0))) (qC (by kernel_rfl)))<|?_
    rcases hb3:(true&&(((x.num.gs.length:Nat):Int) == 0)) with _ | _
    ·exact zK<|zK<|zK<|zK<|zK<|zE xQ<|zM<|zZ
    ·exact zE (kV xI)<|zE (kV vR)<|zR (uE yD)<|zE (vP kO)<|zE xR<|zE fR<|zM<|zZ
 refine jE ⟨_,(.tmp (d:=(.val (.bool ((((!x.num.neg&&!x.den.neg)&&(((x.num.gs.length:Nat):Int) == 0))&&(((x.den.gs.length:Nat):Int) == 0)))))) rfl .nil),?_⟩
 rfl
end Go.Proofs.YtnajallgoaiahaaGreatDoor
