/- Part 21 of a proof: rules, plain facts, and functions walked. -/
import Derived.Test.YtnajallgoaiahaaGreatDoorM12
set_option linter.all false
namespace Go.Fid
open Go.RowKit (Below)
section
variable {P:Program} {o:Oper} {S:Nat->SV}
theorem e_mkf{f:FuncId}{ks:List Nat}{caps:List Operand}(ho:o.op=.makeFunc (.func f) #[] caps.toArray)(hx:caps.map (ev S)=ks.map (fun k=>.ref k 0)):vI P o S [] (.clo f ks) :=
 vI.same fun a w D β hop _=>by
  refine ⟨.func (.func f) #[] (caps.map a.eval).toArray,?_,caps.map a.eval,rfl,?_,fun i k hk=>?_⟩
  ·simp only[execOp,ho,Instr.makeFunc,Array.map_empty,List.map_toArray,Sem.run_bind,Sem.run_pure,Result.andThen_ok]
   rfl
  ·simpa using congrArg List.length hx
  ·have hi:=congrArg (fun l:List SV=>l[i]?) hx
   simp only[List.getElem?_map,hk,Option.map_some,Option.map_eq_some_iff] at hi
   obtain ⟨c,hc,e⟩:=hi
   have hm:=hop c (by simp [ho,Op.operands,List.mem_of_getElem? hc])
   rw[e] at hm
   obtain ⟨b,h1,h2⟩:=hm
   exact ⟨b,h1,by rw[List.getElem?_map,hc,Option.map_some,h2]⟩
theorem e_clc{y:Operand}{xs:List Operand}{ats:Array TypeId}{f:FuncId}{ds:List jZ}{r:jZ}{ks:List Nat}{css:List (List jZ)}{E:TypeId}{rd:List (Nat × List SV)}
  (hf:jO P f (ds++css.map (fun cs=>.cptr E cs 0)) r) (ho:o.op=.call { callee:=.value y,args:=xs.toArray,argTypes:=ats }) (hy:ev S y=.clo f ks) (hx:xs.map (ev S)=ds.map .d)
  (hrk:rd=ks.zip (css.map (fun cs=>cs.map SV.d))) (uF:css.length=ks.length) (ha:gA E r):vI P o S rd (.d r) :=
 fun a w D β Q hop hrd hD=>by
  have hyv:=hop y (by simp [ho,Op.operands,Call.operands])
  rw[hy] at hyv
  obtain ⟨vs,hv1,hv2,hv3⟩:=hyv
  have hl:xs.length=ds.length:=by simpa using congrArg List.length hx
  have hargs0:Args w D (xs.map a.eval) ds:=by
   refine ⟨by simpa using hl,fun i v d hv hd=>?_⟩
   rw[List.getElem?_map,Option.map_eq_some_iff] at hv
   obtain ⟨x,hxi,rfl⟩:=hv
   have hm:=hop x (by simp [ho,Op.operands,Call.operands,List.mem_of_getElem? hxi])
   have hi:=congrArg (fun l:List SV=>l[i]?) hx
   simp only[List.getElem?_map,hxi,hd,Option.map_some,Option.some.injEq] at hi
   rw[hi] at hm
   exact hm
  have hrun:(execOp a.eval o).run P w=.ok (.enter f (xs.map a.eval++vs).toArray) w:=by
   simp only[execOp,ho,resolve,Deferred.ofValue,hv1,Sem.run_bind,Sem.run_pure,Result.andThen_ok,invoke,Array.empty_append]
   rw[xF hf.may]
   simp
  -- the private variables are published for the time of the call
  let X:TypeId->Nat->Nat->Prop:=fun t g _=>t=E/\∃ k∈ks,β k=some g
  have hblk:∀ (i:Nat) k cs,ks[i]?=some k->css[i]?=some cs->vH w D β k (cs.map SV.d):=fun i k cs hk hc=>by
   refine hrd (k,cs.map SV.d) ?_
   rw[hrk]
   refine List.mem_of_getElem? (i:=i) ?_
   rw[List.getElem?_zip_eq_some]
   exact ⟨hk,by rw[List.getElem?_map,hc];rfl⟩
  have hcap:∀ (i:Nat) k cs,ks[i]?=some k->css[i]?=some cs->∃ b us T',β k=some b/\vs[i]?=some (.pointer (some ⟨b,0,none⟩))/\w.heap[b]?=some (.cells us T' (0,0)) /\
    (∀ (j:Nat) x,(cs.map SV.d)[j]?=some x->∃ u,us[j]?=some u/\u.oneCell'=true/\qH w D β u x)/\∀ t o,¬ D t b o:=fun i k cs hk hc=>by
   obtain ⟨b,h1,h2⟩:=hv3 i k hk
   rcases hblk i k cs hk hc with ⟨g1,_⟩ | ⟨b',us,T',g1,g2,g3,g4,g5⟩
   ·rw[h1] at g1;cases g1
   ·obtain rfl:b=b':=by rw[h1] at g1;injection g1
    exact ⟨b,us,T',h1,h2,g2,g4,g5⟩
  have hXb:∀ t g i,X t g i->(∀ t' i',¬ D t' g i')/\g<w.heap.size:=fun t g i ⟨_,k,hk,hb⟩=>by
   obtain ⟨i,hi⟩:=List.getElem?_of_mem hk
   have hlt:i<css.length:=by rw[uF];exact (List.getElem?_eq_some_iff.1 hi).1
   obtain ⟨b,us,T',h1,_,h3,_,h5⟩:=hcap i k _ hi (List.getElem?_eq_getElem hlt)
   obtain rfl:g=b:=by rw[hb] at h1;injection h1
   exact ⟨fun t' i'=>h5 t' i',uZ h3⟩
  have hD':DOk (fun t g i=>D t g i\/X t g i) w:=fun t g i hd=>by
   rcases hd with hd | hd
   ·exact hD _ _ _ hd
   ·exact (hXb t g i hd).2
  have hmono:∀ t' g i,D t' g i->(D t' g i\/X t' g i)/\w.cell? ⟨g,i,none⟩=w.cell? ⟨g,i,none⟩:=fun t' g i hd=>⟨.inl hd,rfl⟩
  have hargs:Args w (fun t g i=>D t g i\/X t g i) (xs.map a.eval++vs) (ds++css.map (fun cs=>.cptr E cs 0)):=by
   refine ⟨by simp [hl,hv2,uF],fun i v d hv hd=>?_⟩
   by_cases hi:i<xs.length
   ·rw[List.getElem?_append_left (by simpa using hi)] at hv
    rw[List.getElem?_append_left (by omega)] at hd
    exact vL.mono hmono (hargs0.2 i v d hv hd)
   ·rw[List.getElem?_append_right (by simpa using hi),List.length_map] at hv
    rw[List.getElem?_append_right (by omega),<- hl] at hd
    rw[List.getElem?_map,Option.map_eq_some_iff] at hd
    obtain ⟨cs,hcs,rfl⟩:=hd
    have hlt:i-xs.length<ks.length:=by rw[<- uF];exact (List.getElem?_eq_some_iff.1 hcs).1
    obtain ⟨b,us,T',h1,h2,h3,h4,h5⟩:=hcap _ _ cs (List.getElem?_eq_getElem hlt) hcs
    rw[h2] at hv
    injection hv with hv
    subst hv
    have hcell:∀ j,w.cell? ⟨b,j,none⟩=us[j]?:=fun j=>cell_of_row w b j us T' (0,0) h3
    have hj:∀ j,j<cs.length->∃ u,us[j]?=some u/\u.oneCell'=true/\vL w D u (cs[j]?.getD (.tup [])):=fun j hj=>by
     obtain ⟨u,q1,q2,q3⟩:=h4 j (.d cs[j]) (by rw[List.getElem?_map,List.getElem?_eq_getElem hj];rfl)
     exact ⟨u,q1,q2,by rw[List.getElem?_eq_getElem hj];exact q3⟩
    refine vL.cptr (off:=0) b 0 (fun j=>us.getD j undef) (fun j _=>.inr ⟨rfl,_,List.getElem_mem hlt,h1⟩) (fun j hj'=>?_) (fun j hj'=>?_) (fun j d hd=>?_)
    ·obtain ⟨u,q1,_,_⟩:=hj j hj'
     rw[Nat.zero_add,hcell,Array.getD_eq_getD_getElem?,q1];rfl
    ·obtain ⟨u,q1,q2,_⟩:=hj j hj'
     rw[Array.getD_eq_getD_getElem?,q1];exact q2
    ·obtain ⟨u,q1,q2,q3⟩:=hj j (List.getElem?_eq_some_iff.1 hd).1
     rw[Array.getD_eq_getD_getElem?,q1]
     rw[hd] at q3
     exact vL.mono hmono q3
  refine mH hrun ((hf.run w _ _ hD' hargs).mono fun e w' h=>?_)
  obtain ⟨v,D2,he,h1,h2,h3⟩:=h
  refine ⟨v,he,v,fun t g i=>D2 t g i/\¬ X t g i,rfl,h1,⟨fun t g i hd=>⟨h2.up _ _ _ (.inl hd),fun hx'=>(hXb t g i hx').1 t i hd⟩,fun t g i hd=>?_⟩,?_⟩
  ·rcases h2.new t g i hd.1 with h | h
   ·rcases h with h | h
    ·exact .inl h
    ·exact absurd h hd.2
   ·exact .inr h
  ·exact ha.rep (fun t g i hne hd=>⟨hd,fun hx'=>hne hx'.1⟩) h3
theorem oMf{f:FuncId}{caps:List Operand}(ks:List Nat)(ho:o.op=.makeFunc (.func f) #[] caps.toArray:=by exact rfl)(hx:caps.map (ev S)=ks.map (fun k=>.ref k 0):=by kernel_rfl):vI P o S [] (.clo f ks):=e_mkf ho hx
end
def RKs(P:Program)(o:Oper)(S:SL)(B:BS)(ks:List Nat)(x:SV):Prop:=∃ rd:List (Nat × List SV),rd.map (·.1)=ks/\vI P o (kK S) rd x/\∀ p∈rd,kB B p.1=some p.2
theorem oCc{P:Program}{o:Oper}{S:SL}{B:BS}{y:Operand}{xs:List Operand}{ats:Array TypeId}{f:FuncId}{ds:List jZ}{r:jZ}(ks:List Nat)(css:List (List jZ))
  (hf:jO P f (ds++css.map (fun cs=>.cptr 1000000 cs 0)) r) (ha:gA 1000000 r) (ho:o.op=.call { callee:=.value y,args:=xs.toArray,argTypes:=ats }:=by exact rfl) (hy:ev (kK S) y=.clo f ks:=by kernel_rfl) (hx:xs.map (ev (kK S))=ds.map .d:=by kernel_rfl)
  (uF:Nat.beq css.length ks.length=true:=by kernel_rfl) (hb:ks.map (fun k=>kB B k)=css.map (fun cs=>some (cs.map SV.d)):=by kernel_rfl):RKs P o S B ks (.d r):=by
 have uF:=Nat.eq_of_beq_eq_true uF
 refine ⟨ks.zip (css.map (fun cs=>cs.map SV.d)),?_,e_clc hf ho hy hx rfl uF ha,fun p hp=>?_⟩
 ·rw[List.map_fst_zip];simp [uF]
 ·obtain ⟨i,hi⟩:=List.getElem?_of_mem hp
  rw[List.getElem?_zip_eq_some] at hi
  have h1:=congrArg (fun l:List (Option (List SV))=>l[i]?) hb
  simp only[List.getElem?_map,hi.1,Option.map_some] at h1
  have h2:=hi.2
  rw[List.getElem?_map,Option.map_eq_some_iff] at h2
  obtain ⟨cs,hc,e⟩:=h2
  rw[hc] at h1
  simp only[Option.map_some,Option.some.injEq] at h1
  rw[h1,e]
section
variable {P:Program} {n:Fr} {ops:Array Oper} {K:SL->BS->Prop} {S:SL} {B:BS} {l:List Oper} {o:Oper} {news:List Nat} {acc0:List (List Nat × List Nat)}
theorem zC{ks:List Nat}{x:SV}(h:RKs P o S B ks x)(r:SK P n ops K ((dO o,x)::S) B l)(g:goK n ops S o=true:=by kernel_rfl):SK P n ops K S B (o::l):=by
 obtain ⟨st1,r1,r2⟩:=r
 obtain ⟨rd,_,h,hbk⟩:=h
 obtain ⟨hd,hg,hb⟩:=yP g
 have hs:=Step.e (P:=P) (n:=n) (ops:=ops) (st:=⟨S,B⟩) (o:=o) h hg (by rw[hd];exact hb) hbk
 rw[hd] at hs
 exact ⟨st1,.cons hs r1,r2⟩
theorem wC{ks:List Nat}{x:SV}(h:RKs P o S B ks x)(r:DK P n ops K news (acc0++[(ks,[])]) ((dO o,x)::S) B l)(g:goK n ops S o=true:=by kernel_rfl)(hn:clearR ops S o news x=true:=by kernel_rfl):DK P n ops K news acc0 S B (o::l):=by
 obtain ⟨st1,acc,r1,r0,r2⟩:=r
 obtain ⟨rd,hk,h,hbk⟩:=h
 obtain ⟨hd,hg,hb⟩:=yP g
 have hs:=mQ.e (P:=P) (n:=n) (ops:=ops) (news:=news) (st:=⟨S,B⟩) (o:=o) h hg (by rw[hd];exact hb) hbk hn
 rw[hd,hk] at hs
 exact ⟨st1,(ks,[])::acc,.cons hs r1,by simpa using r0,r2⟩
end
inductive CArgs (bl:List (Nat × List jZ)):List Nat->List (List jZ)->Prop
 |nil:CArgs bl [] []
 |cons {k:Nat} {cs:List jZ} {ks:List Nat} {css:List (List jZ)} (hk:(k,cs)∈bl) (h:CArgs bl ks css):CArgs bl (k::ks) (cs::css)
theorem CArgs.len{bl:List (Nat × List jZ)}{ks:List Nat}{css:List (List jZ)}(h:CArgs bl ks css):ks.length=css.length:=by
 induction h with
 |nil=>rfl
 |cons hk h ih=>simp [ih]
theorem CArgs.get{bl:List (Nat × List jZ)}{ks:List Nat}{css:List (List jZ)}(h:CArgs bl ks css):∀ (i:Nat) k cs,ks[i]?=some k->css[i]?=some cs->(k,cs)∈bl:=by
 induction h with
 |nil=>intro i k cs h;simp at h
 |cons hk h ih=>
  intro i k cs h1 h2
  rcases i with _ | i
  ·simp at h1 h2;subst h1;subst h2;exact hk
  ·exact ih i k cs (by simpa using h1) (by simpa using h2)
inductive aK (bl:List (Nat × List jZ)) (E:TypeId):List SV->List jZ->Prop
 |nil:aK bl E [] []
 |d {x:jZ} {zs:List SV} {ds:List jZ} (h:aK bl E zs ds):aK bl E (.d x::zs) (x::ds)
 |v {k q n s:Nat} {cs es:List jZ} {zs:List SV} {ds:List jZ} (hk:(k,cs)∈bl) (hes:∀ e∈es,e.cells.length=s) (hl:es.length=n) (hc:(cs.drop q).take (n*s)=qI es) (h:aK bl E zs ds):aK bl E (.view k q n::zs) (.sl E s es::ds)
 |p {k o:Nat} {cs:List jZ} {zs:List SV} {ds:List jZ} (hk:(k,cs)∈bl) (h:aK bl E zs ds):aK bl E (.ref k o::zs) (.cptr E cs o::ds)
 |c {f:FuncId} {ks:List Nat} {css:List (List jZ)} {zs:List SV} {ds:List jZ} (hk:CArgs bl ks css) (h:aK bl E zs ds):aK bl E (.clo f ks::zs) (.clo f (css.map fun cs=>.cptr E cs 0)::ds)
theorem aK.len{bl:List (Nat × List jZ)}{E:TypeId}{zs:List SV}{ds:List jZ}(h:aK bl E zs ds):zs.length=ds.length:=by
 induction h with
 |nil=>rfl
 |d h ih=>simp [ih]
 |v hk hes hl hc h ih=>simp [ih]
 |p hk h ih=>simp [ih]
 |c hk h ih=>simp [ih]
theorem aK.rep{bl:List (Nat × List jZ)}{E:TypeId}{zs:List SV}{ds:List jZ}(h:aK bl E zs ds){w:World}{D D':qU}{β:qM}(h1:∀ v x,vL w D v x->vL w D' v x)
  (h2:∀ (k q n s:Nat) (cs es:List jZ) (v:Value),(k,cs)∈bl->(∀ e∈es,e.cells.length=s)->es.length=n->(cs.drop q).take (n*s)=qI es->qH w D β v (.view k q n)->vL w D' v (.sl E s es))
  (h3:∀ (k o:Nat) (cs:List jZ) (v:Value),(k,cs)∈bl->qH w D β v (.ref k o)->vL w D' v (.cptr E cs o)) :
  ∀ (vs:List Value),vs.length=zs.length->(∀ (i:Nat) v x,vs[i]?=some v->zs[i]?=some x->qH w D β v x)->∀ (i:Nat) v d,vs[i]?=some v->ds[i]?=some d->vL w D' v d:=by
 induction h with
 |nil=>intro vs _ _ i v d _ hd;simp at hd
 |d h ih=>
  intro vs hl hr i v d' hv hd
  rcases vs with _ | ⟨v0,vs⟩
  ·simp at hl
  ·rcases i with _ | i
   ·simp at hv hd;subst hv;subst hd;exact h1 _ _ (hr 0 _ _ rfl rfl)
   ·exact ih vs (by simpa using hl) (fun i v x h3 h4=>hr (i+1) v x (by simpa using h3) (by simpa using h4)) i v d' (by simpa using hv) (by simpa using hd)
 |v hk hes hl' hc h ih=>
  intro vs hl hr i v d' hv hd
  rcases vs with _ | ⟨v0,vs⟩
  ·simp at hl
  ·rcases i with _ | i
   ·simp at hv hd;subst hv;subst hd;exact h2 _ _ _ _ _ _ _ hk hes hl' hc (hr 0 _ _ rfl rfl)
   ·exact ih vs (by simpa using hl) (fun i v x h3 h4=>hr (i+1) v x (by simpa using h3) (by simpa using h4)) i v d' (by simpa using hv) (by simpa using hd)
 |p hk h ih=>
  intro vs hl hr i v d' hv hd
  rcases vs with _ | ⟨v0,vs⟩
  ·simp at hl
  ·rcases i with _ | i
   ·simp at hv hd;subst hv;subst hd;exact h3 _ _ _ _ hk (hr 0 _ _ rfl rfl)
   ·exact ih vs (by simpa using hl) (fun i v x h3 h4=>hr (i+1) v x (by simpa using h3) (by simpa using h4)) i v d' (by simpa using hv) (by simpa using hd)
 |c hk h ih=>
  intro vs hl hr i v d' hv hd
  rcases vs with _ | ⟨v0,vs⟩
  ·simp at hl
  ·rcases i with _ | i
   ·simp at hv hd;subst hv;subst hd
    obtain ⟨us,e1,e2,e3⟩:=hr 0 _ _ rfl rfl
    rw[e1]
    refine .clo us (by rw[e2,hk.len,List.length_map]) fun j u d hu hd=>?_
    rw[List.getElem?_map,Option.map_eq_some_iff] at hd
    obtain ⟨cs,hcs,rfl⟩:=hd
    have hlt:j<_:=(List.getElem?_eq_some_iff.1 hcs).1
    rw[<- hk.len] at hlt
    obtain ⟨b,g1,g2⟩:=e3 j _ (List.getElem?_eq_getElem hlt)
    rw[hu] at g2
    injection g2 with g2
    exact h3 _ 0 cs u (hk.get j _ cs (List.getElem?_eq_getElem hlt) hcs) ⟨b,g1,g2⟩
   ·exact ih vs (by simpa using hl) (fun i v x h3 h4=>hr (i+1) v x (by simpa using h3) (by simpa using h4)) i v d' (by simpa using hv) (by simpa using hd)
theorem blk_pub{w:World}{D:qU}{β:qM}{bl:List (Nat × List jZ)}{E:TypeId}(hD:DOk D w)(hbl:∀ p∈bl,vH w D β p.1 (p.2.map SV.d)) :
  ∃ X:TypeId->Nat->Nat->Prop,DOk (fun t g i=>D t g i\/X t g i) w/\(∀ t g i,X t g i->t=E/\∀ t' i',¬ D t' g i') /\
   (∀ (k q n s:Nat) (cs es:List jZ) (v:Value),(k,cs)∈bl->(∀ e∈es,e.cells.length=s)->es.length=n->(cs.drop q).take (n*s)=qI es->qH w D β v (.view k q n)->vL w (fun t g i=>D t g i\/X t g i) v (.sl E s es)) /\
   (∀ (k o:Nat) (cs:List jZ) (v:Value),(k,cs)∈bl->qH w D β v (.ref k o)->vL w (fun t g i=>D t g i\/X t g i) v (.cptr E cs o)):=by
 let X:TypeId->Nat->Nat->Prop:=fun t g _=>t=E/\∃ p∈bl,β p.1=some g
 have hcap:∀ p∈bl,∀ b,β p.1=some b->∃ us T',w.heap[b]?=some (.cells us T' (0,0))/\(∀ (j:Nat) x,(p.2.map SV.d)[j]?=some x->∃ u,us[j]?=some u/\u.oneCell'=true/\qH w D β u x)/\∀ t o,¬ D t b o:=fun p hp b hb=>by
  rcases hbl p hp with ⟨g1,_⟩ | ⟨b',us,T',g1,g2,g3,g4,g5⟩
  ·rw[hb] at g1;cases g1
  ·obtain rfl:b=b':=by rw[hb] at g1;injection g1
   exact ⟨us,T',g2,g4,g5⟩
 have hmono:∀ t' g i,D t' g i->(D t' g i\/X t' g i)/\w.cell? ⟨g,i,none⟩=w.cell? ⟨g,i,none⟩:=fun t' g i hd=>⟨.inl hd,rfl⟩
 refine ⟨X,fun t g i hd=>?_,fun t g i ⟨h1,p,hp,hb⟩=>?_,?_,?_⟩
 ·rcases hd with hd | ⟨_,p,hp,hb⟩
  ·exact hD _ _ _ hd
  ·obtain ⟨us,T',g2,_,_⟩:=hcap p hp g hb;exact uZ g2
 ·obtain ⟨us,T',_,_,g5⟩:=hcap p hp g hb
  exact ⟨h1,fun t' i'=>g5 t' i'⟩
 ·intro k q n s cs es v hk hes hl hc hv
  obtain ⟨b,cap,h1,h2,h5,h6⟩:=hv
  obtain ⟨us,T',g2,g4,g5⟩:=hcap (k,cs) hk b h1
  rw[h2]
  have hfl:=vY hes
  have hcell:∀ i,w.cell? ⟨b,i,none⟩=us[i]?:=fun i=>cell_of_row w b i us T' (0,0) g2
  have key:∀ (i:Nat) d,(qI es)[i]?=some d->∃ u,us[q+i]?=some u/\u.oneCell'=true/\vL w D u d:=fun i d hd=>by
   have hi:i<n*s:=by
    have:=(List.getElem?_eq_some_iff.1 hd).1
    rw[hfl,hl] at this;exact this
   have e1:cs[q+i]?=some d:=by
    rw[<- hc,List.getElem?_take_of_lt hi,List.getElem?_drop] at hd
    exact hd
   exact g4 _ (.d d) (by rw[List.getElem?_map,e1];rfl)
  refine vL.sl b q (fun i=>us.getD (q+i) undef) hl.symm h5 h6 hes (fun _=>rfl) (fun i hi=>.inr ⟨rfl,_,hk,h1⟩) (fun i hi=>?_) (fun i hi=>?_) (fun i d hd=>?_)
  ·obtain ⟨x,q1,q2,q3⟩:=key i _ (List.getElem?_eq_getElem hi)
   rw[hcell,Array.getD_eq_getD_getElem?,q1];rfl
  ·obtain ⟨x,q1,q2,q3⟩:=key i _ (List.getElem?_eq_getElem hi)
   rw[Array.getD_eq_getD_getElem?,q1];exact q2
  ·obtain ⟨x,q1,q2,q3⟩:=key i d hd
   rw[Array.getD_eq_getD_getElem?,q1]
   exact vL.mono hmono q3
 ·intro k o cs v hk hv
  obtain ⟨b,h1,h2⟩:=hv
  obtain ⟨us,T',g2,g4,g5⟩:=hcap (k,cs) hk b h1
  rw[h2]
  have hcell:∀ i,w.cell? ⟨b,i,none⟩=us[i]?:=fun i=>cell_of_row w b i us T' (0,0) g2
  have key:∀ (i:Nat) d,cs[i]?=some d->∃ u,us[i]?=some u/\u.oneCell'=true/\vL w D u d:=fun i d hd=>g4 _ (.d d) (by rw[List.getElem?_map,hd];rfl)
  have hp:=vL.cptr (w:=w) (D:=fun t g i=>D t g i\/X t g i) (t:=E) (cs:=cs) (off:=o) b 0 (fun i=>us.getD i undef) (fun i hi=>.inr ⟨rfl,_,hk,h1⟩) (fun i hi=>by
   obtain ⟨x,q1,q2,q3⟩:=key i _ (List.getElem?_eq_getElem hi)
   rw[Nat.zero_add,hcell,Array.getD_eq_getD_getElem?,q1];rfl) (fun i hi=>by
   obtain ⟨x,q1,q2,q3⟩:=key i _ (List.getElem?_eq_getElem hi)
   rw[Array.getD_eq_getD_getElem?,q1];exact q2) (fun i d hd=>by
   obtain ⟨x,q1,q2,q3⟩:=key i d hd
   rw[Array.getD_eq_getD_getElem?,q1]
   exact vL.mono hmono q3)
  rw[Nat.zero_add] at hp
  exact hp
theorem e_clg{P:Program}{o:Oper}{S:Nat->SV}{y:Operand}{xs:List Operand}{ats:Array TypeId}{f:FuncId}{ds:List jZ}{r:jZ}{zs:List SV}{E:TypeId}{bl:List (Nat × List jZ)}(hf:jO P f ds r)(ho:o.op=.call { callee:=.value y,args:=xs.toArray,argTypes:=ats })(hy:ev S y=.d (.val (.func (.func f) #[] #[])))
  (hx:xs.map (ev S)=zs) (hz:aK bl E zs ds) (ha:gA E r):vI P o S (bl.map fun p=>(p.1,p.2.map SV.d)) (.d r) :=
 fun a w D β Q hop hrd hD=>by
  have hyv:=hop y (by simp [ho,Op.operands,Call.operands])
  rw[hy] at hyv
  have hyv':=vW hyv
  have hrep:∀ (i:Nat) v x,(xs.map a.eval)[i]?=some v->zs[i]?=some x->qH w D β v x:=fun i v x hv hz'=>by
   rw[List.getElem?_map,Option.map_eq_some_iff] at hv
   obtain ⟨p,hqi,rfl⟩:=hv
   have hm:=hop p (by simp [ho,Op.operands,Call.operands,List.mem_of_getElem? hqi])
   have hi:=congrArg (fun l:List SV=>l[i]?) hx
   simp only[List.getElem?_map,hqi,hz',Option.map_some,Option.some.injEq] at hi
   rw[hi] at hm
   exact hm
  have uF:(xs.map a.eval).length=zs.length:=by rw[<- hx];simp
  have hrun:(execOp a.eval o).run P w=.ok (.enter f (xs.map a.eval).toArray) w:=by
   simp only[execOp,ho,resolve,Deferred.ofValue,hyv',Sem.run_bind,Sem.run_pure,Result.andThen_ok,invoke,Array.empty_append,Array.append_empty]
   rw[xF hf.may]
   simp
  obtain ⟨X,hD',hXp,hv,hp⟩:=blk_pub (E:=E) (bl:=bl) hD (fun p hp=>hrd (p.1,p.2.map SV.d) (List.mem_map_of_mem (f:=fun p:Nat × List jZ=>(p.1,p.2.map SV.d)) hp))
  have hmono:∀ t' g i,D t' g i->(D t' g i\/X t' g i)/\w.cell? ⟨g,i,none⟩=w.cell? ⟨g,i,none⟩:=fun t' g i hd=>⟨.inl hd,rfl⟩
  have hargs:Args w (fun t g i=>D t g i\/X t g i) (xs.map a.eval) ds:=⟨uF.trans hz.len,hz.rep (fun v x h=>vL.mono hmono h) hv hp _ uF hrep⟩
  refine mH hrun ((hf.run w _ _ hD' hargs).mono fun e w' h=>?_)
  obtain ⟨v,D2,he,h1,h2,h3⟩:=h
  refine ⟨v,he,v,fun t g i=>D2 t g i/\¬ X t g i,rfl,h1,⟨fun t g i hd=>⟨h2.up _ _ _ (.inl hd),fun hx'=>(hXp t g i hx').2 t i hd⟩,fun t g i hd=>?_⟩,?_⟩
  ·rcases h2.new t g i hd.1 with h | h
   ·rcases h with h | h
    ·exact .inl h
    ·exact absurd h hd.2
   ·exact .inr h
  ·exact ha.rep (fun t g i hne hd=>⟨hd,fun hx'=>hne (hXp t g i hx').1⟩) h3
theorem oCg{P:Program}{o:Oper}{S:SL}{B:BS}{y:Operand}{xs:List Operand}{ats:Array TypeId}{f:FuncId}{ds:List jZ}{r:jZ}(bl:List (Nat × List jZ))(zs:List SV)(hf:jO P f ds r)(hz:aK bl 1000000 zs ds)(ha:gA 1000000 r)
  (ho:o.op=.call { callee:=.value y,args:=xs.toArray,argTypes:=ats }:=by exact rfl) (hy:ev (kK S) y=.d (.val (.func (.func f) #[] #[])):=by kernel_rfl) (hx:xs.map (ev (kK S))=zs:=by kernel_rfl)
  (hb:bl.map (fun p=>kB B p.1)=bl.map (fun p=>some (p.2.map SV.d)):=by kernel_rfl) {ks:List Nat} (hks:bl.map (·.1)=ks:=by exact rfl):RKs P o S B ks (.d r):=by
 refine ⟨bl.map fun p=>(p.1,p.2.map SV.d),by rw[List.map_map];exact hks,e_clg hf ho hy hx hz ha,fun p hp=>?_⟩
 obtain ⟨q,hq,rfl⟩:=List.mem_map.1 hp
 exact List.map_inj_left.1 hb q hq
variable {P:Program}
end Go.Fid
namespace Go.Fid
variable {P:Program} {o:Oper} {S:Nat->SV}
theorem e_nckd{x:Operand}{t:TypeId}{q:Nat}{cs:List jZ}(ho:o.op=.nilCheck x)(hx:ev S x=.d (.cptr t cs q)):vI P o S [] (.d (.cptr t cs q)) :=
 vI.same fun a' w D β hop _=>by
  have hp:=hop x (by simp [ho,Op.operands])
  rw[hx] at hp
  generalize hvv:a'.eval x=v at hp
  cases hp with
  |cptr g p u hD hu h1 hr=>
   exact ⟨.pointer (some ⟨g,p+q,none⟩),by simp [execOp,ho,hvv],vL.cptr g p u hD hu h1 hr⟩
theorem oNd{x:Operand}{t:TypeId}{q:Nat}{cs:List jZ}(ho:o.op=.nilCheck x:=by exact rfl)(hx:ev S x=.d (.cptr t cs q):=by exact rfl):vI P o S [] (.d (.cptr t cs q)):=e_nckd ho hx
end Go.Fid
namespace Go.Fid
variable {P:Program} {o:Oper} {S:Nat->SV}
theorem e_cld{y:Operand}{xs:List Operand}{ats:Array TypeId}{f:FuncId}{ds caps:List jZ}{r:jZ}(hf:jO P f (ds++caps) r)(ho:o.op=.call { callee:=.value y,args:=xs.toArray,argTypes:=ats })(hy:ev S y=.d (.clo f caps))(hx:xs.map (ev S)=ds.map .d):vI P o S [] (.d r) :=
 fun a w D β Q hop hrd hD=>by
  have hyv:=hop y (by simp [ho,Op.operands,Call.operands])
  rw[hy] at hyv
  generalize hvv:a.eval y=v at hyv
  cases hyv with
  |clo vs hl hr=>
   have hlx:xs.length=ds.length:=by simpa using congrArg List.length hx
   have hargs:Args w D (xs.map a.eval++vs) (ds++caps):=by
    refine ⟨by simp [hlx,hl],fun i v d hv hd=>?_⟩
    by_cases hi:i<xs.length
    ·rw[List.getElem?_append_left (by simpa using hi),List.getElem?_map,Option.map_eq_some_iff] at hv
     rw[List.getElem?_append_left (by omega)] at hd
     obtain ⟨x,hxi,rfl⟩:=hv
     have hm:=hop x (by simp [ho,Op.operands,Call.operands,List.mem_of_getElem? hxi])
     have hi:=congrArg (fun l:List SV=>l[i]?) hx
     simp only[List.getElem?_map,hxi,hd,Option.map_some,Option.some.injEq] at hi
     rw[hi] at hm
     exact hm
    ·rw[List.getElem?_append_right (by simpa using hi),List.length_map] at hv
     rw[List.getElem?_append_right (by omega),<- hlx] at hd
     exact hr _ _ _ hv hd
   have hrun:(execOp a.eval o).run P w=.ok (.enter f (xs.map a.eval++vs).toArray) w:=by
    simp only[execOp,ho,resolve,Deferred.ofValue,hvv,Sem.run_bind,Sem.run_pure,Result.andThen_ok,invoke,Array.empty_append]
    rw[xF hf.may]
    simp
   refine mH hrun ((hf.run w _ _ hD hargs).mono fun e w' h=>?_)
   obtain ⟨v,D2,he,h1,h2,h3⟩:=h
   exact ⟨v,he,v,D2,rfl,h1,h2,h3⟩
theorem oCd{S:SL}{y:Operand}{xs:List Operand}{ats:Array TypeId}{f:FuncId}{ds caps:List jZ}{r:jZ}(hf:jO P f (ds++caps) r)(ho:o.op=.call { callee:=.value y,args:=xs.toArray,argTypes:=ats }:=by exact rfl)
  (hy:ev (kK S) y=.d (.clo f caps):=by exact rfl) (hx:xs.map (ev (kK S))=ds.map .d:=by kernel_rfl):vI P o (kK S) [] (.d r):=e_cld hf ho hy hx
theorem e_shr{T T':TypeId}{x y:Operand}{k k':IntKind}{m:Int}{n:Nat}(r:Int)(ho:o.op=.binOp .shr T x y T':=by exact rfl)(hx:ev S x=.d (.val (.int k m)):=by exact rfl)(hy:ev S y=.d (.val (.int k' ((n:Nat):Int))):=by exact rfl)
  (hr:m.fdiv (2 ^ (min n k.bits))=r:=by kernel_rfl):vI P o S [] (.d (.val (.int k r))) :=
 aR ho hx hy (by simp [eqGuard]) fun w=>by
  have h0:¬ ((n:Nat):Int)<0:=by omega
  simp only[binOp,Op.shift,h0,if_false,Int.toNat_natCast,hr,Sem.run_pure]
end Go.Fid
namespace Go.Fid
open Go.RowKit (Below)
theorem iV{w:World}{D:qU}{β:qM}{b:Nat}{arr:List Value}{E:TypeId}{k:Nat}{cs:List SV}(hkb:β k=some b)(mV:w.heap[b]?=some (.cells arr.toArray E (0,0)))(uF:cs.length<=arr.length)
  (h:∀ (i:Nat) x,cs[i]?=some x->∃ u,arr[i]?=some u/\u.oneCell'=true/\qH w D β u x) (hp:∀ t o,¬ D t b o):vH w D β k cs:=by
 refine .inr ⟨b,arr.toArray,E,hkb,mV,by simpa using uF,fun i x hx=>?_,hp⟩
 obtain ⟨u,e1,e2,e3⟩:=h i x hx
 exact ⟨u,by simpa using e1,e2,e3⟩
theorem aH{k:Nat}{cs:List SV}(h:qN k cs=false){i:Nat}{x:SV}(hx:cs[i]?=some x):x.names k=false:=by
 simp only[qN,List.any_eq_false] at h
 simpa using h x (List.mem_of_getElem? hx)
theorem iU{cs:List SV}{ds:List jZ}{q:Nat}{x:SV}(h:(cs++ds.map .d)[q]?=some x):(q<cs.length/\cs[q]?=some x)\/(cs.length<=q/\∃ d,ds[q-cs.length]?=some d/\x=.d d):=by
 by_cases hq:q<cs.length
 ·rw[List.getElem?_append_left hq] at h;exact .inl ⟨hq,h⟩
 ·rw[List.getElem?_append_right (by omega),List.getElem?_map,Option.map_eq_some_iff] at h
  obtain ⟨d,h1,h2⟩:=h
  exact .inr ⟨by omega,d,h1,h2.symm⟩
section
variable {P:Program} {o:Oper} {st:PS}
theorem app_soundG{T E t':TypeId}{x y:Operand}{k s m bytes:Nat}{zv:List Value}{es':List jZ}{cs:List SV}{N:Fr}(ho:o.op=.call { callee:=.builtin .append,args:=#[x,y],argTypes:=#[T,T] })
  (hd:nM N o.dst=true) (hT:vN P T=some (E,s)) (hz:yI P E=some zv) (hzl:zv.length=s) (hby:yQ P E=some bytes) (hx:ev (kK st.sl) x=.own k E s m) (hb:kB st.bs k=some cs) (hself:qN k cs=false)
  (hes:cs.length=m*s) (hy:ev (kK st.sl) y=.d (.sl t' s es')) (hbig:m+es'.length<=maxLen) (hbig':(m+es'.length)*bytes<=140737488355328) (hB:∀ j c,j≠k->kB st.bs j=some c->qN k c=false)
  (C:iL) (a:Act) (w:World) (Q:Exit->Act->World->Prop) (hn:C.n=N) (hs:dF C a w st) :
  o.wp P a w (fun a' w'=>dF C a' w' ⟨fU o.dst (.own k E s (m+es'.length)) (mC k st.sl),(k,some (cs++(qI es').map .d))::st.bs⟩) Q:=by
 obtain ⟨D,β,hs⟩:=hs
 subst hn
 have hev:∀ q:Operand,qH w D β (a.eval q) (ev (kK st.sl) q):=fun q=>by
  cases q with
  |tmp t=>exact hs.slots t
  |const v=>exact vL.val v
  |func f=>exact vL.val _
  |global g=>trivial
 have h1:=hev x
 have h2:=hev y
 rw[hx] at h1
 rw[hy] at h2
 obtain ⟨ao,c,us,hyv,hcc,hul,hfl',eR,hrep,had⟩:=fX h2
 obtain ⟨i,z,z1,z2,z3⟩:=aD hz
 obtain ⟨j,f1,f2,f3⟩:=cA hT
 have hij:i=j:=by rw[z1] at f2;injection f2
 subst hij
 have hbi:i.bytes=bytes:=by
  unfold yQ at hby
  rw[z1] at hby
  simpa using hby
 subst hbi
 have hzs:z.cells.size=s:=by rw[z3];simpa using hzl
 have hml:(maxLen:Int)<=9223372036854775807:=by decide
 have hblk:=hs.mem.ok k _ hb
 have hfll:(cs++(qI es').map SV.d).length=(m+es'.length)*s:=by rw[List.length_append,List.length_map,hes,hfl',Nat.add_mul]
 by_cases hm0:es'.length=0
 ·have hnil:es'=[]:=List.eq_nil_of_length_eq_zero hm0
  subst hnil
  have hrun:(Builtin.append_ #[T,T] o.type #[a.eval x,a.eval y]).run P w=.ok (a.eval x) w:=by
   rw[hyv]
   have e0:([]:List jZ).length=0:=rfl
   have hu0:us=[]:=List.eq_nil_of_length_eq_zero (by simpa using hul)
   rcases h1 with ⟨_,_,hv⟩ | ⟨b,cap,vs,_,hv,mV,_,hmc,_⟩
   ·rw[hv,e0]
    cases ao with
    |none=>simp [Builtin.append_,run_underlying f1,sizeOf,typeInfo,z1,Builtin.lenOf,Builtin.firstCells]
    |some ad=>simp [Builtin.append_,run_underlying f1,sizeOf,typeInfo,z1,Builtin.lenOf,Builtin.firstCells,loadCells,loadCellsFrom]
   ·rw[hv,e0]
    cases ao with
    |none=>simp [Builtin.append_,run_underlying f1,sizeOf,typeInfo,z1,Builtin.lenOf,Builtin.firstCells,hmc,storeCells]
    |some ad=>simp [Builtin.append_,run_underlying f1,sizeOf,typeInfo,z1,Builtin.lenOf,Builtin.firstCells,hmc,storeCells,loadCells,loadCellsFrom]
  have hx':qH w D β (a.eval x) (.own k E s (m+([]:List jZ).length)):=h1
  have:=grew_same (dst:=o.dst) (cs:=cs++(qI []).map .d) (k:=k) hs hd (by simpa [qI] using hblk) ⟨_,hb⟩ hx'
  unfold Oper.wp execOp
  simp only[ho,resolve,invoke,builtin,Sem.run_bind,Sem.run_pure,Result.andThen_ok,List.map_toArray,List.map_cons,List.map_nil,hrun]
  exact this
 ·obtain ⟨ad,rfl,hcell⟩:=had (by omega)
  rcases h1 with ⟨hk0,hm,hv⟩ | ⟨b,cap,vs,hkb,hv,mV,hvs,hmc,hcap⟩
  ·subst hm
   have hbytes:es'.length*i.bytes<=281474976710656:=by rw[Nat.zero_add] at hbig';omega
   have hr:=run_append_nil (P:=P) w T o.type E i z f1 z1 z2 ad es'.length c us (by rw[hul,f3]) hcell (by omega) (by omega) hbytes
   have hes0:cs=[]:=List.eq_nil_of_length_eq_zero (by simpa using hes)
   subst hes0
   have hge:=grownCap_ge w es'.length 0 E
   have hcm:=grownCap_le_maxLen w es'.length 0 E (by omega)
   generalize grownCap w es'.length 0 E=G at hr hge hcm
   have nN:Below w.heap.size w (w.drew.alloc (.cells (us.toArray++Builtin.zeroCells z.cells (G-es'.length)) E)):=⟨rfl,rfl,rfl,by simp,fun q hq=>heap_alloc_old w.drew _ hq⟩
   have hblk':vH (w.drew.alloc (.cells (us.toArray++Builtin.zeroCells z.cells (G-es'.length)) E)) D (β.set k w.heap.size) k ([]++(qI es').map .d):=by
    have earr:us.toArray++Builtin.zeroCells z.cells (G-es'.length)=(us++(Builtin.zeroCells z.cells (G-es'.length)).toList).toArray:=by apply Array.ext';simp
    refine iV (b:=w.heap.size) (E:=E) (arr:=us++(Builtin.zeroCells z.cells (G-es'.length)).toList) (by simp [qM.set]) (by rw[<- earr];exact heap_alloc_new w.drew _) (by rw[hfll,Nat.zero_add,List.length_append];omega) ?_ (fun t q hq=>Nat.lt_irrefl _ (hs.base.dok t _ q hq))
    intro q x hq
    obtain ⟨d,hq2,rfl⟩:∃ d,(qI es')[q]?=some d/\x=.d d:=by
     rcases iU hq with ⟨h1,_⟩ | ⟨_,h2⟩
     ·cases h1
     ·simpa using h2
    have hlt:q<us.length:=by
     have:=(List.getElem?_eq_some_iff.1 hq2).1
     omega
    exact ⟨us[q],by rw[List.getElem?_append_left hlt];simp [hlt],eR _ (by simp),(hrep q us[q] d (by simp [hlt]) hq2).up nN (iF.of_same D) hs.base.dok⟩
   have hx':qH (w.drew.alloc (.cells (us.toArray++Builtin.zeroCells z.cells (G-es'.length)) E)) D (β.set k w.heap.size) (.slice (some ⟨w.heap.size,0,none⟩) es'.length G) (.own k E s (0+es'.length)):=by
    rw[Nat.zero_add]
    refine .inr ⟨w.heap.size,G,_,by simp [qM.set],rfl,heap_alloc_new w.drew _,?_,hge,hcm⟩
    simp only[Array.size_append,List.size_toArray,size_zeroCells,hzs,hul,<- Nat.add_mul]
    congr 1
    omega
   have:=grew_new (dst:=o.dst) hs nN (Nat.le_refl _) hd hB hblk' hx'
   unfold Oper.wp execOp
   simp only[ho,resolve,invoke,builtin,Sem.run_bind,Sem.run_pure,Result.andThen_ok,List.map_toArray,List.map_cons,List.map_nil,hv,hyv,hr]
   exact this
  ·have hb4:∃ b' vs' T',β k=some b'/\w.heap[b']?=some (.cells vs' T' (0,0))/\cs.length<=vs'.size/\(∀ (i:Nat) x,cs[i]?=some x->∃ u,vs'[i]?=some u/\u.oneCell'=true/\qH w D β u x)/\∀ t o,¬ D t b' o:=by
    rcases hblk with ⟨e,_⟩ | h
    ·rw[hkb] at e;cases e
    ·exact h
   obtain ⟨b',vs',T',e1,e2,e3,e4,e5⟩:=hb4
   have:b'=b:=by rw[hkb] at e1;injection e1 with e1;exact e1.symm
   subst this
   have:vs'=vs:=by rw[mV] at e2;injection e2 with e2;injection e2 with e2;exact e2.symm
   subst this
   have hle:m*s<=vs'.size:=by rw[hvs];exact Nat.mul_le_mul_right _ hmc
   by_cases hroom:m+es'.length<=cap
   ·have hfit:m*s+us.length<=vs'.size:=by rw[hul,hvs,<- Nat.add_mul];exact Nat.mul_le_mul_right _ hroom
    have hr:=run_append_room (P:=P) w T o.type E i f1 z1 b' m cap vs' mV ad es'.length c us (by rw[hul,f3]) hcell eR hroom (by rw[f3];exact hfit)
    rw[f3] at hr
    have hpl:=nB (l:=vs'.toList) (off:=m*s) (new:=us) (by simpa using hfit)
    have hw:=aB w b' (vs'.toList.take (m*s)++us++vs'.toList.drop (m*s+us.length)).toArray (fun vs2 T2 f2 h=>by
     rw[mV] at h
     injection h with h
     injection h with h
     subst h
     have e:patch vs'.toList (m*s) us=vs'.toList.take (m*s)++us++vs'.toList.drop (m*s+us.length):=rfl
     rw[e] at hpl
     simpa using hpl)
    have hheap':=setRow_heap w b' vs' (vs'.toList.take (m*s)++us++vs'.toList.drop (m*s+us.length)).toArray E _ mV
    have hpg:∀ q,(vs'.toList.take (m*s)++us++vs'.toList.drop (m*s+us.length))[q]?=if q<m*s then vs'.toList[q]? else if q<m*s+us.length then us[q-m*s]? else vs'.toList[q]?:=fun q=>nX (by simpa using hfit) q
    have hblk':vH (w.setRow b' (vs'.toList.take (m*s)++us++vs'.toList.drop (m*s+us.length)).toArray) D β k (cs++(qI es').map .d):=by
     refine iV hkb hheap' ?_ ?_ e5
     ·have e:patch vs'.toList (m*s) us=vs'.toList.take (m*s)++us++vs'.toList.drop (m*s+us.length):=rfl
      rw[e] at hpl
      rw[hpl,hfll,Nat.add_mul]
      simp only[Array.length_toList]
      omega
     ·intro q x hq
      rw[hpg q]
      rcases iU hq with ⟨c1,hq2⟩ | ⟨c1,d,hq2,rfl⟩
      ·rw[hes] at c1
       rw[if_pos c1]
       obtain ⟨u,g1,g2,g3⟩:=e4 q x hq2
       exact ⟨u,by simpa using g1,g2,hw.repS e5 g3⟩
      ·rw[hes] at c1 hq2
       have hlt:q-m*s<us.length:=by
        have:=(List.getElem?_eq_some_iff.1 hq2).1
        omega
       rw[if_neg (by omega),if_pos (by omega)]
       exact ⟨us[q-m*s],by simp [hlt],eR _ (by simp),hw.rep e5 (hrep _ _ d (by simp [hlt]) hq2)⟩
    have hx':qH (w.setRow b' (vs'.toList.take (m*s)++us++vs'.toList.drop (m*s+us.length)).toArray) D β (.slice (some ⟨b',0,none⟩) (m+es'.length) cap) (.own k E s (m+es'.length)):=by
     refine .inr ⟨b',cap,_,hkb,rfl,hheap',?_,hroom,hcap⟩
     have e:patch vs'.toList (m*s) us=vs'.toList.take (m*s)++us++vs'.toList.drop (m*s+us.length):=rfl
     rw[e] at hpl
     simpa [hvs] using hpl
    have:=grew_room (dst:=o.dst) hs hw hkb e5 hb hd hblk' hx'
    unfold Oper.wp execOp
    simp only[ho,resolve,invoke,builtin,Sem.run_bind,Sem.run_pure,Result.andThen_ok,List.map_toArray,List.map_cons,List.map_nil,hv,hyv,hr]
    exact this
   ·have hol:(vs'.toList.take (m*s)).length=m*i.size:=by rw[f3,List.length_take];simp;omega
    have holds:∀ q u,(vs'.toList.take (m*s))[q]?=some u->w.cell? ((⟨b',0,none⟩:Addr).add q)=some u:=fun q u hq=>by
     rw[Addr.add_lit,Nat.zero_add,cell_of_row w b' q vs' E (0,0) mV]
     rw[List.getElem?_take] at hq
     split at hq
     ·simpa using hq
     ·cases hq
    have hr:=run_append_grow (P:=P) w T o.type E i z f1 z1 z2 ⟨b',0,none⟩ m cap (vs'.toList.take (m*s)) hol holds ad es'.length c us (by rw[hul,f3]) hcell (by omega) (by omega) (growslice_fits (by omega) hbig')
    have hge:=grownCap_ge w (m+es'.length) cap E
    have hcm:=grownCap_le_maxLen w (m+es'.length) cap E (by omega)
    generalize grownCap w (m+es'.length) cap E=G at hr hge hcm
    have nN:Below w.heap.size w (w.drew.alloc (.cells ((vs'.toList.take (m*s)).toArray++us.toArray++Builtin.zeroCells z.cells (G-(m+es'.length))) E)):=⟨rfl,rfl,rfl,by simp,fun q hq=>heap_alloc_old w.drew _ hq⟩
    have hblk':vH (w.drew.alloc (.cells ((vs'.toList.take (m*s)).toArray++us.toArray++Builtin.zeroCells z.cells (G-(m+es'.length))) E)) D (β.set k w.heap.size) k (cs++(qI es').map .d):=by
     have earr:(vs'.toList.take (m*s)).toArray++us.toArray++Builtin.zeroCells z.cells (G-(m+es'.length))=(vs'.toList.take (m*s)++us++(Builtin.zeroCells z.cells (G-(m+es'.length))).toList).toArray:=by apply Array.ext';simp
     rw[f3] at hol
     refine iV (b:=w.heap.size) (E:=E) (by simp [qM.set]) (by rw[<- earr];exact heap_alloc_new w.drew _) (by rw[hfll,List.length_append,List.length_append,hol,Nat.add_mul];omega) ?_ (fun t q hq=>Nat.lt_irrefl _ (hs.base.dok t _ q hq))
     intro q x hq
     rcases iU hq with ⟨c1,hq2⟩ | ⟨c1,d,hq2,rfl⟩
     ·rw[hes] at c1
      obtain ⟨u,g1,g2,g3⟩:=e4 q x hq2
      refine ⟨u,?_,g2,(g3.up nN (iF.of_same D) hs.base.dok).frame (fun j hj=>by simp [qM.set,hj]) (aH hself hq2)⟩
      rw[List.append_assoc,List.getElem?_append_left (by omega),List.getElem?_take,if_pos c1]
      simpa using g1
     ·rw[hes] at c1 hq2
      have hlt:q-m*s<us.length:=by
       have:=(List.getElem?_eq_some_iff.1 hq2).1
       omega
      refine ⟨us[q-m*s],?_,eR _ (by simp),(hrep _ _ d (by simp [hlt]) hq2).up nN (iF.of_same D) hs.base.dok⟩
      rw[List.append_assoc,List.getElem?_append_right (by omega),hol,List.getElem?_append_left hlt]
      simp [hlt]
    have hx':qH (w.drew.alloc (.cells ((vs'.toList.take (m*s)).toArray++us.toArray++Builtin.zeroCells z.cells (G-(m+es'.length))) E)) D (β.set k w.heap.size) (.slice (some ⟨w.heap.size,0,none⟩) (m+es'.length) G) (.own k E s (m+es'.length)):=by
     refine .inr ⟨w.heap.size,G,_,by simp [qM.set],rfl,heap_alloc_new w.drew _,?_,hge,hcm⟩
     rw[f3] at hol
     simp only[Array.size_append,List.size_toArray,size_zeroCells,hzs,hul,hol,<- Nat.add_mul]
     congr 1
     omega
    have:=grew_new (dst:=o.dst) hs nN (Nat.le_refl _) hd hB hblk' hx'
    unfold Oper.wp execOp
    simp only[ho,resolve,invoke,builtin,Sem.run_bind,Sem.run_pure,Result.andThen_ok,List.map_toArray,List.map_cons,List.map_nil,hv,hyv,hr]
    exact this
end
section
variable {P:Program} {o:Oper} {S:Nat->SV}
theorem app_local{T E t':TypeId}{x y:Operand}{k k' s m bytes:Nat}{zv:List Value}{es':List jZ}{cs:List SV}(ho:o.op=.call { callee:=.builtin .append,args:=#[x,y],argTypes:=#[T,T] })
  (hT:vN P T=some (E,s)) (hz:yI P E=some zv) (hzl:zv.length=s) (hby:yQ P E=some bytes) (hx:ev S x=.own k E s m) (hself:qN k' cs=false)
  (hes:cs.length=m*s) (hy:ev S y=.d (.sl t' s es')) (hpos:0<es'.length) (hbig:m+es'.length<=maxLen) (hbig':(m+es'.length)*bytes<=140737488355328) :
  AOk P o S k k' cs (cs++(qI es').map .d) (.own k' E s (m+es'.length)):=fun a w D β Q hop hblk hdok=>by
 have h1:=hop x (by simp [ho,Op.operands,Call.operands])
 have h2:=hop y (by simp [ho,Op.operands,Call.operands])
 have hβ:∀ (b j:Nat),j≠k'->(β.set k' b) j=β j:=fun b j hj=>by simp [qM.set,hj]
 rw[hx] at h1
 rw[hy] at h2
 obtain ⟨ao,c,us,hyv,hcc,hul,hfl',eR,hrep,had⟩:=fX h2
 obtain ⟨i,z,z1,z2,z3⟩:=aD hz
 obtain ⟨j,f1,f2,f3⟩:=cA hT
 have hij:i=j:=by rw[z1] at f2;injection f2
 subst hij
 have hbi:i.bytes=bytes:=by
  unfold yQ at hby
  rw[z1] at hby
  simpa using hby
 subst hbi
 have hzs:z.cells.size=s:=by rw[z3];simpa using hzl
 have hml:(maxLen:Int)<=9223372036854775807:=by decide
 have hfll:(cs++(qI es').map SV.d).length=(m+es'.length)*s:=by rw[List.length_append,List.length_map,hes,hfl',Nat.add_mul]
 ·obtain ⟨ad,rfl,hcell⟩:=had hpos
  rcases h1 with ⟨hk0,hm,hv⟩ | ⟨b,cap,vs,hkb,hv,mV,hvs,hmc,hcap⟩
  ·subst hm
   have hbytes:es'.length*i.bytes<=281474976710656:=by rw[Nat.zero_add] at hbig';omega
   have hr:=run_append_nil (P:=P) w T o.type E i z f1 z1 z2 ad es'.length c us (by rw[hul,f3]) hcell (by omega) (by omega) hbytes
   have hes0:cs=[]:=List.eq_nil_of_length_eq_zero (by simpa using hes)
   subst hes0
   have hge:=grownCap_ge w es'.length 0 E
   have hcm:=grownCap_le_maxLen w es'.length 0 E (by omega)
   generalize grownCap w es'.length 0 E=G at hr hge hcm
   have nN:Below w.heap.size w (w.drew.alloc (.cells (us.toArray++Builtin.zeroCells z.cells (G-es'.length)) E)):=⟨rfl,rfl,rfl,by simp,fun q hq=>heap_alloc_old w.drew _ hq⟩
   have hblk':vH (w.drew.alloc (.cells (us.toArray++Builtin.zeroCells z.cells (G-es'.length)) E)) D (β.set k' w.heap.size) k' ([]++(qI es').map .d):=by
    have earr:us.toArray++Builtin.zeroCells z.cells (G-es'.length)=(us++(Builtin.zeroCells z.cells (G-es'.length)).toList).toArray:=by apply Array.ext';simp
    refine iV (b:=w.heap.size) (E:=E) (arr:=us++(Builtin.zeroCells z.cells (G-es'.length)).toList) (by simp [qM.set]) (by rw[<- earr];exact heap_alloc_new w.drew _) (by rw[hfll,Nat.zero_add,List.length_append];omega) ?_ (fun t q hq=>Nat.lt_irrefl _ (hdok t _ q hq))
    intro q x hq
    obtain ⟨d,hq2,rfl⟩:∃ d,(qI es')[q]?=some d/\x=.d d:=by
     rcases iU hq with ⟨h1,_⟩ | ⟨_,h2⟩
     ·cases h1
     ·simpa using h2
    have hlt:q<us.length:=by
     have:=(List.getElem?_eq_some_iff.1 hq2).1
     omega
    exact ⟨us[q],by rw[List.getElem?_append_left hlt];simp [hlt],eR _ (by simp),(hrep q us[q] d (by simp [hlt]) hq2).up nN (iF.of_same D) hdok⟩
   have hx':qH (w.drew.alloc (.cells (us.toArray++Builtin.zeroCells z.cells (G-es'.length)) E)) D (β.set k' w.heap.size) (.slice (some ⟨w.heap.size,0,none⟩) es'.length G) (.own k' E s (0+es'.length)):=by
    rw[Nat.zero_add]
    refine .inr ⟨w.heap.size,G,_,by simp [qM.set],rfl,heap_alloc_new w.drew _,?_,hge,hcm⟩
    simp only[Array.size_append,List.size_toArray,size_zeroCells,hzs,hul,<- Nat.add_mul]
    congr 1
    omega
   have this:APost a w D β o.dst k k' _ _ _ _:=⟨_,_,rfl,hblk',hx',.inl ⟨nN,Nat.le_refl _,by simp⟩⟩
   unfold Oper.wp execOp
   simp only[ho,resolve,invoke,builtin,Sem.run_bind,Sem.run_pure,Result.andThen_ok,List.map_toArray,List.map_cons,List.map_nil,hv,hyv,hr]
   exact this
  ·have hb4:∃ b' vs' T',β k=some b'/\w.heap[b']?=some (.cells vs' T' (0,0))/\cs.length<=vs'.size/\(∀ (i:Nat) x,cs[i]?=some x->∃ u,vs'[i]?=some u/\u.oneCell'=true/\qH w D β u x)/\∀ t o,¬ D t b' o:=by
    rcases hblk with ⟨e,_⟩ | h
    ·rw[hkb] at e;cases e
    ·exact h
   obtain ⟨b',vs',T',e1,e2,e3,e4,e5⟩:=hb4
   have:b'=b:=by rw[hkb] at e1;injection e1 with e1;exact e1.symm
   subst this
   have:vs'=vs:=by rw[mV] at e2;injection e2 with e2;injection e2 with e2;exact e2.symm
   subst this
   have hle:m*s<=vs'.size:=by rw[hvs];exact Nat.mul_le_mul_right _ hmc
   by_cases hroom:m+es'.length<=cap
   ·have hfit:m*s+us.length<=vs'.size:=by rw[hul,hvs,<- Nat.add_mul];exact Nat.mul_le_mul_right _ hroom
    have hr:=run_append_room (P:=P) w T o.type E i f1 z1 b' m cap vs' mV ad es'.length c us (by rw[hul,f3]) hcell eR hroom (by rw[f3];exact hfit)
    rw[f3] at hr
    have hpl:=nB (l:=vs'.toList) (off:=m*s) (new:=us) (by simpa using hfit)
    have hw:=aB w b' (vs'.toList.take (m*s)++us++vs'.toList.drop (m*s+us.length)).toArray (fun vs2 T2 f2 h=>by
     rw[mV] at h
     injection h with h
     injection h with h
     subst h
     have e:patch vs'.toList (m*s) us=vs'.toList.take (m*s)++us++vs'.toList.drop (m*s+us.length):=rfl
     rw[e] at hpl
     simpa using hpl)
    have hheap':=setRow_heap w b' vs' (vs'.toList.take (m*s)++us++vs'.toList.drop (m*s+us.length)).toArray E _ mV
    have hpg:∀ q,(vs'.toList.take (m*s)++us++vs'.toList.drop (m*s+us.length))[q]?=if q<m*s then vs'.toList[q]? else if q<m*s+us.length then us[q-m*s]? else vs'.toList[q]?:=fun q=>nX (by simpa using hfit) q
    have hblk':vH (w.setRow b' (vs'.toList.take (m*s)++us++vs'.toList.drop (m*s+us.length)).toArray) D (β.set k' b') k' (cs++(qI es').map .d):=by
     refine iV (b:=b') (by simp [qM.set]) hheap' ?_ ?_ e5
     ·have e:patch vs'.toList (m*s) us=vs'.toList.take (m*s)++us++vs'.toList.drop (m*s+us.length):=rfl
      rw[e] at hpl
      rw[hpl,hfll,Nat.add_mul]
      simp only[Array.length_toList]
      omega
     ·intro q x hq
      rw[hpg q]
      rcases iU hq with ⟨c1,hq2⟩ | ⟨c1,d,hq2,rfl⟩
      ·rw[hes] at c1
       rw[if_pos c1]
       obtain ⟨u,g1,g2,g3⟩:=e4 q x hq2
       exact ⟨u,by simpa using g1,g2,(hw.repS e5 g3).frame (hβ b') (aH hself hq2)⟩
      ·rw[hes] at c1 hq2
       have hlt:q-m*s<us.length:=by
        have:=(List.getElem?_eq_some_iff.1 hq2).1
        omega
       rw[if_neg (by omega),if_pos (by omega)]
       exact ⟨us[q-m*s],by simp [hlt],eR _ (by simp),hw.rep e5 (hrep _ _ d (by simp [hlt]) hq2)⟩
    have hx':qH (w.setRow b' (vs'.toList.take (m*s)++us++vs'.toList.drop (m*s+us.length)).toArray) D (β.set k' b') (.slice (some ⟨b',0,none⟩) (m+es'.length) cap) (.own k' E s (m+es'.length)):=by
     refine .inr ⟨b',cap,_,by simp [qM.set],rfl,hheap',?_,hroom,hcap⟩
     have e:patch vs'.toList (m*s) us=vs'.toList.take (m*s)++us++vs'.toList.drop (m*s+us.length):=rfl
     rw[e] at hpl
     simpa [hvs] using hpl
    have this:APost a w D β o.dst k k' _ _ _ _:=⟨_,_,rfl,hblk',hx',.inr ⟨hkb,hw,e5⟩⟩
    unfold Oper.wp execOp
    simp only[ho,resolve,invoke,builtin,Sem.run_bind,Sem.run_pure,Result.andThen_ok,List.map_toArray,List.map_cons,List.map_nil,hv,hyv,hr]
    exact this
   ·have hol:(vs'.toList.take (m*s)).length=m*i.size:=by rw[f3,List.length_take];simp;omega
    have holds:∀ q u,(vs'.toList.take (m*s))[q]?=some u->w.cell? ((⟨b',0,none⟩:Addr).add q)=some u:=fun q u hq=>by
     rw[Addr.add_lit,Nat.zero_add,cell_of_row w b' q vs' E (0,0) mV]
     rw[List.getElem?_take] at hq
     split at hq
     ·simpa using hq
     ·cases hq
    have hr:=run_append_grow (P:=P) w T o.type E i z f1 z1 z2 ⟨b',0,none⟩ m cap (vs'.toList.take (m*s)) hol holds ad es'.length c us (by rw[hul,f3]) hcell (by omega) (by omega) (growslice_fits (by omega) hbig')
    have hge:=grownCap_ge w (m+es'.length) cap E
    have hcm:=grownCap_le_maxLen w (m+es'.length) cap E (by omega)
    generalize grownCap w (m+es'.length) cap E=G at hr hge hcm
    have nN:Below w.heap.size w (w.drew.alloc (.cells ((vs'.toList.take (m*s)).toArray++us.toArray++Builtin.zeroCells z.cells (G-(m+es'.length))) E)):=⟨rfl,rfl,rfl,by simp,fun q hq=>heap_alloc_old w.drew _ hq⟩
    have hblk':vH (w.drew.alloc (.cells ((vs'.toList.take (m*s)).toArray++us.toArray++Builtin.zeroCells z.cells (G-(m+es'.length))) E)) D (β.set k' w.heap.size) k' (cs++(qI es').map .d):=by
     have earr:(vs'.toList.take (m*s)).toArray++us.toArray++Builtin.zeroCells z.cells (G-(m+es'.length))=(vs'.toList.take (m*s)++us++(Builtin.zeroCells z.cells (G-(m+es'.length))).toList).toArray:=by apply Array.ext';simp
     rw[f3] at hol
     refine iV (b:=w.heap.size) (E:=E) (by simp [qM.set]) (by rw[<- earr];exact heap_alloc_new w.drew _) (by rw[hfll,List.length_append,List.length_append,hol,Nat.add_mul];omega) ?_ (fun t q hq=>Nat.lt_irrefl _ (hdok t _ q hq))
     intro q x hq
     rcases iU hq with ⟨c1,hq2⟩ | ⟨c1,d,hq2,rfl⟩
     ·rw[hes] at c1
      obtain ⟨u,g1,g2,g3⟩:=e4 q x hq2
      refine ⟨u,?_,g2,(g3.up nN (iF.of_same D) hdok).frame (fun j hj=>by simp [qM.set,hj]) (aH hself hq2)⟩
      rw[List.append_assoc,List.getElem?_append_left (by omega),List.getElem?_take,if_pos c1]
      simpa using g1
     ·rw[hes] at c1 hq2
      have hlt:q-m*s<us.length:=by
       have:=(List.getElem?_eq_some_iff.1 hq2).1
       omega
      refine ⟨us[q-m*s],?_,eR _ (by simp),(hrep _ _ d (by simp [hlt]) hq2).up nN (iF.of_same D) hdok⟩
      rw[List.append_assoc,List.getElem?_append_right (by omega),hol,List.getElem?_append_left hlt]
      simp [hlt]
    have hx':qH (w.drew.alloc (.cells ((vs'.toList.take (m*s)).toArray++us.toArray++Builtin.zeroCells z.cells (G-(m+es'.length))) E)) D (β.set k' w.heap.size) (.slice (some ⟨w.heap.size,0,none⟩) (m+es'.length) G) (.own k' E s (m+es'.length)):=by
     refine .inr ⟨w.heap.size,G,_,by simp [qM.set],rfl,heap_alloc_new w.drew _,?_,hge,hcm⟩
     rw[f3] at hol
     simp only[Array.size_append,List.size_toArray,size_zeroCells,hzs,hul,hol,<- Nat.add_mul]
     congr 1
     omega
    have this:APost a w D β o.dst k k' _ _ _ _:=⟨_,_,rfl,hblk',hx',.inl ⟨nN,Nat.le_refl _,by simp⟩⟩
    unfold Oper.wp execOp
    simp only[ho,resolve,invoke,builtin,Sem.run_bind,Sem.run_pure,Result.andThen_ok,List.map_toArray,List.map_cons,List.map_nil,hv,hyv,hr]
    exact this
end
end Go.Fid
