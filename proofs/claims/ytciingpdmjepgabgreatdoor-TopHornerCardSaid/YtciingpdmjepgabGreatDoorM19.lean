/- Part 19 of a proof: rules, plain facts, and functions walked. -/
import Derived.Test.YtciingpdmjepgabGreatDoorM13
set_option linter.all false
namespace Go.Fid
open Go.RowKit (Below)
section
variable {P:Program} {o:Oper} {S:Nat->SV}
theorem e_mkf{f:FuncId}{ks:List Nat}{aD:List Operand}(ho:o.op=.makeFunc (.func f) #[] aD.toArray)(hx:aD.map (ev S)=ks.map (fun k=>.ref k 0)):uC P o S [] (.clo f ks) :=
 uC.same fun a w D β hop _=>by
  refine ⟨.func (.func f) #[] (aD.map a.eval).toArray,?_,aD.map a.eval,rfl,?_,fun i k hk=>?_⟩
  ·simp only[execOp,ho,Instr.makeFunc,Array.map_empty,List.map_toArray,Sem.run_bind,Sem.run_pure,Result.andThen_ok]
   rfl
  ·simpa using congrArg List.length hx
  ·have hi:=congrArg (fun l:List SV=>l[i]?) hx
   simp only[List.getElem?_map,hk,Option.map_some,Option.map_eq_some_iff] at hi
   obtain ⟨c,hc,e⟩:=hi
   have hm:=hop c (by simp [ho,Op.operands,List.mem_of_getElem? hc])
   rw[e] at hm
   obtain ⟨b,h1,h2⟩:=hm
   exact ⟨b,h1,by rw[List.getElem?_map,hc,Option.map_some,h2]⟩
theorem e_clc{y:Operand}{xs:List Operand}{ats:Array TypeId}{f:FuncId}{ds:List jT}{r:jT}{ks:List Nat}{css:List (List jT)}{E:TypeId}{rd:List (Nat × List SV)}
  (hf:jW P f (ds++css.map (fun cs=>.cptr E cs 0)) r) (ho:o.op=.call { callee:=.value y,args:=xs.toArray,argTypes:=ats }) (hy:ev S y=.clo f ks) (hx:xs.map (ev S)=ds.map .d)
  (hrk:rd=ks.zip (css.map (fun cs=>cs.map SV.d))) (qL:css.length=ks.length) (ha:xM E r):uC P o S rd (.d r) :=
 fun a w D β Q hop hrd hD=>by
  have hyv:=hop y (by simp [ho,Op.operands,Call.operands])
  rw[hy] at hyv
  obtain ⟨vs,hv1,hv2,hv3⟩:=hyv
  have hl:xs.length=ds.length:=by simpa using congrArg List.length hx
  have hargs0:Args w D (xs.map a.eval) ds:=by
   refine ⟨by simpa using hl,fun i v d hv hd=>?_⟩
   rw[List.getElem?_map,Option.map_eq_some_iff] at hv
   obtain ⟨x,hxi,rfl⟩:=hv
   have hm:=hop x (by simp [ho,Op.operands,Call.operands,List.mem_of_getElem? hxi])
   have hi:=congrArg (fun l:List SV=>l[i]?) hx
   simp only[List.getElem?_map,hxi,hd,Option.map_some,Option.some.injEq] at hi
   rw[hi] at hm
   exact hm
  have hrun:(execOp a.eval o).run P w=.ok (.enter f (xs.map a.eval++vs).toArray) w:=by
   simp only[execOp,ho,resolve,Deferred.ofValue,hv1,Sem.run_bind,Sem.run_pure,Result.andThen_ok,invoke,Array.empty_append]
   rw[uY hf.may]
   simp
  -- the private variables are published for the time of the call
  let X:TypeId->Nat->Nat->Prop:=fun t g _=>t=E/\∃ k∈ks,β k=some g
  have hblk:∀ (i:Nat) k cs,ks[i]?=some k->css[i]?=some cs->uA w D β k (cs.map SV.d):=fun i k cs hk hc=>by
   refine hrd (k,cs.map SV.d) ?_
   rw[hrk]
   refine List.mem_of_getElem? (i:=i) ?_
   rw[List.getElem?_zip_eq_some]
   exact ⟨hk,by rw[List.getElem?_map,hc];rfl⟩
  have hcap:∀ (i:Nat) k cs,ks[i]?=some k->css[i]?=some cs->∃ b us T',β k=some b/\vs[i]?=some (.pointer (some ⟨b,0,none⟩))/\w.heap[b]?=some (.cells us T' (0,0)) /\
    (∀ (j:Nat) x,(cs.map SV.d)[j]?=some x->∃ u,us[j]?=some u/\u.oneCell'=true/\qC w D β u x)/\∀ t o,¬ D t b o:=fun i k cs hk hc=>by
   obtain ⟨b,h1,h2⟩:=hv3 i k hk
   rcases hblk i k cs hk hc with g1 | ⟨b',us,T',g1,g2,g3,g4,g5⟩
   ·have g1:=(g1.cells (gR _)).1;rw[h1] at g1;cases g1
   ·obtain rfl:b=b':=by rw[h1] at g1;injection g1
    exact ⟨b,us,T',h1,h2,g2,g4,g5⟩
  have hXb:∀ t g i,X t g i->(∀ t' i',¬ D t' g i')/\g<w.heap.size:=fun t g i ⟨_,k,hk,hb⟩=>by
   obtain ⟨i,hi⟩:=List.getElem?_of_mem hk
   have hlt:i<css.length:=by rw[qL];exact (List.getElem?_eq_some_iff.1 hi).1
   obtain ⟨b,us,T',h1,_,h3,_,h5⟩:=hcap i k _ hi (List.getElem?_eq_getElem hlt)
   obtain rfl:g=b:=by rw[hb] at h1;injection h1
   exact ⟨fun t' i'=>h5 t' i',qV h3⟩
  have hD':DOk (fun t g i=>D t g i\/X t g i) w:=hD.more (fun _ _ _ hd=>.inl hd) fun t g i hd=>by
   rcases hd with hd | hd
   ·exact hD.lt _ _ _ hd
   ·exact (hXb t g i hd).2
  have hmono:∀ t' g i,D t' g i->(D t' g i\/X t' g i)/\w.cell? ⟨g,i,none⟩=w.cell? ⟨g,i,none⟩:=fun t' g i hd=>⟨.inl hd,rfl⟩
  have hargs:Args w (fun t g i=>D t g i\/X t g i) (xs.map a.eval++vs) (ds++css.map (fun cs=>.cptr E cs 0)):=by
   refine ⟨by simp [hl,hv2,qL],fun i v d hv hd=>?_⟩
   by_cases hi:i<xs.length
   ·rw[List.getElem?_append_left (by simpa using hi)] at hv
    rw[List.getElem?_append_left (by omega)] at hd
    exact uN.mono hmono (hargs0.2 i v d hv hd)
   ·rw[List.getElem?_append_right (by simpa using hi),List.length_map] at hv
    rw[List.getElem?_append_right (by omega),<- hl] at hd
    rw[List.getElem?_map,Option.map_eq_some_iff] at hd
    obtain ⟨cs,hcs,rfl⟩:=hd
    have hlt:i-xs.length<ks.length:=by rw[<- qL];exact (List.getElem?_eq_some_iff.1 hcs).1
    obtain ⟨b,us,T',h1,h2,h3,h4,h5⟩:=hcap _ _ cs (List.getElem?_eq_getElem hlt) hcs
    rw[h2] at hv
    injection hv with hv
    subst hv
    have hcell:∀ j,w.cell? ⟨b,j,none⟩=us[j]?:=fun j=>cell_of_row w b j us T' (0,0) h3
    have hj:∀ j,j<cs.length->∃ u,us[j]?=some u/\u.oneCell'=true/\uN w D u (cs[j]?.getD (.tup [])):=fun j hj=>by
     obtain ⟨u,q1,q2,q3⟩:=h4 j (.d cs[j]) (by rw[List.getElem?_map,List.getElem?_eq_getElem hj];rfl)
     exact ⟨u,q1,q2,by rw[List.getElem?_eq_getElem hj];exact q3⟩
    refine uN.cptr (off:=0) b 0 (fun j=>us.getD j undef) (fun j _=>.inr ⟨rfl,_,List.getElem_mem hlt,h1⟩) (fun j hj'=>?_) (fun j hj'=>?_) (fun j d hd=>?_)
    ·obtain ⟨u,q1,_,_⟩:=hj j hj'
     rw[Nat.zero_add,hcell,Array.getD_eq_getD_getElem?,q1];rfl
    ·obtain ⟨u,q1,q2,_⟩:=hj j hj'
     rw[Array.getD_eq_getD_getElem?,q1];exact q2
    ·obtain ⟨u,q1,q2,q3⟩:=hj j (List.getElem?_eq_some_iff.1 hd).1
     rw[Array.getD_eq_getD_getElem?,q1]
     rw[hd] at q3
     exact uN.mono hmono q3
  refine cW hrun ((hf.run w _ _ hD' hargs).mono fun e w' h=>?_)
  obtain ⟨v,D2,he,h1,h2,h3⟩:=h
  refine ⟨v,he,v,fun t g i=>D2 t g i/\¬ X t g i,rfl,h1,⟨fun t g i hd=>⟨h2.up _ _ _ (.inl hd),fun hx'=>(hXb t g i hx').1 t i hd⟩,fun t g i hd=>?_⟩,?_⟩
  ·rcases h2.new t g i hd.1 with h | h
   ·rcases h with h | h
    ·exact .inl h
    ·exact absurd h hd.2
   ·exact .inr h
  ·exact ha.rep (fun t g i hne hd=>⟨hd,fun hx'=>hne hx'.1⟩) h3
theorem oMf{f:FuncId}{aD:List Operand}(ks:List Nat)(ho:o.op=.makeFunc (.func f) #[] aD.toArray:=by exact rfl)(hx:aD.map (ev S)=ks.map (fun k=>.ref k 0):=by kernel_rfl):uC P o S [] (.clo f ks):=e_mkf ho hx
end
def RKs(P:Program)(o:Oper)(S:SL)(B:BS)(ks:List Nat)(x:SV):Prop:=∃ rd:List (Nat × List SV),rd.map (·.1)=ks/\uC P o (kA S) rd x/\∀ p∈rd,jY B p.1=some p.2
theorem oCc{P:Program}{o:Oper}{S:SL}{B:BS}{y:Operand}{xs:List Operand}{ats:Array TypeId}{f:FuncId}{ds:List jT}{r:jT}(ks:List Nat)(css:List (List jT))
  (hf:jW P f (ds++css.map (fun cs=>.cptr 1000000 cs 0)) r) (ha:xM 1000000 r) (ho:o.op=.call { callee:=.value y,args:=xs.toArray,argTypes:=ats }:=by exact rfl) (hy:ev (kA S) y=.clo f ks:=by kernel_rfl) (hx:xs.map (ev (kA S))=ds.map .d:=by kernel_rfl)
  (qL:Nat.beq css.length ks.length=true:=by kernel_rfl) (hb:ks.map (fun k=>jY B k)=css.map (fun cs=>some (cs.map SV.d)):=by kernel_rfl):RKs P o S B ks (.d r):=by
 have qL:=Nat.eq_of_beq_eq_true qL
 refine ⟨ks.zip (css.map (fun cs=>cs.map SV.d)),?_,e_clc hf ho hy hx rfl qL ha,fun p hp=>?_⟩
 ·rw[List.map_fst_zip];simp [qL]
 ·obtain ⟨i,hi⟩:=List.getElem?_of_mem hp
  rw[List.getElem?_zip_eq_some] at hi
  have h1:=congrArg (fun l:List (Option (List SV))=>l[i]?) hb
  simp only[List.getElem?_map,hi.1,Option.map_some] at h1
  have h2:=hi.2
  rw[List.getElem?_map,Option.map_eq_some_iff] at h2
  obtain ⟨cs,hc,e⟩:=h2
  rw[hc] at h1
  simp only[Option.map_some,Option.some.injEq] at h1
  rw[h1,e]
section
variable {P:Program} {n:Fr} {ops:Array Oper} {K:SL->BS->Prop} {S:SL} {B:BS} {l:List Oper} {o:Oper} {news:List Nat} {acc0:List (List Nat × List Nat)}
theorem zC{ks:List Nat}{x:SV}(h:RKs P o S B ks x)(r:SK P n ops K ((dO o,x)::S) B l)(g:goK n ops S o=true:=by kernel_rfl):SK P n ops K S B (o::l):=by
 obtain ⟨st1,r1,r2⟩:=r
 obtain ⟨rd,_,h,hbk⟩:=h
 obtain ⟨hd,hg,hb⟩:=zI g
 have hs:=Step.e (P:=P) (n:=n) (ops:=ops) (st:=⟨S,B⟩) (o:=o) h hg (by rw[hd];exact hb) hbk
 rw[hd] at hs
 exact ⟨st1,.cons hs r1,r2⟩
theorem wC{ks:List Nat}{x:SV}(h:RKs P o S B ks x)(r:DK P n ops K news (acc0++[(ks,[])]) ((dO o,x)::S) B l)(g:goK n ops S o=true:=by kernel_rfl)(hn:clearR ops S o news x=true:=by kernel_rfl):DK P n ops K news acc0 S B (o::l):=by
 obtain ⟨st1,acc,r1,r0,r2⟩:=r
 obtain ⟨rd,hk,h,hbk⟩:=h
 obtain ⟨hd,hg,hb⟩:=zI g
 have hs:=hH.e (P:=P) (n:=n) (ops:=ops) (news:=news) (st:=⟨S,B⟩) (o:=o) h hg (by rw[hd];exact hb) hbk hn
 rw[hd,hk] at hs
 exact ⟨st1,(ks,[])::acc,.cons hs r1,by simpa using r0,r2⟩
end
inductive CArgs (bl:List (Nat × List jT)):List Nat->List (List jT)->Prop
 |nil:CArgs bl [] []
 |cons {k:Nat} {cs:List jT} {ks:List Nat} {css:List (List jT)} (hk:(k,cs)∈bl) (h:CArgs bl ks css):CArgs bl (k::ks) (cs::css)
theorem CArgs.len{bl:List (Nat × List jT)}{ks:List Nat}{css:List (List jT)}(h:CArgs bl ks css):ks.length=css.length:=by
 induction h with
 |nil=>rfl
 |cons hk h ih=>simp [ih]
theorem CArgs.get{bl:List (Nat × List jT)}{ks:List Nat}{css:List (List jT)}(h:CArgs bl ks css):∀ (i:Nat) k cs,ks[i]?=some k->css[i]?=some cs->(k,cs)∈bl:=by
 induction h with
 |nil=>intro i k cs h;simp at h
 |cons hk h ih=>
  intro i k cs h1 h2
  rcases i with _ | i
  ·simp at h1 h2;subst h1;subst h2;exact hk
  ·exact ih i k cs (by simpa using h1) (by simpa using h2)
inductive fW (bl:List (Nat × List jT)) (E:TypeId):List SV->List jT->Prop
 |nil:fW bl E [] []
 |d {x:jT} {zs:List SV} {ds:List jT} (h:fW bl E zs ds):fW bl E (.d x::zs) (x::ds)
 |v {k q n s:Nat} {cs es:List jT} {zs:List SV} {ds:List jT} (hk:(k,cs)∈bl) (hes:∀ e∈es,e.cells.length=s) (hl:es.length=n) (hc:(cs.drop q).take (n*s)=kR es) (h:fW bl E zs ds):fW bl E (.view k q n::zs) (.sl E s es::ds)
 |p {k o:Nat} {cs:List jT} {zs:List SV} {ds:List jT} (hk:(k,cs)∈bl) (h:fW bl E zs ds):fW bl E (.ref k o::zs) (.cptr E cs o::ds)
 |c {f:FuncId} {ks:List Nat} {css:List (List jT)} {zs:List SV} {ds:List jT} (hk:CArgs bl ks css) (h:fW bl E zs ds):fW bl E (.clo f ks::zs) (.clo f (css.map fun cs=>.cptr E cs 0)::ds)
theorem fW.len{bl:List (Nat × List jT)}{E:TypeId}{zs:List SV}{ds:List jT}(h:fW bl E zs ds):zs.length=ds.length:=by
 induction h with
 |nil=>rfl
 |d h ih=>simp [ih]
 |v hk hes hl hc h ih=>simp [ih]
 |p hk h ih=>simp [ih]
 |c hk h ih=>simp [ih]
theorem fW.rep{bl:List (Nat × List jT)}{E:TypeId}{zs:List SV}{ds:List jT}(h:fW bl E zs ds){w:World}{D D':kV}{β:kY}(h1:∀ v x,uN w D v x->uN w D' v x)
  (h2:∀ (k q n s:Nat) (cs es:List jT) (v:Value),(k,cs)∈bl->(∀ e∈es,e.cells.length=s)->es.length=n->(cs.drop q).take (n*s)=kR es->qC w D β v (.view k q n)->uN w D' v (.sl E s es))
  (h3:∀ (k o:Nat) (cs:List jT) (v:Value),(k,cs)∈bl->qC w D β v (.ref k o)->uN w D' v (.cptr E cs o)) :
  ∀ (vs:List Value),vs.length=zs.length->(∀ (i:Nat) v x,vs[i]?=some v->zs[i]?=some x->qC w D β v x)->∀ (i:Nat) v d,vs[i]?=some v->ds[i]?=some d->uN w D' v d:=by
 induction h with
 |nil=>intro vs _ _ i v d _ hd;simp at hd
 |d h ih=>
  intro vs hl hr i v d' hv hd
  rcases vs with _ | ⟨v0,vs⟩
  ·simp at hl
  ·rcases i with _ | i
   ·simp at hv hd;subst hv;subst hd;exact h1 _ _ (hr 0 _ _ rfl rfl)
   ·exact ih vs (by simpa using hl) (fun i v x h3 h4=>hr (i+1) v x (by simpa using h3) (by simpa using h4)) i v d' (by simpa using hv) (by simpa using hd)
 |v hk hes hl' hc h ih=>
  intro vs hl hr i v d' hv hd
  rcases vs with _ | ⟨v0,vs⟩
  ·simp at hl
  ·rcases i with _ | i
   ·simp at hv hd;subst hv;subst hd;exact h2 _ _ _ _ _ _ _ hk hes hl' hc (hr 0 _ _ rfl rfl)
   ·exact ih vs (by simpa using hl) (fun i v x h3 h4=>hr (i+1) v x (by simpa using h3) (by simpa using h4)) i v d' (by simpa using hv) (by simpa using hd)
 |p hk h ih=>
  intro vs hl hr i v d' hv hd
  rcases vs with _ | ⟨v0,vs⟩
  ·simp at hl
  ·rcases i with _ | i
   ·simp at hv hd;subst hv;subst hd;exact h3 _ _ _ _ hk (hr 0 _ _ rfl rfl)
   ·exact ih vs (by simpa using hl) (fun i v x h3 h4=>hr (i+1) v x (by simpa using h3) (by simpa using h4)) i v d' (by simpa using hv) (by simpa using hd)
 |c hk h ih=>
  intro vs hl hr i v d' hv hd
  rcases vs with _ | ⟨v0,vs⟩
  ·simp at hl
  ·rcases i with _ | i
   ·simp at hv hd;subst hv;subst hd
    obtain ⟨us,e1,e2,e3⟩:=hr 0 _ _ rfl rfl
    rw[e1]
    refine .clo us (by rw[e2,hk.len,List.length_map]) fun j u d hu hd=>?_
    rw[List.getElem?_map,Option.map_eq_some_iff] at hd
    obtain ⟨cs,hcs,rfl⟩:=hd
    have hlt:j<_:=(List.getElem?_eq_some_iff.1 hcs).1
    rw[<- hk.len] at hlt
    obtain ⟨b,g1,g2⟩:=e3 j _ (List.getElem?_eq_getElem hlt)
    rw[hu] at g2
    injection g2 with g2
    exact h3 _ 0 cs u (hk.get j _ cs (List.getElem?_eq_getElem hlt) hcs) ⟨b,g1,g2⟩
   ·exact ih vs (by simpa using hl) (fun i v x h3 h4=>hr (i+1) v x (by simpa using h3) (by simpa using h4)) i v d' (by simpa using hv) (by simpa using hd)
variable {P:Program}
end Go.Fid
namespace Go.Fid
variable {P:Program} {o:Oper} {S:Nat->SV}
theorem e_nckd{x:Operand}{t:TypeId}{q:Nat}{cs:List jT}(ho:o.op=.nilCheck x)(hx:ev S x=.d (.cptr t cs q)):uC P o S [] (.d (.cptr t cs q)) :=
 uC.same fun a' w D β hop _=>by
  have hp:=hop x (by simp [ho,Op.operands])
  rw[hx] at hp
  generalize hvv:a'.eval x=v at hp
  cases hp with
  |cptr g p u hD hu h1 hr=>
   exact ⟨.pointer (some ⟨g,p+q,none⟩),by simp [execOp,ho,hvv],uN.cptr g p u hD hu h1 hr⟩
theorem oNd{x:Operand}{t:TypeId}{q:Nat}{cs:List jT}(ho:o.op=.nilCheck x:=by exact rfl)(hx:ev S x=.d (.cptr t cs q):=by exact rfl):uC P o S [] (.d (.cptr t cs q)):=e_nckd ho hx
end Go.Fid
namespace Go.Fid
variable {P:Program} {o:Oper} {S:Nat->SV}
theorem e_shr{T T':TypeId}{x y:Operand}{k k':IntKind}{m:Int}{n:Nat}(r:Int)(ho:o.op=.binOp .shr T x y T':=by exact rfl)(hx:ev S x=.d (.val (.int k m)):=by exact rfl)(hy:ev S y=.d (.val (.int k' ((n:Nat):Int))):=by exact rfl)
  (hr:m.fdiv (2 ^ (min n k.bits))=r:=by kernel_rfl):uC P o S [] (.d (.val (.int k r))) :=
 eE ho hx hy (by simp [eqGuard]) fun w=>by
  have h0:¬ ((n:Nat):Int)<0:=by omega
  simp only[binOp,Op.shift,h0,if_false,Int.toNat_natCast,hr,Sem.run_pure]
end Go.Fid
namespace Go.Fid
open Go.RowKit (Below)
theorem app_blkG{w:World}{D:kV}{β:kY}{b:Nat}{arr:List Value}{E:TypeId}{k:Nat}{cs:List SV}(hkb:β k=some b)(cE:w.heap[b]?=some (.cells arr.toArray E (0,0)))(qL:cs.length<=arr.length)
  (h:∀ (i:Nat) x,cs[i]?=some x->∃ u,arr[i]?=some u/\u.oneCell'=true/\qC w D β u x) (hp:∀ t o,¬ D t b o):uA w D β k cs:=by
 refine .inr ⟨b,arr.toArray,E,hkb,cE,by simpa using qL,fun i x hx=>?_,hp⟩
 obtain ⟨u,e1,e2,e3⟩:=h i x hx
 exact ⟨u,by simpa using e1,e2,e3⟩
theorem fO{k:Nat}{cs:List SV}(h:kZ k cs=false){i:Nat}{x:SV}(hx:cs[i]?=some x):x.names k=false:=by
 simp only[kZ,List.any_eq_false] at h
 simpa using h x (List.mem_of_getElem? hx)
theorem app_getG{cs:List SV}{ds:List jT}{q:Nat}{x:SV}(h:(cs++ds.map .d)[q]?=some x):(q<cs.length/\cs[q]?=some x)\/(cs.length<=q/\∃ d,ds[q-cs.length]?=some d/\x=.d d):=by
 by_cases hq:q<cs.length
 ·rw[List.getElem?_append_left hq] at h;exact .inl ⟨hq,h⟩
 ·rw[List.getElem?_append_right (by omega),List.getElem?_map,Option.map_eq_some_iff] at h
  obtain ⟨d,h1,h2⟩:=h
  exact .inr ⟨by omega,d,h1,h2.symm⟩
section
variable {P:Program} {o:Oper} {st:PS}
end
section
variable {P:Program} {o:Oper} {S:Nat->SV}
theorem app_local{T E t':TypeId}{x y:Operand}{k k' s m bytes:Nat}{zv:List Value}{es':List jT}{cs:List SV}(ho:o.op=.call { callee:=.builtin .append,args:=#[x,y],argTypes:=#[T,T] })
  (hT:uB P T=some (E,s)) (hz:vP P E=some zv) (hzl:zv.length=s) (hby:vJ P E=some bytes) (hx:ev S x=.own k E s m) (hself:kZ k' cs=false)
  (hes:cs.length=m*s) (hy:ev S y=.d (.sl t' s es')) (hpos:0<es'.length) (hbig:m+es'.length<=maxLen) (hbig':(m+es'.length)*bytes<=140737488355328) :
  AOk P o S k k' cs (cs++(kR es').map .d) (.own k' E s (m+es'.length)):=fun a w D β Q hop hblk hdok=>by
 have h1:=hop x (by simp [ho,Op.operands,Call.operands])
 have h2:=hop y (by simp [ho,Op.operands,Call.operands])
 have hβ:∀ (b j:Nat),j≠k'->(β.set k' b) j=β j:=fun b j hj=>by simp [kY.set,hj]
 rw[hx] at h1
 rw[hy] at h2
 obtain ⟨ao,c,us,hyv,hcc,hul,hfl',eO,hrep,had⟩:=bP h2
 obtain ⟨i,z,z1,z2,z3⟩:=eZ hz
 obtain ⟨j,f1,f2,f3⟩:=gQ hT
 have hij:i=j:=by rw[z1] at f2;injection f2
 subst hij
 have hbi:i.bytes=bytes:=by
  unfold vJ at hby
  rw[z1] at hby
  simpa using hby
 subst hbi
 have hzs:z.cells.size=s:=by rw[z3];simpa using hzl
 have hml:(maxLen:Int)<=9223372036854775807:=by decide
 have hfll:(cs++(kR es').map SV.d).length=(m+es'.length)*s:=by rw[List.length_append,List.length_map,hes,hfl',Nat.add_mul]
 ·obtain ⟨ad,rfl,hcell⟩:=had hpos
  rcases h1 with ⟨hk0,hm,hv⟩ | ⟨b,cap,vs,hkb,hv,cE,hvs,hmc,hcap⟩
  ·subst hm
   have hbytes:es'.length*i.bytes<=281474976710656:=by rw[Nat.zero_add] at hbig';omega
   have hr:=run_append_nil (P:=P) w T o.type E i z f1 z1 z2 ad es'.length c us (by rw[hul,f3]) hcell (by omega) (by omega) hbytes
   have hes0:cs=[]:=List.eq_nil_of_length_eq_zero (by simpa using hes)
   subst hes0
   have hge:=grownCap_ge w es'.length 0 E
   have hcm:=grownCap_le_maxLen w es'.length 0 E (by omega)
   generalize grownCap w es'.length 0 E=G at hr hge hcm
   have gC:Below w.heap.size w (w.drew.alloc (.cells (us.toArray++Builtin.zeroCells z.cells (G-es'.length)) E)):=⟨rfl,rfl,rfl,by simp,fun q hq=>heap_alloc_old w.drew _ hq⟩
   have hblk':uA (w.drew.alloc (.cells (us.toArray++Builtin.zeroCells z.cells (G-es'.length)) E)) D (β.set k' w.heap.size) k' ([]++(kR es').map .d):=by
    have earr:us.toArray++Builtin.zeroCells z.cells (G-es'.length)=(us++(Builtin.zeroCells z.cells (G-es'.length)).toList).toArray:=by apply Array.ext';simp
    refine app_blkG (b:=w.heap.size) (E:=E) (arr:=us++(Builtin.zeroCells z.cells (G-es'.length)).toList) (by simp [kY.set]) (by rw[<- earr];exact heap_alloc_new w.drew _) (by rw[hfll,Nat.zero_add,List.length_append];omega) ?_ (fun t q hq=>Nat.lt_irrefl _ (hdok.lt t _ q hq))
    intro q x hq
    obtain ⟨d,hq2,rfl⟩:∃ d,(kR es')[q]?=some d/\x=.d d:=by
     rcases app_getG hq with ⟨h1,_⟩ | ⟨_,h2⟩
     ·cases h1
     ·simpa using h2
    have hlt:q<us.length:=by
     have:=(List.getElem?_eq_some_iff.1 hq2).1
     omega
    exact ⟨us[q],by rw[List.getElem?_append_left hlt];simp [hlt],eO _ (by simp),(hrep q us[q] d (by simp [hlt]) hq2).up gC (aF.of_same D) hdok⟩
   have hx':qC (w.drew.alloc (.cells (us.toArray++Builtin.zeroCells z.cells (G-es'.length)) E)) D (β.set k' w.heap.size) (.slice (some ⟨w.heap.size,0,none⟩) es'.length G) (.own k' E s (0+es'.length)):=by
    rw[Nat.zero_add]
    refine .inr ⟨w.heap.size,G,_,by simp [kY.set],rfl,heap_alloc_new w.drew _,?_,hge,hcm⟩
    simp only[Array.size_append,List.size_toArray,size_zeroCells,hzs,hul,<- Nat.add_mul]
    congr 1
    omega
   have this:APost a w D β o.dst k k' _ _ _ _:=⟨_,_,rfl,hblk',hx',.inl ⟨gC,Nat.le_refl _,by simp⟩⟩
   unfold Oper.wp execOp
   simp only[ho,resolve,invoke,builtin,Sem.run_bind,Sem.run_pure,Result.andThen_ok,List.map_toArray,List.map_cons,List.map_nil,hv,hyv,hr]
   exact this
  ·have hb4:∃ b' vs' T',β k=some b'/\w.heap[b']?=some (.cells vs' T' (0,0))/\cs.length<=vs'.size/\(∀ (i:Nat) x,cs[i]?=some x->∃ u,vs'[i]?=some u/\u.oneCell'=true/\qC w D β u x)/\∀ t o,¬ D t b' o:=by
    rcases hblk with h | h
    ·exact (h.at_cells hkb cE).elim
    ·exact h
   obtain ⟨b',vs',T',e1,e2,e3,e4,e5⟩:=hb4
   have:b'=b:=by rw[hkb] at e1;injection e1 with e1;exact e1.symm
   subst this
   have:vs'=vs:=by rw[cE] at e2;injection e2 with e2;injection e2 with e2;exact e2.symm
   subst this
   have hle:m*s<=vs'.size:=by rw[hvs];exact Nat.mul_le_mul_right _ hmc
   by_cases hroom:m+es'.length<=cap
   ·have hfit:m*s+us.length<=vs'.size:=by rw[hul,hvs,<- Nat.add_mul];exact Nat.mul_le_mul_right _ hroom
    have hr:=run_append_room (P:=P) w T o.type E i f1 z1 b' m cap vs' cE ad es'.length c us (by rw[hul,f3]) hcell eO hroom (by rw[f3];exact hfit)
    rw[f3] at hr
    have hpl:=yN (l:=vs'.toList) (off:=m*s) (new:=us) (by simpa using hfit)
    have hw:=aT w b' (vs'.toList.take (m*s)++us++vs'.toList.drop (m*s+us.length)).toArray (fun vs2 T2 f2 h=>by
     rw[cE] at h
     injection h with h
     injection h with h
     subst h
     have e:patch vs'.toList (m*s) us=vs'.toList.take (m*s)++us++vs'.toList.drop (m*s+us.length):=rfl
     rw[e] at hpl
     simpa using hpl)
    have hheap':=setRow_heap w b' vs' (vs'.toList.take (m*s)++us++vs'.toList.drop (m*s+us.length)).toArray E _ cE
    have hpg:∀ q,(vs'.toList.take (m*s)++us++vs'.toList.drop (m*s+us.length))[q]?=if q<m*s then vs'.toList[q]? else if q<m*s+us.length then us[q-m*s]? else vs'.toList[q]?:=fun q=>yS (by simpa using hfit) q
    have hblk':uA (w.setRow b' (vs'.toList.take (m*s)++us++vs'.toList.drop (m*s+us.length)).toArray) D (β.set k' b') k' (cs++(kR es').map .d):=by
     refine app_blkG (b:=b') (by simp [kY.set]) hheap' ?_ ?_ e5
     ·have e:patch vs'.toList (m*s) us=vs'.toList.take (m*s)++us++vs'.toList.drop (m*s+us.length):=rfl
      rw[e] at hpl
      rw[hpl,hfll,Nat.add_mul]
      simp only[Array.length_toList]
      omega
     ·intro q x hq
      rw[hpg q]
      rcases app_getG hq with ⟨c1,hq2⟩ | ⟨c1,d,hq2,rfl⟩
      ·rw[hes] at c1
       rw[if_pos c1]
       obtain ⟨u,g1,g2,g3⟩:=e4 q x hq2
       exact ⟨u,by simpa using g1,g2,(hw.repS e5 g3).frame (hβ b') (fO hself hq2)⟩
      ·rw[hes] at c1 hq2
       have hlt:q-m*s<us.length:=by
        have:=(List.getElem?_eq_some_iff.1 hq2).1
        omega
       rw[if_neg (by omega),if_pos (by omega)]
       exact ⟨us[q-m*s],by simp [hlt],eO _ (by simp),hw.rep e5 (hrep _ _ d (by simp [hlt]) hq2)⟩
    have hx':qC (w.setRow b' (vs'.toList.take (m*s)++us++vs'.toList.drop (m*s+us.length)).toArray) D (β.set k' b') (.slice (some ⟨b',0,none⟩) (m+es'.length) cap) (.own k' E s (m+es'.length)):=by
     refine .inr ⟨b',cap,_,by simp [kY.set],rfl,hheap',?_,hroom,hcap⟩
     have e:patch vs'.toList (m*s) us=vs'.toList.take (m*s)++us++vs'.toList.drop (m*s+us.length):=rfl
     rw[e] at hpl
     simpa [hvs] using hpl
    have this:APost a w D β o.dst k k' _ _ _ _:=⟨_,_,rfl,hblk',hx',.inr ⟨hkb,hw,e5⟩⟩
    unfold Oper.wp execOp
    simp only[ho,resolve,invoke,builtin,Sem.run_bind,Sem.run_pure,Result.andThen_ok,List.map_toArray,List.map_cons,List.map_nil,hv,hyv,hr]
    exact this
   ·have hol:(vs'.toList.take (m*s)).length=m*i.size:=by rw[f3,List.length_take];simp;omega
    have holds:∀ q u,(vs'.toList.take (m*s))[q]?=some u->w.cell? ((⟨b',0,none⟩:Addr).add q)=some u:=fun q u hq=>by
     rw[Addr.add_lit,Nat.zero_add,cell_of_row w b' q vs' E (0,0) cE]
     rw[List.getElem?_take] at hq
     split at hq
     ·simpa using hq
     ·cases hq
    have hr:=run_append_grow (P:=P) w T o.type E i z f1 z1 z2 ⟨b',0,none⟩ m cap (vs'.toList.take (m*s)) hol holds ad es'.length c us (by rw[hul,f3]) hcell (by omega) (by omega) (growslice_fits (by omega) hbig')
    have hge:=grownCap_ge w (m+es'.length) cap E
    have hcm:=grownCap_le_maxLen w (m+es'.length) cap E (by omega)
    generalize grownCap w (m+es'.length) cap E=G at hr hge hcm
    have gC:Below w.heap.size w (w.drew.alloc (.cells ((vs'.toList.take (m*s)).toArray++us.toArray++Builtin.zeroCells z.cells (G-(m+es'.length))) E)):=⟨rfl,rfl,rfl,by simp,fun q hq=>heap_alloc_old w.drew _ hq⟩
    have hblk':uA (w.drew.alloc (.cells ((vs'.toList.take (m*s)).toArray++us.toArray++Builtin.zeroCells z.cells (G-(m+es'.length))) E)) D (β.set k' w.heap.size) k' (cs++(kR es').map .d):=by
     have earr:(vs'.toList.take (m*s)).toArray++us.toArray++Builtin.zeroCells z.cells (G-(m+es'.length))=(vs'.toList.take (m*s)++us++(Builtin.zeroCells z.cells (G-(m+es'.length))).toList).toArray:=by apply Array.ext';simp
     rw[f3] at hol
     refine app_blkG (b:=w.heap.size) (E:=E) (by simp [kY.set]) (by rw[<- earr];exact heap_alloc_new w.drew _) (by rw[hfll,List.length_append,List.length_append,hol,Nat.add_mul];omega) ?_ (fun t q hq=>Nat.lt_irrefl _ (hdok.lt t _ q hq))
     intro q x hq
     rcases app_getG hq with ⟨c1,hq2⟩ | ⟨c1,d,hq2,rfl⟩
     ·rw[hes] at c1
      obtain ⟨u,g1,g2,g3⟩:=e4 q x hq2
      refine ⟨u,?_,g2,(g3.up gC (aF.of_same D) hdok).frame (fun j hj=>by simp [kY.set,hj]) (fO hself hq2)⟩
      rw[List.append_assoc,List.getElem?_append_left (by omega),List.getElem?_take,if_pos c1]
      simpa using g1
     ·rw[hes] at c1 hq2
      have hlt:q-m*s<us.length:=by
       have:=(List.getElem?_eq_some_iff.1 hq2).1
       omega
      refine ⟨us[q-m*s],?_,eO _ (by simp),(hrep _ _ d (by simp [hlt]) hq2).up gC (aF.of_same D) hdok⟩
      rw[List.append_assoc,List.getElem?_append_right (by omega),hol,List.getElem?_append_left hlt]
      simp [hlt]
    have hx':qC (w.drew.alloc (.cells ((vs'.toList.take (m*s)).toArray++us.toArray++Builtin.zeroCells z.cells (G-(m+es'.length))) E)) D (β.set k' w.heap.size) (.slice (some ⟨w.heap.size,0,none⟩) (m+es'.length) G) (.own k' E s (m+es'.length)):=by
     refine .inr ⟨w.heap.size,G,_,by simp [kY.set],rfl,heap_alloc_new w.drew _,?_,hge,hcm⟩
     rw[f3] at hol
     simp only[Array.size_append,List.size_toArray,size_zeroCells,hzs,hul,hol,<- Nat.add_mul]
     congr 1
     omega
    have this:APost a w D β o.dst k k' _ _ _ _:=⟨_,_,rfl,hblk',hx',.inl ⟨gC,Nat.le_refl _,by simp⟩⟩
    unfold Oper.wp execOp
    simp only[ho,resolve,invoke,builtin,Sem.run_bind,Sem.run_pure,Result.andThen_ok,List.map_toArray,List.map_cons,List.map_nil,hv,hyv,hr]
    exact this
end
def rowC(E:TypeId)(s:Nat):Nat->List (List jT)->List SV
 |_,[]=>[]
 |k,r::rs=>.own k E s r.length::rowC E s (k+1) rs
theorem mapCs_rowC(E:TypeId)(s k:Nat)(rows:List (List jT)):yQ (rowC E s k rows)=false:=by
 rcases rows with _ | ⟨a,_ | ⟨b,l⟩⟩<;>rfl
theorem blk_weak{w:World}{D:kV}{β:kY}{k:Nat}{cs cs':List SV}(h:uA w D β k cs)(hl:cs'.length=cs.length)(hx:∀ (i:Nat) (x:SV),cs'[i]?=some x->x=SV.junk\/cs[i]?=some x)(hm:yQ cs=false):uA w D β k cs':=by
 rcases h with h | ⟨b,vs,T,h1,h2,h3,h4,h5⟩
 ·obtain ⟨h1,h2⟩:=h.cells hm;exact .inl (.inl ⟨h1,List.eq_nil_of_length_eq_zero (by rw[hl,h2];rfl)⟩)
 ·refine .inr ⟨b,vs,T,h1,h2,by omega,fun i x hi=>?_,h5⟩
  have hlt:i<cs.length:=by have:=(List.getElem?_eq_some_iff.1 hi).1;omega
  obtain ⟨u,e1,e2,e3⟩:=h4 i _ (List.getElem?_eq_getElem hlt)
  rcases hx i x hi with rfl | h
  ·exact ⟨u,e1,e2,trivial⟩
  ·rw[List.getElem?_eq_getElem hlt] at h
   injection h with h
   exact ⟨u,e1,e2,h▸e3⟩
section
variable {P:Program} {o:Oper} {S:SL}
theorem nU{st:PS}{j k s m:Nat}{T:TypeId}{pre post cs:List SV}{es:List jT}(hj:jY st.bs j=some (pre++.own k T s m::post))(hjk:k≠j)(hb:jY st.bs k=some cs)(hes:∀ e∈es,e.cells.length=s)(hl:es.length=m)(hc:cs.take (m*s)=(kR es).map .d) :
  qQ st ⟨st.sl,(j,some (pre++.d (.sl T s es)::post))::(k,none)::st.bs⟩:=fun C a w ⟨D,β,h⟩=>by
 obtain ⟨D',h',hown⟩:=publish_core (T:=T) h hb hes hl hc
 have hj2:jY ((k,none)::st.bs) j=some (pre++.own k T s m::post):=by rw[jI,if_neg hjk];exact hj
 have conv:∀ {i c},jY ((j,some (pre++SV.d (.sl T s es)::post))::(k,none)::st.bs) i=some c->∃ c',jY ((k,none)::st.bs) i=some c':=fun {i c} hi=>by
  rw[jI] at hi
  split at hi
  ·rename_i e;subst e;exact ⟨_,hj2⟩
  ·exact ⟨c,hi⟩
 refine ⟨D',β,h'.base,⟨fun i c hi=>?_,fun i1 i2 c1 c2 q1 q2=>?_⟩,fun i c hi=>?_,h'.slots⟩
 ·rw[jI] at hi
  split at hi
  ·rename_i e;subst e
   injection hi with hi;subst hi
   rcases h'.mem.ok j _ hj2 with q | ⟨b,vs,T2,q1,q2,q3,q4,q5⟩
   ·obtain ⟨_,q⟩:=q.cells (mapCs_at (i:=pre.length) (by rw[List.getElem?_append_right (Nat.le_refl _),Nat.sub_self];rfl) rfl);simp at q
   ·refine .inr ⟨b,vs,T2,q1,q2,by simpa using q3,fun i x hx=>?_,q5⟩
    by_cases h1:i<pre.length
    ·rw[List.getElem?_append_left h1] at hx
     exact q4 i x (by rw[List.getElem?_append_left h1];exact hx)
    ·rw[List.getElem?_append_right (by omega)] at hx
     cases hq:i-pre.length with
     |zero=>
      rw[hq] at hx
      simp at hx
      subst hx
      obtain ⟨u,e1,e2,e3⟩:=q4 i (.own k T s m) (by rw[List.getElem?_append_right (by omega),hq];rfl)
      exact ⟨u,e1,e2,hown u D' e3⟩
     |succ q=>
      rw[hq] at hx
      exact q4 i x (by rw[List.getElem?_append_right (by omega),hq];simpa using hx)
  ·exact h'.mem.ok i c hi
 ·obtain ⟨d1,g1⟩:=conv q1
  obtain ⟨d2,g2⟩:=conv q2
  exact h'.mem.inj i1 i2 d1 d2 g1 g2
 ·obtain ⟨d,g⟩:=conv hi
  exact h'.high i d g
end
theorem sim_mask{S:SL}{B:BS}{j:Nat}{cs:List SV}(i:Nat)(hb:jY B j=some cs)(hm:yQ cs=false:=by first | exact gR _ | exact mapCs_rowC _ _ _ _ | kernel_rfl):qQ ⟨S,B⟩ ⟨S,(j,some (cs.set i .junk))::B⟩:=fun C a w ⟨D,β,hs⟩=>by
 have conv:∀ {q c},jY ((j,some (cs.set i SV.junk))::B) q=some c->∃ c',jY B q=some c':=fun {q c} hq=>by
  rw[jI] at hq
  split at hq
  ·rename_i e;subst e;exact ⟨_,hb⟩
  ·exact ⟨_,hq⟩
 refine ⟨D,β,hs.base,⟨fun q c hq=>?_,fun i1 i2 c1 c2 q1 q2=>?_⟩,fun q c hq=>?_,hs.slots⟩
 ·rw[jI] at hq
  split at hq
  ·rename_i e;subst e
   injection hq with hq;subst hq
   refine blk_weak (hs.mem.ok _ cs hb) (by simp) (fun q x hx=>?_) hm
   rw[List.getElem?_set] at hx
   split at hx
   ·split at hx
    ·injection hx with hx;exact .inl hx.symm
    ·cases hx
   ·exact .inr hx
  ·exact hs.mem.ok q c hq
 ·obtain ⟨d1,g1⟩:=conv q1
  obtain ⟨d2,g2⟩:=conv q2
  exact hs.mem.inj i1 i2 d1 d2 g1 g2
 ·obtain ⟨d,g⟩:=conv hq
  exact hs.high q d g
theorem ownCell{S:SL}{B:BS}{j:Nat}{cs:List SV}(i k E s:Nat)(hj:jY B j=some cs)(hi:cs[i]?=some (.d (.val (.slice none 0 0))))(hf:zU k ⟨S,B⟩=true) :
  qQ ⟨S,B⟩ ⟨S,(j,some (cs.set i (.own k E s 0)))::(k,some [])::B⟩:=fun C a w ⟨D,β,hs⟩=>by
 have hβ:∀ q,q≠k->(fun q=>if q=k then none else β q:kY) q=β q:=fun q hq=>by simp [hq]
 have hβ0:(fun q=>if q=k then none else β q:kY) k=none:=by simp
 generalize (fun q=>if q=k then none else β q:kY)=β' at hβ hβ0
 obtain ⟨hjk,hnm⟩:=fZ hf hj
 have conv:∀ {q c},q≠k->jY ((j,some (cs.set i (SV.own k E s 0)))::(k,some [])::B) q=some c->∃ c',jY B q=some c':=fun {q c} hne hq=>by
  rw[jI] at hq
  split at hq
  ·rename_i e;subst e;exact ⟨_,hj⟩
  ·rw[jI,if_neg (fun e=>hne e.symm)] at hq;exact ⟨_,hq⟩
 refine ⟨D,β',hs.base,⟨fun q c hq=>?_,fun i1 i2 c1 c2 q1 q2 b e1 e2=>?_⟩,fun q c hq b e=>?_,fun t=>(hs.slots t).frame hβ (bI hf t)⟩
 ·rw[jI] at hq
  split at hq
  ·rename_i e;subst e
   injection hq with hq;subst hq
   rcases hs.mem.ok _ cs hj with h | ⟨b,vs,T,h1,h2,h3,h4,h5⟩
   ·obtain ⟨h1,h2⟩:=h.cells (mapCs_at hi rfl);rw[h2] at hi;simp at hi
   ·refine .inr ⟨b,vs,T,(hβ _ hjk).trans h1,h2,by simpa using h3,fun q x hx=>?_,h5⟩
    rw[List.getElem?_set] at hx
    split at hx
    ·rename_i e;subst e
     split at hx
     ·injection hx with hx;subst hx
      obtain ⟨u,e1,e2,e3⟩:=h4 i _ hi
      exact ⟨u,e1,e2,.inl ⟨hβ0,rfl,uO e3⟩⟩
     ·cases hx
    ·obtain ⟨u,e1,e2,e3⟩:=h4 q x hx
     exact ⟨u,e1,e2,e3.frame hβ (fO hnm hx)⟩
  ·rw[jI] at hq
   split at hq
   ·rename_i e;subst e
    injection hq with hq;subst hq
    exact .inl (.inl ⟨hβ0,rfl⟩)
   ·obtain ⟨g1,g2⟩:=fZ hf hq
    exact (hs.mem.ok q c hq).frame hβ g1 g2
 ·have n1:i1≠k:=fun e=>by rw[e,hβ0] at e1;cases e1
  have n2:i2≠k:=fun e=>by rw[e,hβ0] at e2;cases e2
  obtain ⟨d1,g1⟩:=conv n1 q1
  obtain ⟨d2,g2⟩:=conv n2 q2
  exact hs.mem.inj i1 i2 d1 d2 g1 g2 b ((hβ _ n1).symm.trans e1) ((hβ _ n2).symm.trans e2)
 ·have n1:q≠k:=fun e'=>by rw[e',hβ0] at e;cases e
  obtain ⟨d,g⟩:=conv n1 hq
  exact hs.high q d g b ((hβ _ n1).symm.trans e)
theorem dH{P:Program}{n:Fr}{c:Code}{Q:Exit->PS->Prop}{S:SL}{B:BS}(j i k E s:Nat){cs:List SV}(hj:jY B j=some cs:=by kernel_rfl)(hi:cs[i]?=some (.d (.val (.slice none 0 0))):=by kernel_rfl)(h1:(S.all fun p=>!p.2.names k)=true:=by kernel_rfl)
  (h2:FrB k B:=by repeat first | exact frb_nil _ | refine frb_map rfl ?_ | refine frb_d rfl ?_ | refine frb_cs rfl rfl ?_ | refine frb_none rfl ?_) (h:dR P n c Q ⟨S,(j,some (cs.set i (.own k E s 0)))::(k,some [])::B⟩):dR P n c Q ⟨S,B⟩ :=
 kM (ownCell i k E s hj hi (freshB_of h1 h2)) h
section
variable {P:Program} {n:Fr} {ops:Array Oper} {K:SL->BS->Prop} {S:SL} {B:BS} {l:List Oper} {o:Oper} {α:Type} {T E t':TypeId} {x y:Operand} {k s m bytes:Nat} {zv:List Value}
theorem zAm(j i:Nat){cs:List SV}(F:α->jT)(L L':List α)(hL:L.length=m)(hT:uB P T=some (E,1))(hz:vP P E=some zv)(hby:vJ P E=some bytes)(r:SK P n ops K ((dO o,.own k E 1 (L++L').length)::yL k S) ((k,some ((L++L').map (fun g=>SV.d (F g))))::(j,some (cs.set i .junk))::B) l)
  (ho:o.op=.call { callee:=.builtin .append,args:=#[x,y],argTypes:=#[T,T] }:=by exact rfl) (g:goK n ops S o=true:=by kernel_rfl) (hx:ev (kA S) x=.own k E 1 m:=by exact rfl) (hj:jY B j=some cs:=by exact rfl) (hjk:Nat.beq j k=false:=by kernel_rfl) (hb:jY B k=some (L.map (fun g=>SV.d (F g))):=by kernel_rfl) (hy:ev (kA S) y=.d (.sl t' 1 (L'.map F)):=by exact rfl) (hF:∀ g,(F g).cells=[F g]:=by intro g;kernel_rfl) (hzl:zv.length=1:=by kernel_rfl)
  (hbig:m+L'.length<=maxLen:=by first | (simp only[List.length_cons,List.length_nil,maxLen];omega) | (simp [maxLen];omega)) (hbig':(m+L'.length)*bytes<=140737488355328:=by first | omega | (simp only[List.length_cons,List.length_nil];omega) | (simp;omega))
  (hm:kZ k (cs.set i .junk)=false:=by kernel_rfl) (hB:Clr k ((j,none)::B):=by refine yP ?_;repeat first | exact mQ _ | refine nB ?_ | refine cQ ?_ | refine yP ?_ | refine fL ?_ | refine clr_d ?_) (hmc:yQ cs=false:=by first | exact gR _ | kernel_rfl):SK P n ops K S B (o::l):=by
 obtain ⟨hd,hg,hdB⟩:=zI g
 have hne:j≠k:=dL hjk
 refine zX (S1:=(dO o,.own k E 1 (L++L').length)::yL k S) (B1:=(k,some ((L++L').map (fun g=>SV.d (F g))))::(j,some (cs.set i .junk))::B) (fun C a w Q hn hs=>?_) hg r
 have hs':=sim_mask i hj hmc C a w hs
 have:=app_sound (st:=⟨S,(j,some (cs.set i .junk))::B⟩) (N:=n) (es:=L.map F) (es':=L'.map F) ho (by rw[hd];exact hdB) hT hz hzl hby hx (by show jY ((j,_)::B) k=_;rw[jI,if_neg hne];exact hb) (by rw[flat_one F hF,List.map_map];rfl) (by rw[flat_one F hF,List.length_map,hL,Nat.mul_one]) hy (by simpa using hbig) (by simpa using hbig') (fun q c hq hc=>by
  dsimp only at hc
  rw[jI] at hc
  split at hc
  ·injection hc with hc;subst hc;exact hm
  ·rename_i e;exact hB q c hq (by rw[jI,if_neg e];exact hc)) C a w Q hn hs'
 have e1:(kR (L.map F++L'.map F)).map SV.d=(L++L').map (fun g=>SV.d (F g)):=by rw[<- List.map_append,flat_one F hF,List.map_map];rfl
 have e2:m+(L'.map F).length=(L++L').length:=by rw[List.length_map,List.length_append,hL]
 rw[hd,e1,e2] at this
 exact this
theorem oSx{k j E s N off:Nat}{old:List SV}(hs:qD P T=some (false,1))(ho:o.op=.store T x y:=by exact rfl)(hx:ev (kA S) x=.ref k off:=by exact rfl)(hy:ev (kA S) y=.own j E s N:=by exact rfl)(hb:jY B k=some old:=by exact rfl)(hle:Nat.ble (off+1) old.length=true:=by kernel_rfl)(hm:yQ old=false:=by first | exact gR _ | kernel_rfl):TK P o S B k (patch old off [.own j E s N]) :=
 ⟨_,t_store ho hx hy hs (.inr ⟨⟨j,E,s,N,rfl⟩,rfl⟩) rfl (Nat.le_of_ble_eq_true hle) hm,hb⟩
variable {news:List Nat} {acc0:List (List Nat × List Nat)}
end
def swN(k k' j:Nat):Nat:=bif Nat.beq j k then k' else j
def SV.sw(k k':Nat):SV->SV
 |.ref j o=>.ref (swN k k' j) o
 |.own j t s n=>.own (swN k k' j) t s n
 |.view j o n=>.view (swN k k' j) o n
 |.clo f ks=>.clo f (ks.map (swN k k'))
 |.pr j t s n x=>.pr (swN k k' j) t s n x
 |.refx j o b=>.refx (swN k k' j) o b
 |.mpx j b=>.mpx (swN k k' j) b
 |.bnd f j o=>.bnd f (swN k k' j) o
 |.ownx j t s n u=>.ownx (swN k k' j) t s n u
 |.mp j=>.mp (swN k k' j)
 |x=>x
theorem swN_eq(k k':Nat):swN k k' k=k':=by simp [swN]
theorem aM{k k' j:Nat}(h:j≠k):swN k k' j=j:=by
 have:Nat.beq j k=false:=by rw[<- Bool.not_eq_true];exact fun e=>h (Nat.eq_of_beq_eq_true e)
 simp [swN,this]
theorem sw_mos{k k':Nat}{cs:List SV}{ob:Obj}(h:cs.map (SV.sw k k')=[.mo ob]):cs=[.mo ob]:=by
 rcases cs with _ | ⟨x,_ | ⟨y,l⟩⟩
 ·cases h
 ·simp only[List.map_cons,List.map_nil,List.cons.injEq,and_true] at h
  have:x=.mo ob:=by cases x<;>first | exact h | cases h
  rw[this]
 ·simp at h
theorem qC.sw{w:World}{D:kV}{β:kY}{k k':Nat}{v:Value}{x:SV}(h:qC w D β v (x.sw k k')):qC w D (fun j=>β (swN k k' j)) v x:=by
 cases x with
 |d x=>exact h
 |ref j o=>exact h
 |own j t s n=>exact h
 |clo f ks=>
  obtain ⟨vs,h1,h2,h3⟩:=h
  exact ⟨vs,h1,by simpa using h2,fun i j hj=>h3 i (swN k k' j) (by rw[List.getElem?_map,hj];rfl)⟩
 |emp=>exact h
 |view j o n=>exact h
 |mp j=>exact h
 |mo ob=>exact h
 |pr j t s n x=>exact h
 |refx j o b=>exact h
 |mpx j b=>exact h
 |bnd f j o=>exact h
 |ownx j t s n u=>exact h
 |junk=>trivial
theorem sw_of{k k':Nat}{x:SV}(h:x.names k=false):x.sw k k'=x:=by
 have key:∀ j,Nat.beq k j=false->swN k k' j=j:=fun j hj=>aM (fun e=>by subst e;simp at hj)
 cases x with
 |ref j o=>simp only[SV.sw];rw[key j h]
 |own j t s n=>simp only[SV.sw];rw[key j h]
 |view j o n=>simp only[SV.sw];rw[key j h]
 |clo f ks=>
  simp only[SV.sw]
  simp only[SV.names,List.any_eq_false] at h
  have:ks.map (swN k k')=ks:=by
   conv=>rhs;rw[<- List.map_id ks]
   exact List.map_congr_left fun j hj=>key j (by rw[<- Bool.not_eq_true];exact h j hj)
  rw[this]
 |d x=>rfl
 |emp=>rfl
 |mp j=>simp only[SV.sw];rw[key j h]
 |mo ob=>rfl
 |pr j t s n x=>simp only[SV.sw];rw[key j h]
 |refx j o b=>simp only[SV.sw];rw[key j h]
 |mpx j b=>simp only[SV.sw];rw[key j h]
 |bnd f j o=>simp only[SV.sw];rw[key j h]
 |ownx j t s n u=>simp only[SV.sw];rw[key j h]
 |junk=>rfl
theorem sim_ren{S S':SL}{B B':BS}(k k':Nat)(h1:S'.map (fun p=>kA S p.1)=S'.map (fun p=>p.2.sw k k'):=by kernel_rfl)(h2:B'.map (fun p=>jY B (swN k k' p.1))=B'.map (·.2):=by kernel_rfl)(h3:(B'.all fun p=>!(Nat.beq p.1 k'))=true:=by kernel_rfl)
  (h4:Clr k ((k,none)::B):=by repeat first | exact mQ _ | refine nB ?_ | refine cQ ?_ | refine yP ?_ | refine fL ?_ | refine clr_d ?_ | refine cX rfl ?_) (h5:jY B k=none:=by kernel_rfl):qQ ⟨S,B⟩ ⟨S',B'⟩:=fun C a w ⟨D,β,hs⟩=>by
 have hget:∀ {l:BS},(l.map (fun p=>jY B (swN k k' p.1))=l.map (·.2))->∀ {j c},jY l j=some c->jY B (swN k k' j)=some c:=by
  intro l
  induction l with
  |nil=>intro _ j c h;simp [jY] at h
  |cons p l ih=>
   intro hl j c hj
   obtain ⟨q,y⟩:=p
   simp only[List.map_cons,List.cons.injEq] at hl
   rw[jI] at hj
   split at hj
   ·rename_i e;subst e;rw[hl.1];exact hj
   ·exact ih hl.2 hj
 have hkey:∀ {l:BS},((l.all fun p=>!(Nat.beq p.1 k'))=true)->∀ {j c},jY l j=some c->j≠k':=by
  intro l
  induction l with
  |nil=>intro _ j c h;simp [jY] at h
  |cons p l ih=>
   intro hl j c hj e
   obtain ⟨q,y⟩:=p
   simp only[List.all_cons,Bool.and_eq_true,Bool.not_eq_true'] at hl
   rw[jI] at hj
   split at hj
   ·rename_i e2;subst e2;subst e;simp at hl
   ·exact ih hl.2 hj e
 have hnk:∀ {j c},jY B j=some c->j≠k/\kZ k c=false:=fun {j c} hj=>by
  have hne:j≠k:=fun e=>by subst e;rw[h5] at hj;cases hj
  exact ⟨hne,h4 j c hne (by rw[jI,if_neg (fun e=>hne e.symm)];exact hj)⟩
 have hsl:∀ {l:SL},(l.map (fun p=>kA S p.1)=l.map (fun p=>p.2.sw k k'))->∀ t,kA l t=.junk\/kA S t=(kA l t).sw k k':=by
  intro l
  induction l with
  |nil=>intro _ t;exact .inl rfl
  |cons p l ih=>
   intro hl t
   obtain ⟨q,y⟩:=p
   simp only[List.map_cons,List.cons.injEq] at hl
   rw[qM]
   split
   ·rename_i e;subst e;exact .inr hl.1
   ·exact ih hl.2 t
 refine ⟨D,fun j=>β (swN k k' j),hs.base,⟨fun j c hj=>?_,fun j1 j2 c1 c2 q1 q2 b e1 e2=>?_⟩,fun j c hj b hb=>hs.high _ c (hget h2 hj) b hb,fun t=>?_⟩
 ·have hc:=hget h2 hj
  obtain ⟨_,hn⟩:=hnk hc
  rcases hs.mem.ok _ c hc with h | ⟨b,vs,T,g1,g2,g3,g4,g5⟩
  ·rcases h with h | ⟨b,ob,h⟩
   ·exact .inl (.inl h)
   ·exact .inl (.inr ⟨b,ob,h⟩)
  ·refine .inr ⟨b,vs,T,g1,g2,g3,fun i x hi=>?_,g5⟩
   obtain ⟨u,e1,e2,e3⟩:=g4 i x hi
   exact ⟨u,e1,e2,qC.sw (by rw[sw_of (fO hn hi)];exact e3)⟩
 ·have:=hs.mem.inj _ _ c1 c2 (hget h2 q1) (hget h2 q2) b e1 e2
  have n1:=hkey h3 q1
  have n2:=hkey h3 q2
  by_cases g1:j1=k<;>by_cases g2:j2=k
  ·omega
  ·subst g1;rw[swN_eq,aM g2] at this;omega
  ·subst g2;rw[swN_eq,aM g1] at this;omega
  ·rw[aM g1,aM g2] at this;exact this
 ·show qC w D _ _ (kA S' t)
  rcases hsl h1 t with h | h
  ·rw[h];trivial
  ·have:=hs.slots t
   dsimp only at this
   rw[h] at this
   exact this.sw
section
variable {P:Program}
end
section
variable {P:Program} {o:Oper} {S:Nat->SV}
end
section
variable {P:Program}
end
section
variable {P:Program} {o:Oper} {S:Nat->SV}
end
section
variable {P:Program} {n:Fr} {ops:Array Oper} {K:SL->BS->Prop} {S S0 S1:SL} {B B0 B1:BS} {l:List Oper} {o:Oper} {D:SL}
theorem zOh(k E s:Nat)(r:SK P n ops K ((dO o,.own k E s 0)::S) ((k,some [])::B) l)(h:nilK o=true:=by kernel_rfl)(g:goK n ops S o=true:=by kernel_rfl)(h1:(S.all fun p=>!p.2.names k)=true:=by kernel_rfl)
  (h2:FrB k B:=by repeat first | exact frb_nil _ | refine frb_map rfl ?_ | refine frb_d rfl ?_ | refine frb_cs rfl rfl ?_ | refine frb_none rfl ?_):SK P n ops K S B (o::l):=zO k E s r h g (freshB_of h1 h2)
end
def swJ(k k' J j:Nat)(c:List SV):List SV:=bif Nat.beq j J then c.map (SV.sw k k') else c
theorem sim_ren2{S S':SL}{B B':BS}(k k' J:Nat)(h1:S'.map (fun p=>kA S p.1)=S'.map (fun p=>p.2.sw k k'):=by kernel_rfl)(h2:B'.map (fun p=>jY B (swN k k' p.1))=B'.map (fun p=>p.2.map (swJ k k' J p.1)):=by kernel_rfl)(h3:(B'.all fun p=>!(Nat.beq p.1 k'))=true:=by kernel_rfl)
  (h4:Clr k ((k,none)::B):=by repeat first | exact mQ _ | refine nB ?_ | refine cQ ?_ | refine yP ?_ | refine fL ?_ | refine clr_d ?_ | refine cX rfl ?_) (h5:jY B k=none:=by kernel_rfl):qQ ⟨S,B⟩ ⟨S',B'⟩:=fun C a w ⟨D,β,hs⟩=>by
 have hget:∀ {l:BS},(l.map (fun p=>jY B (swN k k' p.1))=l.map (fun p=>p.2.map (swJ k k' J p.1)))->∀ {j c},jY l j=some c->jY B (swN k k' j)=some (swJ k k' J j c):=by
  intro l
  induction l with
  |nil=>intro _ j c h;simp [jY] at h
  |cons p l ih=>
   intro hl j c hj
   obtain ⟨q,y⟩:=p
   simp only[List.map_cons,List.cons.injEq] at hl
   rw[jI] at hj
   split at hj
   ·rename_i e;subst e;subst hj;rw[hl.1];rfl
   ·exact ih hl.2 hj
 have hkey:∀ {l:BS},((l.all fun p=>!(Nat.beq p.1 k'))=true)->∀ {j c},jY l j=some c->j≠k':=by
  intro l
  induction l with
  |nil=>intro _ j c h;simp [jY] at h
  |cons p l ih=>
   intro hl j c hj e
   obtain ⟨q,y⟩:=p
   simp only[List.all_cons,Bool.and_eq_true,Bool.not_eq_true'] at hl
   rw[jI] at hj
   split at hj
   ·rename_i e2;subst e2;subst e;simp at hl
   ·exact ih hl.2 hj e
 have hnk:∀ {j c},jY B j=some c->j≠k/\kZ k c=false:=fun {j c} hj=>by
  have hne:j≠k:=fun e=>by subst e;rw[h5] at hj;cases hj
  exact ⟨hne,h4 j c hne (by rw[jI,if_neg (fun e=>hne e.symm)];exact hj)⟩
 have hsl:∀ {l:SL},(l.map (fun p=>kA S p.1)=l.map (fun p=>p.2.sw k k'))->∀ t,kA l t=.junk\/kA S t=(kA l t).sw k k':=by
  intro l
  induction l with
  |nil=>intro _ t;exact .inl rfl
  |cons p l ih=>
   intro hl t
   obtain ⟨q,y⟩:=p
   simp only[List.map_cons,List.cons.injEq] at hl
   rw[qM]
   split
   ·rename_i e;subst e;exact .inr hl.1
   ·exact ih hl.2 t
 refine ⟨D,fun j=>β (swN k k' j),hs.base,⟨fun j c hj=>?_,fun j1 j2 c1 c2 q1 q2 b e1 e2=>?_⟩,fun j c hj b hb=>hs.high _ _ (hget h2 hj) b hb,fun t=>?_⟩
 ·have hc:=hget h2 hj
  obtain ⟨_,hn⟩:=hnk hc
  rcases hs.mem.ok _ _ hc with (⟨h,h'⟩ | ⟨b,ob,h,h2,h3,h',h5⟩) | ⟨b,vs,T,g1,g2,g3,g4,g5⟩
  ·refine .inl (.inl ⟨h,?_⟩)
   unfold swJ at h'
   cases hJ:Nat.beq j J with
   |true=>rw[hJ,cond_true,List.map_eq_nil_iff] at h';exact h'
   |false=>rw[hJ,cond_false] at h';exact h'
  ·refine .inl (.inr ⟨b,ob,h,h2,h3,?_,h5⟩)
   unfold swJ at h'
   cases hJ:Nat.beq j J with
   |true=>rw[hJ,cond_true] at h';exact sw_mos h'
   |false=>rw[hJ,cond_false] at h';exact h'
  ·unfold swJ at hn g3 g4
   cases hJ:Nat.beq j J with
   |true=>
    rw[hJ,cond_true] at g3 g4
    refine .inr ⟨b,vs,T,g1,g2,by simpa using g3,fun i x hi=>?_,g5⟩
    obtain ⟨u,e1,e2,e3⟩:=g4 i (x.sw k k') (by rw[List.getElem?_map,hi];rfl)
    exact ⟨u,e1,e2,qC.sw e3⟩
   |false=>
    rw[hJ,cond_false] at hn g3 g4
    refine .inr ⟨b,vs,T,g1,g2,g3,fun i x hi=>?_,g5⟩
    obtain ⟨u,e1,e2,e3⟩:=g4 i x hi
    exact ⟨u,e1,e2,qC.sw (by rw[sw_of (fO hn hi)];exact e3)⟩
 ·have:=hs.mem.inj _ _ _ _ (hget h2 q1) (hget h2 q2) b e1 e2
  have n1:=hkey h3 q1
  have n2:=hkey h3 q2
  by_cases g1:j1=k<;>by_cases g2:j2=k
  ·omega
  ·subst g1;rw[swN_eq,aM g2] at this;omega
  ·subst g2;rw[swN_eq,aM g1] at this;omega
  ·rw[aM g1,aM g2] at this;exact this
 ·show qC w D _ _ (kA S' t)
  rcases hsl h1 t with h | h
  ·rw[h];trivial
  ·have:=hs.slots t
   dsimp only at this
   rw[h] at this
   exact this.sw
end Go.Fid
