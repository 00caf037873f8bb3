/- Part 19 of a proof: rules, plain facts, and functions walked. -/
import Derived.Test.YtciingpdmjepgaaGreatM13
import Derived.Test.YtciingpdmjepgaaGreatM12
import Derived.Test.YtciingpdmjepgaaGreatM18
import Derived.Test.YtciingpdmjepgaaGreatM11
set_option linter.all false
set_option maxRecDepth 4000
namespace Go.Fid
open Go.RowKit (Below)
section
variable {P:Program} {o:Oper} {S:Nat->SV}
theorem e_mkf{f:FuncId}{ks:List Nat}{caps:List Operand}(ho:o.op=.makeFunc (.func f) #[] caps.toArray)(hx:caps.map (ev S)=ks.map (fun k=>.ref k 0)):qU P o S [] (.clo f ks) :=
 qU.same fun a w D β hop _=>by
  refine ⟨.func (.func f) #[] (caps.map a.eval).toArray,?_,caps.map a.eval,rfl,?_,fun i k hk=>?_⟩
  ·simp only[execOp,ho,Instr.makeFunc,Array.map_empty,List.map_toArray,Sem.run_bind,Sem.run_pure,Result.andThen_ok]
   rfl
  ·simpa using congrArg List.length hx
  ·have hi:=congrArg (fun l:List SV=>l[i]?) hx
   simp only[List.getElem?_map,hk,Option.map_some,Option.map_eq_some_iff] at hi
   obtain ⟨c,hc,e⟩:=hi
   have hm:=hop c (by simp [ho,Op.operands,List.mem_of_getElem? hc])
   rw[e] at hm
   obtain ⟨b,h1,h2⟩:=hm
   exact ⟨b,h1,by rw[List.getElem?_map,hc,Option.map_some,h2]⟩
theorem oMf{f:FuncId}{caps:List Operand}(ks:List Nat)(ho:o.op=.makeFunc (.func f) #[] caps.toArray:=by exact rfl)(hx:caps.map (ev S)=ks.map (fun k=>.ref k 0):=by kernel_rfl):qU P o S [] (.clo f ks):=e_mkf ho hx
end
def RKs(P:Program)(o:Oper)(S:SL)(B:BS)(ks:List Nat)(x:SV):Prop:=∃ rd:List (Nat × List SV),rd.map (·.1)=ks/\qU P o (jR S) rd x/\∀ p∈rd,jV B p.1=some p.2
section
variable {P:Program} {n:Fr} {ops:Array Oper} {K:SL->BS->Prop} {S:SL} {B:BS} {l:List Oper} {o:Oper} {news:List Nat} {acc0:List (List Nat × List Nat)}
theorem zC{ks:List Nat}{x:SV}(h:RKs P o S B ks x)(r:SK P n ops K ((dO o,x)::S) B l)(g:goK n ops S o=true:=by kernel_rfl):SK P n ops K S B (o::l):=by
 obtain ⟨st1,r1,r2⟩:=r
 obtain ⟨rd,_,h,hbk⟩:=h
 obtain ⟨hd,hg,hb⟩:=xK g
 have hs:=Step.e (P:=P) (n:=n) (ops:=ops) (st:=⟨S,B⟩) (o:=o) h hg (by rw[hd];exact hb) hbk
 rw[hd] at hs
 exact ⟨st1,.cons hs r1,r2⟩
end
inductive CArgs (bl:List (Nat × List jW)):List Nat->List (List jW)->Prop
 |nil:CArgs bl [] []
 |cons {k:Nat} {cs:List jW} {ks:List Nat} {css:List (List jW)} (hk:(k,cs)∈bl) (h:CArgs bl ks css):CArgs bl (k::ks) (cs::css)
theorem CArgs.len{bl:List (Nat × List jW)}{ks:List Nat}{css:List (List jW)}(h:CArgs bl ks css):ks.length=css.length:=by
 induction h with
 |nil=>rfl
 |cons hk h ih=>simp [ih]
theorem CArgs.get{bl:List (Nat × List jW)}{ks:List Nat}{css:List (List jW)}(h:CArgs bl ks css):∀ (i:Nat) k cs,ks[i]?=some k->css[i]?=some cs->(k,cs)∈bl:=by
 induction h with
 |nil=>intro i k cs h;simp at h
 |cons hk h ih=>
  intro i k cs h1 h2
  rcases i with _ | i
  ·simp at h1 h2;subst h1;subst h2;exact hk
  ·exact ih i k cs (by simpa using h1) (by simpa using h2)
inductive eB (bl:List (Nat × List jW)) (E:TypeId):List SV->List jW->Prop
 |nil:eB bl E [] []
 |d {x:jW} {zs:List SV} {ds:List jW} (h:eB bl E zs ds):eB bl E (.d x::zs) (x::ds)
 |v {k q n s:Nat} {cs es:List jW} {zs:List SV} {ds:List jW} (hk:(k,cs)∈bl) (hes:∀ e∈es,e.cells.length=s) (hl:es.length=n) (hc:(cs.drop q).take (n*s)=flat es) (h:eB bl E zs ds):eB bl E (.view k q n::zs) (.sl E s es::ds)
 |p {k o:Nat} {cs:List jW} {zs:List SV} {ds:List jW} (hk:(k,cs)∈bl) (h:eB bl E zs ds):eB bl E (.ref k o::zs) (.cptr E cs o::ds)
 |c {f:FuncId} {ks:List Nat} {css:List (List jW)} {zs:List SV} {ds:List jW} (hk:CArgs bl ks css) (h:eB bl E zs ds):eB bl E (.clo f ks::zs) (.clo f (css.map fun cs=>.cptr E cs 0)::ds)
theorem eB.len{bl:List (Nat × List jW)}{E:TypeId}{zs:List SV}{ds:List jW}(h:eB bl E zs ds):zs.length=ds.length:=by
 induction h with
 |nil=>rfl
 |d h ih=>simp [ih]
 |v hk hes hl hc h ih=>simp [ih]
 |p hk h ih=>simp [ih]
 |c hk h ih=>simp [ih]
theorem eB.rep{bl:List (Nat × List jW)}{E:TypeId}{zs:List SV}{ds:List jW}(h:eB bl E zs ds){w:World}{D D':kN}{β:kT}(h1:∀ v x,uC w D v x->uC w D' v x)
  (h2:∀ (k q n s:Nat) (cs es:List jW) (v:Value),(k,cs)∈bl->(∀ e∈es,e.cells.length=s)->es.length=n->(cs.drop q).take (n*s)=flat es->qF w D β v (.view k q n)->uC w D' v (.sl E s es))
  (h3:∀ (k o:Nat) (cs:List jW) (v:Value),(k,cs)∈bl->qF w D β v (.ref k o)->uC w D' v (.cptr E cs o)) :
  ∀ (vs:List Value),vs.length=zs.length->(∀ (i:Nat) v x,vs[i]?=some v->zs[i]?=some x->qF w D β v x)->∀ (i:Nat) v d,vs[i]?=some v->ds[i]?=some d->uC w D' v d:=by
 induction h with
 |nil=>intro vs _ _ i v d _ hd;simp at hd
 |d h ih=>
  intro vs hl hr i v d' hv hd
  rcases vs with _ | ⟨v0,vs⟩
  ·simp at hl
  ·rcases i with _ | i
   ·simp at hv hd;subst hv;subst hd;exact h1 _ _ (hr 0 _ _ rfl rfl)
   ·exact ih vs (by simpa using hl) (fun i v x h3 h4=>hr (i+1) v x (by simpa using h3) (by simpa using h4)) i v d' (by simpa using hv) (by simpa using hd)
 |v hk hes hl' hc h ih=>
  intro vs hl hr i v d' hv hd
  rcases vs with _ | ⟨v0,vs⟩
  ·simp at hl
  ·rcases i with _ | i
   ·simp at hv hd;subst hv;subst hd;exact h2 _ _ _ _ _ _ _ hk hes hl' hc (hr 0 _ _ rfl rfl)
   ·exact ih vs (by simpa using hl) (fun i v x h3 h4=>hr (i+1) v x (by simpa using h3) (by simpa using h4)) i v d' (by simpa using hv) (by simpa using hd)
 |p hk h ih=>
  intro vs hl hr i v d' hv hd
  rcases vs with _ | ⟨v0,vs⟩
  ·simp at hl
  ·rcases i with _ | i
   ·simp at hv hd;subst hv;subst hd;exact h3 _ _ _ _ hk (hr 0 _ _ rfl rfl)
   ·exact ih vs (by simpa using hl) (fun i v x h3 h4=>hr (i+1) v x (by simpa using h3) (by simpa using h4)) i v d' (by simpa using hv) (by simpa using hd)
 |c hk h ih=>
  intro vs hl hr i v d' hv hd
  rcases vs with _ | ⟨v0,vs⟩
  ·simp at hl
  ·rcases i with _ | i
   ·simp at hv hd;subst hv;subst hd
    obtain ⟨us,e1,e2,e3⟩:=hr 0 _ _ rfl rfl
    rw[e1]
    refine .clo us (by rw[e2,hk.len,List.length_map]) fun j u d hu hd=>?_
    rw[List.getElem?_map,Option.map_eq_some_iff] at hd
    obtain ⟨cs,hcs,rfl⟩:=hd
    have hlt:j<_:=(List.getElem?_eq_some_iff.1 hcs).1
    rw[<- hk.len] at hlt
    obtain ⟨b,g1,g2⟩:=e3 j _ (List.getElem?_eq_getElem hlt)
    rw[hu] at g2
    injection g2 with g2
    exact h3 _ 0 cs u (hk.get j _ cs (List.getElem?_eq_getElem hlt) hcs) ⟨b,g1,g2⟩
   ·exact ih vs (by simpa using hl) (fun i v x h3 h4=>hr (i+1) v x (by simpa using h3) (by simpa using h4)) i v d' (by simpa using hv) (by simpa using hd)
theorem blk_pub{w:World}{D:kN}{β:kT}{bl:List (Nat × List jW)}{E:TypeId}(hD:DOk D w)(hbl:∀ p∈bl,uH w D β p.1 (p.2.map SV.d)) :
  ∃ X:TypeId->Nat->Nat->Prop,DOk (fun t g i=>D t g i\/X t g i) w/\(∀ t g i,X t g i->t=E/\∀ t' i',¬ D t' g i') /\
   (∀ (k q n s:Nat) (cs es:List jW) (v:Value),(k,cs)∈bl->(∀ e∈es,e.cells.length=s)->es.length=n->(cs.drop q).take (n*s)=flat es->qF w D β v (.view k q n)->uC w (fun t g i=>D t g i\/X t g i) v (.sl E s es)) /\
   (∀ (k o:Nat) (cs:List jW) (v:Value),(k,cs)∈bl->qF w D β v (.ref k o)->uC w (fun t g i=>D t g i\/X t g i) v (.cptr E cs o)):=by
 let X:TypeId->Nat->Nat->Prop:=fun t g _=>t=E/\∃ p∈bl,β p.1=some g
 have hcap:∀ p∈bl,∀ b,β p.1=some b->∃ us T',w.heap[b]?=some (.cells us T' (0,0))/\(∀ (j:Nat) x,(p.2.map SV.d)[j]?=some x->∃ u,us[j]?=some u/\u.oneCell'=true/\qF w D β u x)/\∀ t o,¬ D t b o:=fun p hp b hb=>by
  rcases hbl p hp with g1 | ⟨b',us,T',g1,g2,g3,g4,g5⟩
  ·have g1:=(g1.cells (hO _)).1;rw[hb] at g1;cases g1
  ·obtain rfl:b=b':=by rw[hb] at g1;injection g1
   exact ⟨us,T',g2,g4,g5⟩
 have hmono:∀ t' g i,D t' g i->(D t' g i\/X t' g i)/\w.cell? ⟨g,i,none⟩=w.cell? ⟨g,i,none⟩:=fun t' g i hd=>⟨.inl hd,rfl⟩
 refine ⟨X,hD.more (fun _ _ _ hd=>.inl hd) fun t g i hd=>?_,fun t g i ⟨h1,p,hp,hb⟩=>?_,?_,?_⟩
 ·rcases hd with hd | ⟨_,p,hp,hb⟩
  ·exact hD.lt _ _ _ hd
  ·obtain ⟨us,T',g2,_,_⟩:=hcap p hp g hb;exact qR g2
 ·obtain ⟨us,T',_,_,g5⟩:=hcap p hp g hb
  exact ⟨h1,fun t' i'=>g5 t' i'⟩
 ·intro k q n s cs es v hk hes hl hc hv
  obtain ⟨b,cap,h1,h2,h5,h6⟩:=hv
  obtain ⟨us,T',g2,g4,g5⟩:=hcap (k,cs) hk b h1
  rw[h2]
  have hfl:=uN hes
  have hcell:∀ i,w.cell? ⟨b,i,none⟩=us[i]?:=fun i=>cell_of_row w b i us T' (0,0) g2
  have key:∀ (i:Nat) d,(flat es)[i]?=some d->∃ u,us[q+i]?=some u/\u.oneCell'=true/\uC w D u d:=fun i d hd=>by
   have hi:i<n*s:=by
    have:=(List.getElem?_eq_some_iff.1 hd).1
    rw[hfl,hl] at this;exact this
   have e1:cs[q+i]?=some d:=by
    rw[<- hc,List.getElem?_take_of_lt hi,List.getElem?_drop] at hd
    exact hd
   exact g4 _ (.d d) (by rw[List.getElem?_map,e1];rfl)
  refine uC.sl b q (fun i=>us.getD (q+i) undef) hl.symm h5 h6 hes (fun _=>rfl) (fun i hi=>.inr ⟨rfl,_,hk,h1⟩) (fun i hi=>?_) (fun i hi=>?_) (fun i d hd=>?_)
  ·obtain ⟨x,q1,q2,q3⟩:=key i _ (List.getElem?_eq_getElem hi)
   rw[hcell,Array.getD_eq_getD_getElem?,q1];rfl
  ·obtain ⟨x,q1,q2,q3⟩:=key i _ (List.getElem?_eq_getElem hi)
   rw[Array.getD_eq_getD_getElem?,q1];exact q2
  ·obtain ⟨x,q1,q2,q3⟩:=key i d hd
   rw[Array.getD_eq_getD_getElem?,q1]
   exact uC.mono hmono q3
 ·intro k o cs v hk hv
  obtain ⟨b,h1,h2⟩:=hv
  obtain ⟨us,T',g2,g4,g5⟩:=hcap (k,cs) hk b h1
  rw[h2]
  have hcell:∀ i,w.cell? ⟨b,i,none⟩=us[i]?:=fun i=>cell_of_row w b i us T' (0,0) g2
  have key:∀ (i:Nat) d,cs[i]?=some d->∃ u,us[i]?=some u/\u.oneCell'=true/\uC w D u d:=fun i d hd=>g4 _ (.d d) (by rw[List.getElem?_map,hd];rfl)
  have hp:=uC.cptr (w:=w) (D:=fun t g i=>D t g i\/X t g i) (t:=E) (cs:=cs) (off:=o) b 0 (fun i=>us.getD i undef) (fun i hi=>.inr ⟨rfl,_,hk,h1⟩) (fun i hi=>by
   obtain ⟨x,q1,q2,q3⟩:=key i _ (List.getElem?_eq_getElem hi)
   rw[Nat.zero_add,hcell,Array.getD_eq_getD_getElem?,q1];rfl) (fun i hi=>by
   obtain ⟨x,q1,q2,q3⟩:=key i _ (List.getElem?_eq_getElem hi)
   rw[Array.getD_eq_getD_getElem?,q1];exact q2) (fun i d hd=>by
   obtain ⟨x,q1,q2,q3⟩:=key i d hd
   rw[Array.getD_eq_getD_getElem?,q1]
   exact uC.mono hmono q3)
  rw[Nat.zero_add] at hp
  exact hp
theorem e_clg{P:Program}{o:Oper}{S:Nat->SV}{y:Operand}{xs:List Operand}{ats:Array TypeId}{f:FuncId}{ds:List jW}{r:jW}{zs:List SV}{E:TypeId}{bl:List (Nat × List jW)}(hf:jU P f ds r)(ho:o.op=.call { callee:=.value y,args:=xs.toArray,argTypes:=ats })(hy:ev S y=.d (.val (.func (.func f) #[] #[])))
  (hx:xs.map (ev S)=zs) (hz:eB bl E zs ds) (ha:nM E r):qU P o S (bl.map fun p=>(p.1,p.2.map SV.d)) (.d r) :=
 fun a w D β Q hop hrd hD=>by
  have hyv:=hop y (by simp [ho,Op.operands,Call.operands])
  rw[hy] at hyv
  have hyv':=qH hyv
  have hrep:∀ (i:Nat) v x,(xs.map a.eval)[i]?=some v->zs[i]?=some x->qF w D β v x:=fun i v x hv hz'=>by
   rw[List.getElem?_map,Option.map_eq_some_iff] at hv
   obtain ⟨p,hqi,rfl⟩:=hv
   have hm:=hop p (by simp [ho,Op.operands,Call.operands,List.mem_of_getElem? hqi])
   have hi:=congrArg (fun l:List SV=>l[i]?) hx
   simp only[List.getElem?_map,hqi,hz',Option.map_some,Option.some.injEq] at hi
   rw[hi] at hm
   exact hm
  have uB:(xs.map a.eval).length=zs.length:=by rw[<- hx];simp
  have hrun:(execOp a.eval o).run P w=.ok (.enter f (xs.map a.eval).toArray) w:=by
   simp only[execOp,ho,resolve,Deferred.ofValue,hyv',Sem.run_bind,Sem.run_pure,Result.andThen_ok,invoke,Array.empty_append,Array.append_empty]
   rw[vQ hf.may]
   simp
  obtain ⟨X,hD',hXp,hv,hp⟩:=blk_pub (E:=E) (bl:=bl) hD (fun p hp=>hrd (p.1,p.2.map SV.d) (List.mem_map_of_mem (f:=fun p:Nat × List jW=>(p.1,p.2.map SV.d)) hp))
  have hmono:∀ t' g i,D t' g i->(D t' g i\/X t' g i)/\w.cell? ⟨g,i,none⟩=w.cell? ⟨g,i,none⟩:=fun t' g i hd=>⟨.inl hd,rfl⟩
  have hargs:Args w (fun t g i=>D t g i\/X t g i) (xs.map a.eval) ds:=⟨uB.trans hz.len,hz.rep (fun v x h=>uC.mono hmono h) hv hp _ uB hrep⟩
  refine cK hrun ((hf.run w _ _ hD' hargs).mono fun e w' h=>?_)
  obtain ⟨v,D2,he,h1,h2,h3⟩:=h
  refine ⟨v,he,v,fun t g i=>D2 t g i/\¬ X t g i,rfl,h1,⟨fun t g i hd=>⟨h2.up _ _ _ (.inl hd),fun hx'=>(hXp t g i hx').2 t i hd⟩,fun t g i hd=>?_⟩,?_⟩
  ·rcases h2.new t g i hd.1 with h | h
   ·rcases h with h | h
    ·exact .inl h
    ·exact absurd h hd.2
   ·exact .inr h
  ·exact ha.rep (fun t g i hne hd=>⟨hd,fun hx'=>hne (hXp t g i hx').1⟩) h3
theorem oCg{P:Program}{o:Oper}{S:SL}{B:BS}{y:Operand}{xs:List Operand}{ats:Array TypeId}{f:FuncId}{ds:List jW}{r:jW}(bl:List (Nat × List jW))(zs:List SV)(hf:jU P f ds r)(hz:eB bl 1000000 zs ds)(ha:nM 1000000 r)
  (ho:o.op=.call { callee:=.value y,args:=xs.toArray,argTypes:=ats }:=by exact rfl) (hy:ev (jR S) y=.d (.val (.func (.func f) #[] #[])):=by kernel_rfl) (hx:xs.map (ev (jR S))=zs:=by kernel_rfl)
  (hb:bl.map (fun p=>jV B p.1)=bl.map (fun p=>some (p.2.map SV.d)):=by kernel_rfl) {ks:List Nat} (hks:bl.map (·.1)=ks:=by exact rfl):RKs P o S B ks (.d r):=by
 refine ⟨bl.map fun p=>(p.1,p.2.map SV.d),by rw[List.map_map];exact hks,e_clg hf ho hy hx hz ha,fun p hp=>?_⟩
 obtain ⟨q,hq,rfl⟩:=List.mem_map.1 hp
 exact List.map_inj_left.1 hb q hq
variable {P:Program}
def intFs(P:Program):List Field->Nat->Bool
 |[],_=>true
 | f :: l, i => (f.name != "_") && (Nat.beq f.offset i && ((match P.underlying f.type with | some (.int _) => true | _ => false) && intFs P l (i + 1)))
def eqsB(P:Program)(T:TypeId):Option Nat :=
 match P.underlying T with
 |some (.struct fs)=>if intFs P fs.toList 0&&(!P.stoodInHeld T&&!P.eqGuardType P.depth T) then some fs.size else none
 |_=>none
theorem gC{t:TypeId}{ms:List Int}{i:Nat}{m:Int}{k j:IntKind}(ht:P.underlying t=some (.int j))(hi:ms[i]?=some m)(w:World):(part t (ms.map (Value.int k)).toArray i).run P w=.ok (.int k m) w:=by
 have h2:(ms.map (Value.int k))[i]?=some (.int k m):=by rw[List.getElem?_map,hi];rfl
 simp [part,mQ ht,isAggD,h2]
theorem run_eqInt{t:TypeId}{k j:IntKind}{m n:Int}(ht:P.underlying t=some (.int j))(d:Nat)(w:World):(Op.equalIn (d+1) t (.int k m) (.int k n)).run P w=.ok (m == n) w:=by
 simp [Op.equalIn,run_underlying ht]
theorem run_fs(k:IntKind)(d:Nat)(w:World)(ms ns:List Int):∀ (l:List Field) (i:Nat),intFs P l i=true->ms.length=i+l.length->ns.length=i+l.length ->
  Sem.run P (forIn l ((none,()):Option Bool × Unit) fun f _=>
      if f.name = "_" then pure (ForInStep.yield (none, ()))
      else do
       let a <- part f.type (List.map (Value.int k) ms).toArray f.offset
       let b <- part f.type (List.map (Value.int k) ns).toArray f.offset
       let c <- Op.equalIn (d+1) f.type a b
       if c=false then pure (ForInStep.done (some false,())) else pure (ForInStep.yield (none,()))) w=.ok (if ms.drop i=ns.drop i then (none,()) else (some false,())) w
 |[],i,_,h1,h2=>by
  have e1:ms.drop i=[]:=List.drop_eq_nil_of_le (by simp at h1;omega)
  have e2:ns.drop i=[]:=List.drop_eq_nil_of_le (by simp at h2;omega)
  rw[e1,e2];simp
 |f::l,i,h,h1,h2=>by
  unfold intFs at h
  simp only[Bool.and_eq_true,bne_iff_ne,ne_eq] at h
  obtain ⟨g1,g2,g3,g4⟩:=h
  have g2:f.offset=i:=Nat.eq_of_beq_eq_true g2
  have hd:∃ j,P.underlying f.type=some (.int j):=by
   split at g3
   ·rename_i j e;exact ⟨j,e⟩
   ·cases g3
  obtain ⟨j,hj⟩:=hd
  simp only[List.length_cons] at h1 h2
  have b1:i<ms.length:=by omega
  have b2:i<ns.length:=by omega
  have ih:=run_fs k d w ms ns l (i+1) g4 (by omega) (by omega)
  have e1:=List.drop_eq_getElem_cons b1
  have e2:=List.drop_eq_getElem_cons b2
  simp only[List.forIn_cons,g1,if_false,g2,Sem.run_bind,gC hj (List.getElem?_eq_getElem b1),gC hj (List.getElem?_eq_getElem b2),Result.andThen_ok,run_eqInt hj]
  by_cases he:ms[i]=ns[i]
  ·have hx:(ms.drop i=ns.drop i)=(ms.drop (i+1)=ns.drop (i+1)):=by
    rw[e1,e2,he]
    exact propext ⟨fun h=>(List.cons.inj h).2,fun h=>by rw[h]⟩
   simp only[he,beq_self_eq_true,Bool.true_eq_false,if_false,Sem.run_pure,Result.andThen_ok]
   rw[ih]
   simp only[hx]
  ·have hx:¬ ms.drop i=ns.drop i:=by
    rw[e1,e2]
    exact fun h=>he (List.cons.inj h).1
   have hb:(ms[i] == ns[i])=false:=by simp [he]
   simp only[hb,if_true,Sem.run_pure,Result.andThen_ok,if_neg hx]
theorem run_eqS{T:TypeId}{c:Nat}(h:eqsB P T=some c)(k:IntKind)(ms ns:List Int)(h1:ms.length=c)(h2:ns.length=c)(w:World) :
  (Op.equal T (.agg (ms.map (Value.int k)).toArray) (.agg (ns.map (Value.int k)).toArray)).run P w=.ok (decide (ms=ns)) w/\P.eqGuardType P.depth T=false:=by
 unfold eqsB at h
 split at h
 ·rename_i fs hT
  split at h
  ·rename_i hq
   simp only[Bool.and_eq_true,Bool.not_eq_true'] at hq
   injection h with h
   refine ⟨?_,hq.2.2⟩
   show (Op.equalIn (9998+2) T _ _).run P w=_
   rw[Op.equalIn]
   have hl:=run_fs k 9998 w ms ns fs.toList 0 hq.1 (by simp;omega) (by simp;omega)
   rw[Array.forIn_toList] at hl
   simp [run_underlying hT,hq.2.1]
   have hl2:=hl
   simp only[List.drop_zero] at hl2
   rw[hl2]
   by_cases e:ms=ns
   ·simp [e]
   ·simp [e]
  ·cases h
 ·cases h
theorem aG{w:World}{D:kN}{v:Value}{k:IntKind}{ms:List Int}(h:uC w D v (.agg (ms.map fun m=>.val (.int k m)))):v=.agg (ms.map (Value.int k)).toArray:=by
 obtain ⟨vs,rfl,hl,_,hr⟩:=rep_agg h
 have e:vs=ms.map (Value.int k):=by
  refine List.ext_getElem (by simpa using hl) fun i h1 h2=>?_
  have hi:i<ms.length:=by simpa using h2
  have:=qH (hr i vs[i] (.val (.int k ms[i])) (List.getElem?_eq_getElem h1) (by rw[List.getElem?_map,List.getElem?_eq_getElem hi];rfl))
  rw[this];simp
 rw[e]
theorem e_eqs{o:Oper}{S:Nat->SV}{T T':TypeId}{x y:Operand}{k:IntKind}{ms ns:List Int}{c:Nat}(ho:o.op=.binOp .eql T x y T')(hT:eqsB P T=some c)(hx:ev S x=.d (.agg (ms.map fun m=>.val (.int k m))))(hy:ev S y=.d (.agg (ns.map fun m=>.val (.int k m))))(h1:ms.length=c)(h2:ns.length=c):qU P o S [] (.d (.val (.bool (decide (ms=ns))))) :=
 qU.same fun a w D β hop _=>by
  have hx':=hop x (by simp [ho,Op.operands])
  have hy':=hop y (by simp [ho,Op.operands])
  rw[hx] at hx'
  rw[hy] at hy'
  have ex:=aG hx'
  have ey:=aG hy'
  obtain ⟨g1,g2⟩:=run_eqS hT k ms ns h1 h2 w
  refine ⟨.bool (decide (ms=ns)),?_,.val _⟩
  simp [execOp,ho,ex,ey,eqGuard,g2,binOp,g1]
theorem oEs{P:Program}{o:Oper}{S:Nat->SV}{T T':TypeId}{x y:Operand}{c:Nat}(hT:eqsB P T=some c)(k:IntKind)(ms ns:List Int)(ho:o.op=.binOp .eql T x y T':=by exact rfl)(hx:ev S x=.d (.agg (ms.map fun m=>.val (.int k m))):=by kernel_rfl)(hy:ev S y=.d (.agg (ns.map fun m=>.val (.int k m))):=by kernel_rfl)(h1:ms.length=c:=by exact rfl)(h2:ns.length=c:=by exact rfl):qU P o S [] (.d (.val (.bool (decide (ms=ns))))):=e_eqs ho hT hx hy h1 h2
end Go.Fid
namespace Go.Fid
variable {P:Program} {o:Oper} {S:Nat->SV}
end Go.Fid
namespace Go.Proofs.YtciingpdmjepgaaGreat
open Go.Fid
theorem ar95:arrB Tryz.prog 95=some (4,3,1):=by kernel_rfl
theorem xN:uJ Tryz.prog 60=some (3,1):=by kernel_rfl
theorem eqs28:eqsB Tryz.prog 28=some 4:=by kernel_rfl
theorem vB:uF Tryz.prog 28 0=some 0:=by kernel_rfl
theorem uS:uF Tryz.prog 28 1=some 1:=by kernel_rfl
theorem vA:uF Tryz.prog 28 2=some 2:=by kernel_rfl
theorem uR:uF Tryz.prog 28 3=some 3:=by kernel_rfl
theorem pl28:mY Tryz.prog 28=some [(0,1),(1,1),(2,1),(3,1)]:=by kernel_rfl
theorem qQ:kQ Tryz.prog 28=some (true,4):=by kernel_rfl
theorem sh95:kQ Tryz.prog 95=some (true,4):=by kernel_rfl
theorem gK:uO Tryz.prog 28=some [.int .i64 0,.int .i64 0,.int .i64 0,.int .i64 0]:=by kernel_rfl
theorem ze95:uO Tryz.prog 95=some [.int .i64 0,.int .i64 0,.int .i64 0,.int .i64 0]:=by kernel_rfl
theorem gS:nH [.int .i64 0,.int .i64 0,.int .i64 0,.int .i64 0] [.val (.int .i64 0),.val (.int .i64 0),.val (.int .i64 0),.val (.int .i64 0)]:=by simp [nH,Value.oneCell']
theorem zo95:nH [.int .i64 0,.int .i64 0,.int .i64 0,.int .i64 0] [.val (.int .i64 0),.val (.int .i64 0),.val (.int .i64 0),.val (.int .i64 0)]:=by simp [nH,Value.oneCell']
theorem q_parts(a b c d:Int):jU Tryz.prog 42 [(jI (jB.mk a b c d))] (gW (A4.mk a b c d)):=by
 refine vD Tryz.func42 ?_
 refine jA<|kx [(1,(.ref 0 0)),(2,(.ref 1 0))] [(0,some (bx (jI (jB.mk a b c d)))),(1,some (bx (gW (A4.mk 0 0 0 0))))] (zN (yB 0)<|zN (vL 1 ze95 zo95)<|zZ) ?_
 refine jA<|kx [] [(1,some (bx (gW (A4.mk a b c d))))] (zE (jY vB)<|zR (jZ kK)<|zE (jY uS)<|zR (jZ kK)<|zE (jY vA)<|zR (jZ kK)<|zE (jY uR)<|zR (jZ kK)<|zE (oBf ar95 ze95 zo95)<|zT (qO sh95)<|zZ) ?_
 refine jG ⟨_,(qK (cs:=(bx (gW (A4.mk a b c d)))) (d:=(gW (A4.mk a b c d))) rfl rfl sh95 rfl rfl .nil),?_⟩
 rfl
theorem qs_list(a b c d:Int):jU Tryz.prog 65 [(jI (jB.mk a b c d))] (.sl 3 1 (List.map jT [a,b,c,d])):=by
 refine vD Tryz.func65 ?_
 refine jA<|kx [(1,(.ref 0 0))] [(0,some (bx (jI (jB.mk a b c d))))] (zN (yB 0)<|zE (fH 3 1)<|zZ) ?_
 refine jA<|kx [(2,(vl 3 1 jT [a,b,c,d]))] [] (zE (jY vB)<|zR (jZ kK)<|zE (jY uS)<|zR (jZ kK)<|zE (jY vA)<|zR (jZ kK)<|zE (jY uR)<|zR (jZ kK)<|zE (eG xN ze3 zo3)<|zM<|zZ) ?_
 refine jG ⟨_,(.tmp (d:=(.sl 3 1 (List.map jT [a,b,c,d]))) rfl .nil),?_⟩
 rfl
theorem q_chk(a b c d:Int):jU Tryz.prog 23 [(jI (jB.mk a b c d))] (.val (.int .i64 ((((yD a b c d):Nat):Int)))):=by
 refine vD Tryz.func23 ?_
 refine jA<|kx [(1,(.ref 0 0))] [(0,some (bx (jI (jB.mk a b c d))))] (zN (yB 0)<|zM<|zZ) ?_
 refine jA<|jA<|kx [(7,(vb (decide ([a,b,c,d]=[0,0,0,0]))))] [] (zR (qE qQ)<|zE (oBd pl28 gK gS)<|zE (oEs eqs28 .i64 [a,b,c,d] [0,0,0,0])<|zZ) ?_
 refine jF (b:=(decide ([a,b,c,d]=[0,0,0,0]))) rfl (fun h1=>?_) (fun h1=>?_)
 ·replace h1:=uY h1
  refine jA<|kx [(2,(jN 1))] [] (zM<|zZ) ?_
  refine jG ⟨_,(.tmp (d:=(.val (.int .i64 (((1:Nat):Int))))) rfl .nil),?_⟩
  rw[rotC_z (by simp_all)];rfl
 ·replace h1:=uZ h1
  refine jD<|jA<|jA<|kx [(9,(.d (gW (A4.mk a b c d)))),(10,(jN 0))] [] (zR (qE qQ)<|zE (kD (q_parts a b c d))<|zM<|zZ) ?_
  refine jH<|yY 20 ?_
  refine hC<|jA<|kx [(11,(vb true))] [] (zE (gI true uT)<|zZ) ?_
  refine jA<|qZ ?_
  refine jD<|jA<|jH<|jA<|kx [(4,(vi a))] [] (zE (oXa ar95 kK (fun _=>rfl) 0)<|zM<|zZ) ?_
  refine jA<|kx [(18,(vb (decide (a < -1048576)||decide (((1048576:Nat):Int)<a))))] [] ?_ ?_
  ·refine zM<|zE uT<|zE (oV (vb (decide (a < -1048576))) (kA (by kernel_rfl)))<|?_
   rcases hb2:(decide (a < -1048576)) with _ | _
   ·replace hb2:=uZ hb2
    exact zM<|zE cC<|zE zG<|zZ
   ·replace hb2:=uY hb2
    exact zK<|zK<|zE uP<|zZ
  refine jF rfl (fun h3=>?_) (fun h3=>?_)
  ·refine jA<|kx [(2,(jN 3))] [] (zM<|zZ) ?_
   refine jG ⟨_,(.tmp (d:=(.val (.int .i64 (((3:Nat):Int))))) rfl .nil),?_⟩
   first | (rw[fN (by simp_all) (by first | (simp_all;done) | (simp_all;omega))];rfl) | (rw[eA (by simp_all) (by first | (simp_all;done) | (simp_all;omega))];rfl)
  ·refine jD<|kx [(10,(jN 1))] [] (zE (uL 1 (hr:=by decide))<|zM<|zZ) ?_
   refine kS (kP.refl _) ?_
   refine jA<|kx [(11,(vb true))] [] (zE (gI true uT)<|zZ) ?_
   refine jA<|qZ ?_
   refine jD<|jA<|jH<|jA<|kx [(4,(vi b))] [] (zE (oXa ar95 kK (fun _=>rfl) 1)<|zM<|zZ) ?_
   refine jA<|kx [(18,(vb (decide (b < -1048576)||decide (((1048576:Nat):Int)<b))))] [] ?_ ?_
   ·refine zM<|zE uT<|zE (oV (vb (decide (b < -1048576))) (kA (by kernel_rfl)))<|?_
    rcases hb4:(decide (b < -1048576)) with _ | _
    ·replace hb4:=uZ hb4
     exact zM<|zE cC<|zE zG<|zZ
    ·replace hb4:=uY hb4
     exact zK<|zK<|zE uP<|zZ
   refine jF rfl (fun h5=>?_) (fun h5=>?_)
   ·refine jA<|kx [(2,(jN 3))] [] (zM<|zZ) ?_
    refine jG ⟨_,(.tmp (d:=(.val (.int .i64 (((3:Nat):Int))))) rfl .nil),?_⟩
    first | (rw[fN (by simp_all) (by first | (simp_all;done) | (simp_all;omega))];rfl) | (rw[eA (by simp_all) (by first | (simp_all;done) | (simp_all;omega))];rfl)
   ·refine jD<|kx [(10,(jN 2))] [] (zE (uL 2 (hr:=by decide))<|zM<|zZ) ?_
    refine kS (kP.refl _) ?_
    refine jA<|kx [(11,(vb true))] [] (zE (gI true uT)<|zZ) ?_
    refine jA<|qZ ?_
    refine jD<|jA<|jH<|jA<|kx [(4,(vi c))] [] (zE (oXa ar95 kK (fun _=>rfl) 2)<|zM<|zZ) ?_
    refine jA<|kx [(18,(vb (decide (c < -1048576)||decide (((1048576:Nat):Int)<c))))] [] ?_ ?_
    ·refine zM<|zE uT<|zE (oV (vb (decide (c < -1048576))) (kA (by kernel_rfl)))<|?_
     rcases hb6:(decide (c < -1048576)) with _ | _
     ·replace hb6:=uZ hb6
      exact zM<|zE cC<|zE zG<|zZ
     ·replace hb6:=uY hb6
      exact zK<|zK<|zE uP<|zZ
    refine jF rfl (fun h7=>?_) (fun h7=>?_)
    ·refine jA<|kU (wk (l:=[(9,(.d (gW (A4.mk a b c d)))),(10,(jN 2)),(18,(vb (decide (c < -1048576)||decide (((1048576:Nat):Int)<c))))]) (b:=[])) ?_
     refine kx [(2,(jN 3))] [] (zM<|zZ) ?_
     refine jG ⟨_,(.tmp (d:=(.val (.int .i64 (((3:Nat):Int))))) rfl .nil),?_⟩
     first | (rw[fN (by simp_all) (by first | (simp_all;done) | (simp_all;omega))];rfl) | (rw[eA (by simp_all) (by first | (simp_all;done) | (simp_all;omega))];rfl)
    ·refine jD<|kU (wk (l:=[(9,(.d (gW (A4.mk a b c d)))),(10,(jN 2)),(18,(vb (decide (c < -1048576)||decide (((1048576:Nat):Int)<c))))]) (b:=[])) ?_
     refine kx [(10,(jN 3))] [] (zE (uL 3 (hr:=by decide))<|zM<|zZ) ?_
     refine kS (kP.refl _) ?_
     refine jA<|kx [(11,(vb true))] [] (zE (gI true uT)<|zZ) ?_
     refine jA<|qZ ?_
     refine jD<|jA<|jH<|jA<|kx [(4,(vi d))] [] (zE (oXa ar95 kK (fun _=>rfl) 3)<|zM<|zZ) ?_
     refine jA<|kx [(18,(vb (decide (d < -1048576)||decide (((1048576:Nat):Int)<d))))] [] ?_ ?_
     ·refine zM<|zE uT<|zE (oV (vb (decide (d < -1048576))) (kA (by kernel_rfl)))<|?_
      rcases hb8:(decide (d < -1048576)) with _ | _
      ·replace hb8:=uZ hb8
       exact zM<|zE cC<|zE zG<|zZ
      ·replace hb8:=uY hb8
       exact zK<|zK<|zE uP<|zZ
     refine jF rfl (fun h9=>?_) (fun h9=>?_)
     ·refine jA<|kx [(2,(jN 3))] [] (zM<|zZ) ?_
      refine jG ⟨_,(.tmp (d:=(.val (.int .i64 (((3:Nat):Int))))) rfl .nil),?_⟩
      first | (rw[fN (by simp_all) (by first | (simp_all;done) | (simp_all;omega))];rfl) | (rw[eA (by simp_all) (by first | (simp_all;done) | (simp_all;omega))];rfl)
     ·refine jD<|kx [(10,(jN 4))] [] (zE (uL 4 (hr:=by decide))<|zM<|zZ) ?_
      refine kS (kP.refl _) ?_
      refine jA<|kx [(11,(vb false))] [] (zE (gI false uT)<|zZ) ?_
      refine jA<|uU ?_
      refine jS<|jA<|kx [(2,(jN 0))] [] (zM<|zZ) ?_
      refine jG ⟨_,(.tmp (d:=(.val (.int .i64 (((0:Nat):Int))))) rfl .nil),?_⟩
      first | (rw[fN (by simp_all) (by first | (simp_all;done) | (simp_all;omega))];rfl) | (rw[eA (by simp_all) (by first | (simp_all;done) | (simp_all;omega))];rfl)
theorem qs_chk(a b c d:Int):jU Tryz.prog 35 [(jI (jB.mk a b c d))] (.val (.int .i64 ((((yD a b c d):Nat):Int)))):=by
 refine vD Tryz.func35 ?_
 refine jA<|kx [(1,(.ref 0 0))] [(0,some (bx (jI (jB.mk a b c d))))] (zN (yB 0)<|zM<|zZ) ?_
 refine jA<|jA<|kx [(22,(vb ((((a == ((0:Nat):Int))&&(b == ((0:Nat):Int)))&&(c == ((0:Nat):Int)))&&(d == ((0:Nat):Int)))))] [] ?_ ?_
 ·refine zE (jY vB)<|zR (jZ kK)<|zE zW<|zE (oV (vb (a == ((0:Nat):Int))) (kA (by kernel_rfl)))<|?_
  rcases hb1:(a == ((0:Nat):Int)) with _ | _
  ·replace hb1:=ne_of_beq_false hb1
   exact zK<|zK<|zK<|zE mJ<|zM<|zK<|zK<|zK<|zE mJ<|zM<|zK<|zK<|zK<|zE mJ<|zZ
  ·replace hb1:=eq_of_beq hb1
   refine zE (jY uS)<|zR (jZ kK)<|zE zW<|zE aC<|zE (oV (vb (true&&(b == ((0:Nat):Int)))) (kA (by kernel_rfl)))<|?_
   rcases hb2:(true&&(b == ((0:Nat):Int))) with _ | _
   ·exact zK<|zK<|zK<|zE mJ<|zM<|zK<|zK<|zK<|zE mJ<|zZ
   ·refine zE (jY vA)<|zR (jZ kK)<|zE zW<|zE aC<|zE (oV (vb (true&&(c == ((0:Nat):Int)))) (kA (by kernel_rfl)))<|?_
    rcases hb3:(true&&(c == ((0:Nat):Int))) with _ | _
    ·exact zK<|zK<|zK<|zE mJ<|zZ
    ·exact zE (jY uR)<|zR (jZ kK)<|zE zW<|zE aC<|zZ
 refine jF rfl (fun h4=>?_) (fun h4=>?_)
 ·refine jA<|kx [(2,(jN 1))] [] (zM<|zZ) ?_
  refine jG ⟨_,(.tmp (d:=(.val (.int .i64 (((1:Nat):Int))))) rfl .nil),?_⟩
  rw[rotC_z (by simp_all)];rfl
 ·refine jD<|jA<|kx [(3,(vl 3 1 jT [a,b,c,d]))] [] (zR (qE qQ)<|zE (kD (qs_list a b c d))<|zM<|zZ) ?_
  refine jA<|jA<|kx [(4,(jN 0))] [] (zM<|zZ) ?_
  refine jH<|yY 20 ?_
  refine hC<|jA<|jA<|kx [(26,(vb true))] [] (zM<|zE (gI true uT)<|zZ) ?_
  refine qZ ?_
  refine jD<|jA<|jH<|jA<|kx [(40,(vb (decide (((1048576:Nat):Int)<a)||decide (a < -1048576))))] [] ?_ ?_
  ·refine zM<|zM<|zE (oXs xN 0)<|zE (mV kK)<|zE cC<|zE (oV (vb (decide (((1048576:Nat):Int)<a))) (kA (by kernel_rfl)))<|?_
   rcases hb5:(decide (((1048576:Nat):Int)<a)) with _ | _
   ·replace hb5:=uZ hb5
    exact zM<|zM<|zE (oXs xN 0)<|zE (mV kK)<|zE uT<|zE zG<|zZ
   ·replace hb5:=uY hb5
    exact zK<|zK<|zK<|zK<|zK<|zE uP<|zZ
  refine jF rfl (fun h6=>?_) (fun h6=>?_)
  ·refine jA<|kx [(2,(jN 3))] [] (zM<|zZ) ?_
   refine jG ⟨_,(.tmp (d:=(.val (.int .i64 (((3:Nat):Int))))) rfl .nil),?_⟩
   first | (rw[fN (by simp_all) (by first | (simp_all;done) | (simp_all;omega))];rfl) | (rw[eA (by simp_all) (by first | (simp_all;done) | (simp_all;omega))];rfl)
  ·refine jD<|kx [(4,(jN 1))] [] (zM<|zE (uL 1 (hr:=by decide))<|zM<|zZ) ?_
   refine kS (kP.refl _) ?_
   refine jA<|jA<|kx [(26,(vb true))] [] (zM<|zE (gI true uT)<|zZ) ?_
   refine qZ ?_
   refine jD<|jA<|jH<|jA<|kx [(40,(vb (decide (((1048576:Nat):Int)<b)||decide (b < -1048576))))] [] ?_ ?_
   ·refine zM<|zM<|zE (oXs xN 1)<|zE (mV kK)<|zE cC<|zE (oV (vb (decide (((1048576:Nat):Int)<b))) (kA (by kernel_rfl)))<|?_
    rcases hb7:(decide (((1048576:Nat):Int)<b)) with _ | _
    ·replace hb7:=uZ hb7
     exact zM<|zM<|zE (oXs xN 1)<|zE (mV kK)<|zE uT<|zE zG<|zZ
    ·replace hb7:=uY hb7
     exact zK<|zK<|zK<|zK<|zK<|zE uP<|zZ
   refine jF rfl (fun h8=>?_) (fun h8=>?_)
   ·refine jA<|kx [(2,(jN 3))] [] (zM<|zZ) ?_
    refine jG ⟨_,(.tmp (d:=(.val (.int .i64 (((3:Nat):Int))))) rfl .nil),?_⟩
    first | (rw[fN (by simp_all) (by first | (simp_all;done) | (simp_all;omega))];rfl) | (rw[eA (by simp_all) (by first | (simp_all;done) | (simp_all;omega))];rfl)
   ·refine jD<|kx [(4,(jN 2))] [] (zM<|zE (uL 2 (hr:=by decide))<|zM<|zZ) ?_
    refine kS (kP.refl _) ?_
    refine jA<|jA<|kx [(26,(vb true))] [] (zM<|zE (gI true uT)<|zZ) ?_
    refine qZ ?_
    refine jD<|jA<|jH<|jA<|kx [(40,(vb (decide (((1048576:Nat):Int)<c)||decide (c < -1048576))))] [] ?_ ?_
    ·refine zM<|zM<|zE (oXs xN 2)<|zE (mV kK)<|zE cC<|zE (oV (vb (decide (((1048576:Nat):Int)<c))) (kA (by kernel_rfl)))<|?_
     rcases hb9:(decide (((1048576:Nat):Int)<c)) with _ | _
     ·replace hb9:=uZ hb9
      exact zM<|zM<|zE (oXs xN 2)<|zE (mV kK)<|zE uT<|zE zG<|zZ
     ·replace hb9:=uY hb9
      exact zK<|zK<|zK<|zK<|zK<|zE uP<|zZ
    refine jF rfl (fun h10=>?_) (fun h10=>?_)
    ·refine jA<|kx [(2,(jN 3))] [] (zM<|zZ) ?_
     refine jG ⟨_,(.tmp (d:=(.val (.int .i64 (((3:Nat):Int))))) rfl .nil),?_⟩
     first | (rw[fN (by simp_all) (by first | (simp_all;done) | (simp_all;omega))];rfl) | (rw[eA (by simp_all) (by first | (simp_all;done) | (simp_all;omega))];rfl)
    ·refine jD<|kx [(4,(jN 3))] [] (zM<|zE (uL 3 (hr:=by decide))<|zM<|zZ) ?_
     refine kS (kP.refl _) ?_
     refine jA<|jA<|kx [(26,(vb true))] [] (zM<|zE (gI true uT)<|zZ) ?_
     refine qZ ?_
     refine jD<|jA<|jH<|jA<|kU (wk (l:=[(3,(vl 3 1 jT [a,b,c,d])),(4,(jN 3)),(26,(vb true))]) (b:=[])) ?_
     refine kx [(40,(vb (decide (((1048576:Nat):Int)<d)||decide (d < -1048576))))] [] ?_ ?_
     ·refine zM<|zM<|zE (oXs xN 3)<|zE (mV kK)<|zE cC<|zE (oV (vb (decide (((1048576:Nat):Int)<d))) (kA (by kernel_rfl)))<|?_
      rcases hb11:(decide (((1048576:Nat):Int)<d)) with _ | _
      ·replace hb11:=uZ hb11
       exact zM<|zM<|zE (oXs xN 3)<|zE (mV kK)<|zE uT<|zE zG<|zZ
      ·replace hb11:=uY hb11
       exact zK<|zK<|zK<|zK<|zK<|zE uP<|zZ
     refine jF rfl (fun h12=>?_) (fun h12=>?_)
     ·refine jA<|kx [(2,(jN 3))] [] (zM<|zZ) ?_
      refine jG ⟨_,(.tmp (d:=(.val (.int .i64 (((3:Nat):Int))))) rfl .nil),?_⟩
      first | (rw[fN (by simp_all) (by first | (simp_all;done) | (simp_all;omega))];rfl) | (rw[eA (by simp_all) (by first | (simp_all;done) | (simp_all;omega))];rfl)
     ·refine jD<|kx [(4,(jN 4))] [] (zM<|zE (uL 4 (hr:=by decide))<|zM<|zZ) ?_
      refine kS (kP.refl _) ?_
      refine jA<|jA<|kx [(26,(vb false))] [] (zM<|zE (gI false uT)<|zZ) ?_
      refine uU ?_
      refine jS<|jA<|kx [(2,(jN 0))] [] (zM<|zZ) ?_
      refine jG ⟨_,(.tmp (d:=(.val (.int .i64 (((0:Nat):Int))))) rfl .nil),?_⟩
      first | (rw[fN (by simp_all) (by first | (simp_all;done) | (simp_all;omega))];rfl) | (rw[eA (by simp_all) (by first | (simp_all;done) | (simp_all;omega))];rfl)
theorem qr_norm(a b c d:Int)(ha:-1048576<=a/\a<=1048576)(hb:-1048576<=b/\b<=1048576)(hc:-1048576<=c/\c<=1048576)(hd:-1048576<=d/\d<=1048576):jU Tryz.prog 46 [(jI (jB.mk a b c d))] (.val (.int .i64 ((nq a b c d)))):=by
 have saa:=zJ ha ha
 have sab:=zJ ha hb
 have sac:=zJ ha hc
 have sad:=zJ ha hd
 have sbb:=zJ hb hb
 have sbc:=zJ hb hc
 have sbd:=zJ hb hd
 have scc:=zJ hc hc
 have scd:=zJ hc hd
 have sdd:=zJ hd hd
 refine vD Tryz.func46 ?_
 refine jA<|kx [(1,(.ref 0 0))] [(0,some (bx (jI (jB.mk a b c d))))] (zN (yB 0)<|zM<|zZ) ?_
 refine jA<|kx [(2,(vi ((((a*a)+(b*b))+(c*c))+(d*d))))] [] (zE (jY vB)<|zR (jZ kK)<|zE (jY vB)<|zR (jZ kK)<|zE (mZ (a*a) (hr:=by exact (qG rfl (by simp only[vR];omega) (by simp only[vS];omega))))<|zE (jY uS)<|zR (jZ kK)<|zE (jY uS)<|zR (jZ kK)<|zE (mZ (b*b) (hr:=by exact (qG rfl (by simp only[vR];omega) (by simp only[vS];omega))))<|zE (zAd ((a*a)+(b*b)) (hr:=by exact (qG rfl (by simp only[vR];omega) (by simp only[vS];omega))))<|zE (jY vA)<|zR (jZ kK)<|zE (jY vA)<|zR (jZ kK)<|zE (mZ (c*c) (hr:=by exact (qG rfl (by simp only[vR];omega) (by simp only[vS];omega))))<|zE (zAd (((a*a)+(b*b))+(c*c)) (hr:=by exact (qG rfl (by simp only[vR];omega) (by simp only[vS];omega))))<|zE (jY uR)<|zR (jZ kK)<|zE (jY uR)<|zR (jZ kK)<|zE (mZ (d*d) (hr:=by exact (qG rfl (by simp only[vR];omega) (by simp only[vS];omega))))<|zE (zAd ((((a*a)+(b*b))+(c*c))+(d*d)) (hr:=by exact (qG rfl (by simp only[vR];omega) (by simp only[vS];omega))))<|zM<|zZ) ?_
 refine jG ⟨_,(.tmp (d:=(.val (.int .i64 (((((a*a)+(b*b))+(c*c))+(d*d)))))) rfl .nil),?_⟩
 rfl
end Go.Proofs.YtciingpdmjepgaaGreat
namespace Go.Fid
variable {P:Program} {o:Oper} {S:Nat->SV}
theorem e_cld{y:Operand}{xs:List Operand}{ats:Array TypeId}{f:FuncId}{ds caps:List jW}{r:jW}(hf:jU P f (ds++caps) r)(ho:o.op=.call { callee:=.value y,args:=xs.toArray,argTypes:=ats })(hy:ev S y=.d (.clo f caps))(hx:xs.map (ev S)=ds.map .d):qU P o S [] (.d r) :=
 fun a w D β Q hop hrd hD=>by
  have hyv:=hop y (by simp [ho,Op.operands,Call.operands])
  rw[hy] at hyv
  generalize hvv:a.eval y=v at hyv
  cases hyv with
  |clo vs hl hr=>
   have hlx:xs.length=ds.length:=by simpa using congrArg List.length hx
   have hargs:Args w D (xs.map a.eval++vs) (ds++caps):=by
    refine ⟨by simp [hlx,hl],fun i v d hv hd=>?_⟩
    by_cases hi:i<xs.length
    ·rw[List.getElem?_append_left (by simpa using hi),List.getElem?_map,Option.map_eq_some_iff] at hv
     rw[List.getElem?_append_left (by omega)] at hd
     obtain ⟨x,hxi,rfl⟩:=hv
     have hm:=hop x (by simp [ho,Op.operands,Call.operands,List.mem_of_getElem? hxi])
     have hi:=congrArg (fun l:List SV=>l[i]?) hx
     simp only[List.getElem?_map,hxi,hd,Option.map_some,Option.some.injEq] at hi
     rw[hi] at hm
     exact hm
    ·rw[List.getElem?_append_right (by simpa using hi),List.length_map] at hv
     rw[List.getElem?_append_right (by omega),<- hlx] at hd
     exact hr _ _ _ hv hd
   have hrun:(execOp a.eval o).run P w=.ok (.enter f (xs.map a.eval++vs).toArray) w:=by
    simp only[execOp,ho,resolve,Deferred.ofValue,hvv,Sem.run_bind,Sem.run_pure,Result.andThen_ok,invoke,Array.empty_append]
    rw[vQ hf.may]
    simp
   refine cK hrun ((hf.run w _ _ hD hargs).mono fun e w' h=>?_)
   obtain ⟨v,D2,he,h1,h2,h3⟩:=h
   exact ⟨v,he,v,D2,rfl,h1,h2,h3⟩
theorem oCd{S:SL}{y:Operand}{xs:List Operand}{ats:Array TypeId}{f:FuncId}{ds caps:List jW}{r:jW}(hf:jU P f (ds++caps) r)(ho:o.op=.call { callee:=.value y,args:=xs.toArray,argTypes:=ats }:=by exact rfl)
  (hy:ev (jR S) y=.d (.clo f caps):=by exact rfl) (hx:xs.map (ev (jR S))=ds.map .d:=by kernel_rfl):qU P o (jR S) [] (.d r):=e_cld hf ho hy hx
end Go.Fid
namespace Go.Fid
open Go.RowKit (Below)
theorem names_get{k:Nat}{cs:List SV}(h:kY k cs=false){i:Nat}{x:SV}(hx:cs[i]?=some x):x.names k=false:=by
 simp only[kY,List.any_eq_false] at h
 simpa using h x (List.mem_of_getElem? hx)
section
variable {P:Program} {o:Oper} {st:PS}
end
section
variable {P:Program} {o:Oper} {S:Nat->SV}
end
def rowC(E:TypeId)(s:Nat):Nat->List (List jW)->List SV
 |_,[]=>[]
 |k,r::rs=>.own k E s r.length::rowC E s (k+1) rs
theorem mapCs_rowC(E:TypeId)(s k:Nat)(rows:List (List jW)):yL (rowC E s k rows)=false:=by
 rcases rows with _ | ⟨a,_ | ⟨b,l⟩⟩<;>rfl
theorem blk_weak{w:World}{D:kN}{β:kT}{k:Nat}{cs cs':List SV}(h:uH w D β k cs)(hl:cs'.length=cs.length)(hx:∀ (i:Nat) (x:SV),cs'[i]?=some x->x=SV.junk\/cs[i]?=some x)(hm:yL cs=false):uH w D β k cs':=by
 rcases h with h | ⟨b,vs,T,h1,h2,h3,h4,h5⟩
 ·obtain ⟨h1,h2⟩:=h.cells hm;exact .inl (.inl ⟨h1,List.eq_nil_of_length_eq_zero (by rw[hl,h2];rfl)⟩)
 ·refine .inr ⟨b,vs,T,h1,h2,by omega,fun i x hi=>?_,h5⟩
  have hlt:i<cs.length:=by have:=(List.getElem?_eq_some_iff.1 hi).1;omega
  obtain ⟨u,e1,e2,e3⟩:=h4 i _ (List.getElem?_eq_getElem hlt)
  rcases hx i x hi with rfl | h
  ·exact ⟨u,e1,e2,trivial⟩
  ·rw[List.getElem?_eq_getElem hlt] at h
   injection h with h
   exact ⟨u,e1,e2,h▸e3⟩
section
variable {P:Program} {o:Oper} {S:SL}
theorem publishAt{st:PS}{j k s m:Nat}{T:TypeId}{pre post cs:List SV}{es:List jW}(hj:jV st.bs j=some (pre++.own k T s m::post))(hjk:k≠j)(hb:jV st.bs k=some cs)(hes:∀ e∈es,e.cells.length=s)(hl:es.length=m)(hc:cs.take (m*s)=(flat es).map .d) :
  kP st ⟨st.sl,(j,some (pre++.d (.sl T s es)::post))::(k,none)::st.bs⟩:=fun C a w ⟨D,β,h⟩=>by
 obtain ⟨D',h',hown⟩:=publish_core (T:=T) h hb hes hl hc
 have hj2:jV ((k,none)::st.bs) j=some (pre++.own k T s m::post):=by rw[jJ,if_neg hjk];exact hj
 have conv:∀ {i c},jV ((j,some (pre++SV.d (.sl T s es)::post))::(k,none)::st.bs) i=some c->∃ c',jV ((k,none)::st.bs) i=some c':=fun {i c} hi=>by
  rw[jJ] at hi
  split at hi
  ·rename_i e;subst e;exact ⟨_,hj2⟩
  ·exact ⟨c,hi⟩
 refine ⟨D',β,h'.base,⟨fun i c hi=>?_,fun i1 i2 c1 c2 q1 q2=>?_⟩,fun i c hi=>?_,h'.slots⟩
 ·rw[jJ] at hi
  split at hi
  ·rename_i e;subst e
   injection hi with hi;subst hi
   rcases h'.mem.ok j _ hj2 with q | ⟨b,vs,T2,q1,q2,q3,q4,q5⟩
   ·obtain ⟨_,q⟩:=q.cells (mapCs_at (i:=pre.length) (by rw[List.getElem?_append_right (Nat.le_refl _),Nat.sub_self];rfl) rfl);simp at q
   ·refine .inr ⟨b,vs,T2,q1,q2,by simpa using q3,fun i x hx=>?_,q5⟩
    by_cases h1:i<pre.length
    ·rw[List.getElem?_append_left h1] at hx
     exact q4 i x (by rw[List.getElem?_append_left h1];exact hx)
    ·rw[List.getElem?_append_right (by omega)] at hx
     cases hq:i-pre.length with
     |zero=>
      rw[hq] at hx
      simp at hx
      subst hx
      obtain ⟨u,e1,e2,e3⟩:=q4 i (.own k T s m) (by rw[List.getElem?_append_right (by omega),hq];rfl)
      exact ⟨u,e1,e2,hown u D' e3⟩
     |succ q=>
      rw[hq] at hx
      exact q4 i x (by rw[List.getElem?_append_right (by omega),hq];simpa using hx)
  ·exact h'.mem.ok i c hi
 ·obtain ⟨d1,g1⟩:=conv q1
  obtain ⟨d2,g2⟩:=conv q2
  exact h'.mem.inj i1 i2 d1 d2 g1 g2
 ·obtain ⟨d,g⟩:=conv hi
  exact h'.high i d g
end
theorem sim_mask{S:SL}{B:BS}{j:Nat}{cs:List SV}(i:Nat)(hb:jV B j=some cs)(hm:yL cs=false:=by first | exact hO _ | exact mapCs_rowC _ _ _ _ | kernel_rfl):kP ⟨S,B⟩ ⟨S,(j,some (cs.set i .junk))::B⟩:=fun C a w ⟨D,β,hs⟩=>by
 have conv:∀ {q c},jV ((j,some (cs.set i SV.junk))::B) q=some c->∃ c',jV B q=some c':=fun {q c} hq=>by
  rw[jJ] at hq
  split at hq
  ·rename_i e;subst e;exact ⟨_,hb⟩
  ·exact ⟨_,hq⟩
 refine ⟨D,β,hs.base,⟨fun q c hq=>?_,fun i1 i2 c1 c2 q1 q2=>?_⟩,fun q c hq=>?_,hs.slots⟩
 ·rw[jJ] at hq
  split at hq
  ·rename_i e;subst e
   injection hq with hq;subst hq
   refine blk_weak (hs.mem.ok _ cs hb) (by simp) (fun q x hx=>?_) hm
   rw[List.getElem?_set] at hx
   split at hx
   ·split at hx
    ·injection hx with hx;exact .inl hx.symm
    ·cases hx
   ·exact .inr hx
  ·exact hs.mem.ok q c hq
 ·obtain ⟨d1,g1⟩:=conv q1
  obtain ⟨d2,g2⟩:=conv q2
  exact hs.mem.inj i1 i2 d1 d2 g1 g2
 ·obtain ⟨d,g⟩:=conv hq
  exact hs.high q d g
theorem ownCell{S:SL}{B:BS}{j:Nat}{cs:List SV}(i k E s:Nat)(hj:jV B j=some cs)(hi:cs[i]?=some (.d (.val (.slice none 0 0))))(hf:zB k ⟨S,B⟩=true) :
  kP ⟨S,B⟩ ⟨S,(j,some (cs.set i (.own k E s 0)))::(k,some [])::B⟩:=fun C a w ⟨D,β,hs⟩=>by
 have hβ:∀ q,q≠k->(fun q=>if q=k then none else β q:kT) q=β q:=fun q hq=>by simp [hq]
 have hβ0:(fun q=>if q=k then none else β q:kT) k=none:=by simp
 generalize (fun q=>if q=k then none else β q:kT)=β' at hβ hβ0
 obtain ⟨hjk,hnm⟩:=dL hf hj
 have conv:∀ {q c},q≠k->jV ((j,some (cs.set i (SV.own k E s 0)))::(k,some [])::B) q=some c->∃ c',jV B q=some c':=fun {q c} hne hq=>by
  rw[jJ] at hq
  split at hq
  ·rename_i e;subst e;exact ⟨_,hj⟩
  ·rw[jJ,if_neg (fun e=>hne e.symm)] at hq;exact ⟨_,hq⟩
 refine ⟨D,β',hs.base,⟨fun q c hq=>?_,fun i1 i2 c1 c2 q1 q2 b e1 e2=>?_⟩,fun q c hq b e=>?_,fun t=>(hs.slots t).frame hβ (dS hf t)⟩
 ·rw[jJ] at hq
  split at hq
  ·rename_i e;subst e
   injection hq with hq;subst hq
   rcases hs.mem.ok _ cs hj with h | ⟨b,vs,T,h1,h2,h3,h4,h5⟩
   ·obtain ⟨h1,h2⟩:=h.cells (mapCs_at hi rfl);rw[h2] at hi;simp at hi
   ·refine .inr ⟨b,vs,T,(hβ _ hjk).trans h1,h2,by simpa using h3,fun q x hx=>?_,h5⟩
    rw[List.getElem?_set] at hx
    split at hx
    ·rename_i e;subst e
     split at hx
     ·injection hx with hx;subst hx
      obtain ⟨u,e1,e2,e3⟩:=h4 i _ hi
      exact ⟨u,e1,e2,.inl ⟨hβ0,rfl,qH e3⟩⟩
     ·cases hx
    ·obtain ⟨u,e1,e2,e3⟩:=h4 q x hx
     exact ⟨u,e1,e2,e3.frame hβ (names_get hnm hx)⟩
  ·rw[jJ] at hq
   split at hq
   ·rename_i e;subst e
    injection hq with hq;subst hq
    exact .inl (.inl ⟨hβ0,rfl⟩)
   ·obtain ⟨g1,g2⟩:=dL hf hq
    exact (hs.mem.ok q c hq).frame hβ g1 g2
 ·have n1:i1≠k:=fun e=>by rw[e,hβ0] at e1;cases e1
  have n2:i2≠k:=fun e=>by rw[e,hβ0] at e2;cases e2
  obtain ⟨d1,g1⟩:=conv n1 q1
  obtain ⟨d2,g2⟩:=conv n2 q2
  exact hs.mem.inj i1 i2 d1 d2 g1 g2 b ((hβ _ n1).symm.trans e1) ((hβ _ n2).symm.trans e2)
 ·have n1:q≠k:=fun e'=>by rw[e',hβ0] at e;cases e
  obtain ⟨d,g⟩:=conv n1 hq
  exact hs.high q d g b ((hβ _ n1).symm.trans e)
theorem pwp_own{P:Program}{n:Fr}{c:Code}{Q:Exit->PS->Prop}{S:SL}{B:BS}(j i k E s:Nat){cs:List SV}(hj:jV B j=some cs:=by kernel_rfl)(hi:cs[i]?=some (.d (.val (.slice none 0 0))):=by kernel_rfl)(h1:(S.all fun p=>!p.2.names k)=true:=by kernel_rfl)
  (h2:FrB k B:=by repeat first | exact frb_nil _ | refine frb_map rfl ?_ | refine frb_d rfl ?_ | refine frb_cs rfl rfl ?_ | refine frb_none rfl ?_) (h:cR P n c Q ⟨S,(j,some (cs.set i (.own k E s 0)))::(k,some [])::B⟩):cR P n c Q ⟨S,B⟩ :=
 kU (ownCell i k E s hj hi (freshB_of h1 h2)) h
section
variable {P:Program} {n:Fr} {ops:Array Oper} {K:SL->BS->Prop} {S:SL} {B:BS} {l:List Oper} {o:Oper} {α:Type} {T E t':TypeId} {x y:Operand} {k s m bytes:Nat} {zv:List Value}
theorem oSx{k j E s N off:Nat}{old:List SV}(hs:kQ P T=some (false,1))(ho:o.op=.store T x y:=by exact rfl)(hx:ev (jR S) x=.ref k off:=by exact rfl)(hy:ev (jR S) y=.own j E s N:=by exact rfl)(hb:jV B k=some old:=by exact rfl)(hle:Nat.ble (off+1) old.length=true:=by kernel_rfl)(hm:yL old=false:=by first | exact hO _ | kernel_rfl):TK P o S B k (patch old off [.own j E s N]) :=
 ⟨_,t_store ho hx hy hs (.inr ⟨⟨j,E,s,N,rfl⟩,rfl⟩) rfl (Nat.le_of_ble_eq_true hle) hm,hb⟩
variable {news:List Nat} {acc0:List (List Nat × List Nat)}
end
section
variable {P:Program}
end
section
variable {P:Program} {o:Oper} {S:Nat->SV}
end
section
variable {P:Program}
end
section
variable {P:Program} {o:Oper} {S:Nat->SV}
end
theorem ne_len{T:List (List Int)}(h:0<T.length):T≠[]:=fun e=>by rw[e] at h;exact absurd h (by decide)
theorem rect_lo{w:Nat}{T:List (List Int)}(h:Rect w T):Rect ((w+1) / 2) (T.map loS):=fun r hr=>by
 obtain ⟨q,hq,rfl⟩:=List.mem_map.1 hr;rw[loS_len,h q hq]
end Go.Fid
