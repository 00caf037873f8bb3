/- Part 12 of a proof: rules, plain facts, and functions walked. -/
import Derived.Test.YteimogfidbkpnaaGreatM11
set_option linter.all false
namespace Go.Fid
open Go.RowKit (Below)
section
variable {P:Program} {o:Oper} {S:Nat→SV}
theorem e_mkf{f:FuncId}{ks:List Nat}{caps:List Operand}(ho:o.op=.makeFunc (.func f) #[] caps.toArray)(hx:caps.map (ev S)=ks.map (fun k=>.ref k 0)):qX P o S [] (.clo f ks) :=
 qX.same fun a w D β hop _=>by
  refine ⟨.func (.func f) #[] (caps.map a.eval).toArray,?_,caps.map a.eval,rfl,?_,fun i k hk=>?_⟩
  ·simp only[execOp,ho,Instr.makeFunc,Array.map_empty,List.map_toArray,Sem.run_bind,Sem.run_pure,Result.andThen_ok]
   rfl
  ·simpa using congrArg List.length hx
  ·have hi:=congrArg (fun l:List SV=>l[i]?) hx
   simp only[List.getElem?_map,hk,Option.map_some,Option.map_eq_some_iff] at hi
   obtain ⟨c,hc,e⟩:=hi
   have hm:=hop c (by simp [ho,Op.operands,List.mem_of_getElem? hc])
   rw[e] at hm
   obtain ⟨b,h1,h2⟩:=hm
   exact ⟨b,h1,by rw[List.getElem?_map,hc,Option.map_some,h2]⟩
theorem oMf{f:FuncId}{caps:List Operand}(ks:List Nat)(ho:o.op=.makeFunc (.func f) #[] caps.toArray:=by exact rfl)(hx:caps.map (ev S)=ks.map (fun k=>.ref k 0):=by kernel_rfl):qX P o S [] (.clo f ks):=e_mkf ho hx
end
def RKs(P:Program)(o:Oper)(S:SL)(B:BS)(ks:List Nat)(x:SV):Prop:=∃ rd:List (Nat × List SV),rd.map (·.1)=ks∧qX P o (jW S) rd x∧∀ p∈rd,kD B p.1=some p.2
section
variable {P:Program} {n:Fr} {ops:Array Oper} {K:SL→BS→Prop} {S:SL} {B:BS} {l:List Oper} {o:Oper} {news:List Nat} {acc0:List (List Nat × List Nat)}
theorem zC{ks:List Nat}{x:SV}(h:RKs P o S B ks x)(r:SK P n ops K ((dO o,x)::S) B l)(g:goK n ops S o=true:=by kernel_rfl):SK P n ops K S B (o::l):=by
 obtain ⟨st1,r1,r2⟩:=r
 obtain ⟨rd,_,h,hbk⟩:=h
 obtain ⟨hd,hg,hb⟩:=yW g
 have hs:=Step.e (P:=P) (n:=n) (ops:=ops) (st:=⟨S,B⟩) (o:=o) h hg (by rw[hd];exact hb) hbk
 rw[hd] at hs
 exact ⟨st1,.cons hs r1,r2⟩
theorem wC{ks:List Nat}{x:SV}(h:RKs P o S B ks x)(r:DK P n ops K news (acc0++[(ks,[])]) ((dO o,x)::S) B l)(g:goK n ops S o=true:=by kernel_rfl)(hn:clearR ops S o news x=true:=by kernel_rfl):DK P n ops K news acc0 S B (o::l):=by
 obtain ⟨st1,acc,r1,r0,r2⟩:=r
 obtain ⟨rd,hk,h,hbk⟩:=h
 obtain ⟨hd,hg,hb⟩:=yW g
 have hs:=gY.e (P:=P) (n:=n) (ops:=ops) (news:=news) (st:=⟨S,B⟩) (o:=o) h hg (by rw[hd];exact hb) hbk hn
 rw[hd,hk] at hs
 exact ⟨st1,(ks,[])::acc,.cons hs r1,by simpa using r0,r2⟩
end
inductive CArgs (bl:List (Nat × List jQ)):List Nat→List (List jQ)→Prop
 |nil:CArgs bl [] []
 |cons {k:Nat} {cs:List jQ} {ks:List Nat} {css:List (List jQ)} (hk:(k,cs)∈bl) (h:CArgs bl ks css):CArgs bl (k::ks) (cs::css)
theorem CArgs.len{bl:List (Nat × List jQ)}{ks:List Nat}{css:List (List jQ)}(h:CArgs bl ks css):ks.length=css.length:=by
 induction h with
 |nil=>rfl
 |cons hk h ih=>simp [ih]
theorem CArgs.get{bl:List (Nat × List jQ)}{ks:List Nat}{css:List (List jQ)}(h:CArgs bl ks css):∀ (i:Nat) k cs,ks[i]?=some k→css[i]?=some cs→(k,cs)∈bl:=by
 induction h with
 |nil=>intro i k cs h;simp at h
 |cons hk h ih=>
  intro i k cs h1 h2
  rcases i with _ | i
  ·simp at h1 h2;subst h1;subst h2;exact hk
  ·exact ih i k cs (by simpa using h1) (by simpa using h2)
inductive cS (bl:List (Nat × List jQ)) (E:TypeId):List SV→List jQ→Prop
 |nil:cS bl E [] []
 |d {x:jQ} {zs:List SV} {ds:List jQ} (h:cS bl E zs ds):cS bl E (.d x::zs) (x::ds)
 |v {k q n s:Nat} {cs es:List jQ} {zs:List SV} {ds:List jQ} (hk:(k,cs)∈bl) (hes:∀ e∈es,e.cells.length=s) (hl:es.length=n) (hc:(cs.drop q).take (n*s)=qA es) (h:cS bl E zs ds):cS bl E (.view k q n::zs) (.sl E s es::ds)
 |p {k o:Nat} {cs:List jQ} {zs:List SV} {ds:List jQ} (hk:(k,cs)∈bl) (h:cS bl E zs ds):cS bl E (.ref k o::zs) (.cptr E cs o::ds)
 |c {f:FuncId} {ks:List Nat} {css:List (List jQ)} {zs:List SV} {ds:List jQ} (hk:CArgs bl ks css) (h:cS bl E zs ds):cS bl E (.clo f ks::zs) (.clo f (css.map fun cs=>.cptr E cs 0)::ds)
theorem cS.len{bl:List (Nat × List jQ)}{E:TypeId}{zs:List SV}{ds:List jQ}(h:cS bl E zs ds):zs.length=ds.length:=by
 induction h with
 |nil=>rfl
 |d h ih=>simp [ih]
 |v hk hes hl hc h ih=>simp [ih]
 |p hk h ih=>simp [ih]
 |c hk h ih=>simp [ih]
theorem cS.rep{bl:List (Nat × List jQ)}{E:TypeId}{zs:List SV}{ds:List jQ}(h:cS bl E zs ds){w:World}{D D':qE}{β:qD}(h1:∀ v x,uT w D v x→uT w D' v x)
  (h2:∀ (k q n s:Nat) (cs es:List jQ) (v:Value),(k,cs)∈bl→(∀ e∈es,e.cells.length=s)→es.length=n→(cs.drop q).take (n*s)=qA es→qG w D β v (.view k q n)→uT w D' v (.sl E s es))
  (h3:∀ (k o:Nat) (cs:List jQ) (v:Value),(k,cs)∈bl→qG w D β v (.ref k o)→uT w D' v (.cptr E cs o)) :
  ∀ (vs:List Value),vs.length=zs.length→(∀ (i:Nat) v x,vs[i]?=some v→zs[i]?=some x→qG w D β v x)→∀ (i:Nat) v d,vs[i]?=some v→ds[i]?=some d→uT w D' v d:=by
 induction h with
 |nil=>intro vs _ _ i v d _ hd;simp at hd
 |d h ih=>
  intro vs hl hr i v d' hv hd
  rcases vs with _ | ⟨v0,vs⟩
  ·simp at hl
  ·rcases i with _ | i
   ·simp at hv hd;subst hv;subst hd;exact h1 _ _ (hr 0 _ _ rfl rfl)
   ·exact ih vs (by simpa using hl) (fun i v x h3 h4=>hr (i+1) v x (by simpa using h3) (by simpa using h4)) i v d' (by simpa using hv) (by simpa using hd)
 |v hk hes hl' hc h ih=>
  intro vs hl hr i v d' hv hd
  rcases vs with _ | ⟨v0,vs⟩
  ·simp at hl
  ·rcases i with _ | i
   ·simp at hv hd;subst hv;subst hd;exact h2 _ _ _ _ _ _ _ hk hes hl' hc (hr 0 _ _ rfl rfl)
   ·exact ih vs (by simpa using hl) (fun i v x h3 h4=>hr (i+1) v x (by simpa using h3) (by simpa using h4)) i v d' (by simpa using hv) (by simpa using hd)
 |p hk h ih=>
  intro vs hl hr i v d' hv hd
  rcases vs with _ | ⟨v0,vs⟩
  ·simp at hl
  ·rcases i with _ | i
   ·simp at hv hd;subst hv;subst hd;exact h3 _ _ _ _ hk (hr 0 _ _ rfl rfl)
   ·exact ih vs (by simpa using hl) (fun i v x h3 h4=>hr (i+1) v x (by simpa using h3) (by simpa using h4)) i v d' (by simpa using hv) (by simpa using hd)
 |c hk h ih=>
  intro vs hl hr i v d' hv hd
  rcases vs with _ | ⟨v0,vs⟩
  ·simp at hl
  ·rcases i with _ | i
   ·simp at hv hd;subst hv;subst hd
    obtain ⟨us,e1,e2,e3⟩:=hr 0 _ _ rfl rfl
    rw[e1]
    refine .clo us (by rw[e2,hk.len,List.length_map]) fun j u d hu hd=>?_
    rw[List.getElem?_map,Option.map_eq_some_iff] at hd
    obtain ⟨cs,hcs,rfl⟩:=hd
    have hlt:j<_:=(List.getElem?_eq_some_iff.1 hcs).1
    rw[← hk.len] at hlt
    obtain ⟨b,g1,g2⟩:=e3 j _ (List.getElem?_eq_getElem hlt)
    rw[hu] at g2
    injection g2 with g2
    exact h3 _ 0 cs u (hk.get j _ cs (List.getElem?_eq_getElem hlt) hcs) ⟨b,g1,g2⟩
   ·exact ih vs (by simpa using hl) (fun i v x h3 h4=>hr (i+1) v x (by simpa using h3) (by simpa using h4)) i v d' (by simpa using hv) (by simpa using hd)
theorem blk_pub{w:World}{D:qE}{β:qD}{bl:List (Nat × List jQ)}{E:TypeId}(hD:DOk D w)(hbl:∀ p∈bl,vA w D β p.1 (p.2.map SV.d)) :
  ∃ X:TypeId→Nat→Nat→Prop,DOk (fun t g i=>D t g i∨X t g i) w∧(∀ t g i,X t g i→t=E∧∀ t' i',¬ D t' g i') ∧
   (∀ (k q n s:Nat) (cs es:List jQ) (v:Value),(k,cs)∈bl→(∀ e∈es,e.cells.length=s)→es.length=n→(cs.drop q).take (n*s)=qA es→qG w D β v (.view k q n)→uT w (fun t g i=>D t g i∨X t g i) v (.sl E s es)) ∧
   (∀ (k o:Nat) (cs:List jQ) (v:Value),(k,cs)∈bl→qG w D β v (.ref k o)→uT w (fun t g i=>D t g i∨X t g i) v (.cptr E cs o)):=by
 let X:TypeId→Nat→Nat→Prop:=fun t g _=>t=E∧∃ p∈bl,β p.1=some g
 have hcap:∀ p∈bl,∀ b,β p.1=some b→∃ us T',w.heap[b]?=some (.cells us T' (0,0))∧(∀ (j:Nat) x,(p.2.map SV.d)[j]?=some x→∃ u,us[j]?=some u∧u.oneCell'=true∧qG w D β u x)∧∀ t o,¬ D t b o:=fun p hp b hb=>by
  rcases hbl p hp with ⟨g1,_⟩ | ⟨b',us,T',g1,g2,g3,g4,g5⟩
  ·rw[hb] at g1;cases g1
  ·obtain rfl:b=b':=by rw[hb] at g1;injection g1
   exact ⟨us,T',g2,g4,g5⟩
 have hmono:∀ t' g i,D t' g i→(D t' g i∨X t' g i)∧w.cell? ⟨g,i,none⟩=w.cell? ⟨g,i,none⟩:=fun t' g i hd=>⟨.inl hd,rfl⟩
 refine ⟨X,fun t g i hd=>?_,fun t g i ⟨h1,p,hp,hb⟩=>?_,?_,?_⟩
 ·rcases hd with hd | ⟨_,p,hp,hb⟩
  ·exact hD _ _ _ hd
  ·obtain ⟨us,T',g2,_,_⟩:=hcap p hp g hb;exact uN g2
 ·obtain ⟨us,T',_,_,g5⟩:=hcap p hp g hb
  exact ⟨h1,fun t' i'=>g5 t' i'⟩
 ·intro k q n s cs es v hk hes hl hc hv
  obtain ⟨b,cap,h1,h2,h5,h6⟩:=hv
  obtain ⟨us,T',g2,g4,g5⟩:=hcap (k,cs) hk b h1
  rw[h2]
  have hfl:=uZ hes
  have hcell:∀ i,w.cell? ⟨b,i,none⟩=us[i]?:=fun i=>cell_of_row w b i us T' (0,0) g2
  have key:∀ (i:Nat) d,(qA es)[i]?=some d→∃ u,us[q+i]?=some u∧u.oneCell'=true∧uT w D u d:=fun i d hd=>by
   have hi:i<n*s:=by
    have:=(List.getElem?_eq_some_iff.1 hd).1
    rw[hfl,hl] at this;exact this
   have e1:cs[q+i]?=some d:=by
    rw[← hc,List.getElem?_take_of_lt hi,List.getElem?_drop] at hd
    exact hd
   exact g4 _ (.d d) (by rw[List.getElem?_map,e1];rfl)
  refine uT.sl b q (fun i=>us.getD (q+i) undef) hl.symm h5 h6 hes (fun _=>rfl) (fun i hi=>.inr ⟨rfl,_,hk,h1⟩) (fun i hi=>?_) (fun i hi=>?_) (fun i d hd=>?_)
  ·obtain ⟨x,q1,q2,q3⟩:=key i _ (List.getElem?_eq_getElem hi)
   rw[hcell,Array.getD_eq_getD_getElem?,q1];rfl
  ·obtain ⟨x,q1,q2,q3⟩:=key i _ (List.getElem?_eq_getElem hi)
   rw[Array.getD_eq_getD_getElem?,q1];exact q2
  ·obtain ⟨x,q1,q2,q3⟩:=key i d hd
   rw[Array.getD_eq_getD_getElem?,q1]
   exact uT.mono hmono q3
 ·intro k o cs v hk hv
  obtain ⟨b,h1,h2⟩:=hv
  obtain ⟨us,T',g2,g4,g5⟩:=hcap (k,cs) hk b h1
  rw[h2]
  have hcell:∀ i,w.cell? ⟨b,i,none⟩=us[i]?:=fun i=>cell_of_row w b i us T' (0,0) g2
  have key:∀ (i:Nat) d,cs[i]?=some d→∃ u,us[i]?=some u∧u.oneCell'=true∧uT w D u d:=fun i d hd=>g4 _ (.d d) (by rw[List.getElem?_map,hd];rfl)
  have hp:=uT.cptr (w:=w) (D:=fun t g i=>D t g i∨X t g i) (t:=E) (cs:=cs) (off:=o) b 0 (fun i=>us.getD i undef) (fun i hi=>.inr ⟨rfl,_,hk,h1⟩) (fun i hi=>by
   obtain ⟨x,q1,q2,q3⟩:=key i _ (List.getElem?_eq_getElem hi)
   rw[Nat.zero_add,hcell,Array.getD_eq_getD_getElem?,q1];rfl) (fun i hi=>by
   obtain ⟨x,q1,q2,q3⟩:=key i _ (List.getElem?_eq_getElem hi)
   rw[Array.getD_eq_getD_getElem?,q1];exact q2) (fun i d hd=>by
   obtain ⟨x,q1,q2,q3⟩:=key i d hd
   rw[Array.getD_eq_getD_getElem?,q1]
   exact uT.mono hmono q3)
  rw[Nat.zero_add] at hp
  exact hp
theorem e_clg{P:Program}{o:Oper}{S:Nat→SV}{y:Operand}{xs:List Operand}{ats:Array TypeId}{f:FuncId}{ds:List jQ}{r:jQ}{zs:List SV}{E:TypeId}{bl:List (Nat × List jQ)}(hf:jR P f ds r)(ho:o.op=.call { callee:=.value y,args:=xs.toArray,argTypes:=ats })(hy:ev S y=.d (.val (.func (.func f) #[] #[])))
  (hx:xs.map (ev S)=zs) (hz:cS bl E zs ds) (ha:zP E r):qX P o S (bl.map fun p=>(p.1,p.2.map SV.d)) (.d r) :=
 fun a w D β Q hop hrd hD=>by
  have hyv:=hop y (by simp [ho,Op.operands,Call.operands])
  rw[hy] at hyv
  have hyv':=uF hyv
  have hrep:∀ (i:Nat) v x,(xs.map a.eval)[i]?=some v→zs[i]?=some x→qG w D β v x:=fun i v x hv hz'=>by
   rw[List.getElem?_map,Option.map_eq_some_iff] at hv
   obtain ⟨p,hqi,rfl⟩:=hv
   have hm:=hop p (by simp [ho,Op.operands,Call.operands,List.mem_of_getElem? hqi])
   have hi:=congrArg (fun l:List SV=>l[i]?) hx
   simp only[List.getElem?_map,hqi,hz',Option.map_some,Option.some.injEq] at hi
   rw[hi] at hm
   exact hm
  have uB:(xs.map a.eval).length=zs.length:=by rw[← hx];simp
  have hrun:(execOp a.eval o).run P w=.ok (.enter f (xs.map a.eval).toArray) w:=by
   simp only[execOp,ho,resolve,Deferred.ofValue,hyv',Sem.run_bind,Sem.run_pure,Result.andThen_ok,invoke,Array.empty_append,Array.append_empty]
   rw[yQ hf.may]
   simp
  obtain ⟨X,hD',hXp,hv,hp⟩:=blk_pub (E:=E) (bl:=bl) hD (fun p hp=>hrd (p.1,p.2.map SV.d) (List.mem_map_of_mem (f:=fun p:Nat × List jQ=>(p.1,p.2.map SV.d)) hp))
  have hmono:∀ t' g i,D t' g i→(D t' g i∨X t' g i)∧w.cell? ⟨g,i,none⟩=w.cell? ⟨g,i,none⟩:=fun t' g i hd=>⟨.inl hd,rfl⟩
  have hargs:Args w (fun t g i=>D t g i∨X t g i) (xs.map a.eval) ds:=⟨uB.trans hz.len,hz.rep (fun v x h=>uT.mono hmono h) hv hp _ uB hrep⟩
  refine cD hrun ((hf.run w _ _ hD' hargs).mono fun e w' h=>?_)
  obtain ⟨v,D2,he,h1,h2,h3⟩:=h
  refine ⟨v,he,v,fun t g i=>D2 t g i∧¬ X t g i,rfl,h1,⟨fun t g i hd=>⟨h2.up _ _ _ (.inl hd),fun hx'=>(hXp t g i hx').2 t i hd⟩,fun t g i hd=>?_⟩,?_⟩
  ·rcases h2.new t g i hd.1 with h | h
   ·rcases h with h | h
    ·exact .inl h
    ·exact absurd h hd.2
   ·exact .inr h
  ·exact ha.rep (fun t g i hne hd=>⟨hd,fun hx'=>hne (hXp t g i hx').1⟩) h3
theorem oCg{P:Program}{o:Oper}{S:SL}{B:BS}{y:Operand}{xs:List Operand}{ats:Array TypeId}{f:FuncId}{ds:List jQ}{r:jQ}(bl:List (Nat × List jQ))(zs:List SV)(hf:jR P f ds r)(hz:cS bl 1000000 zs ds)(ha:zP 1000000 r)
  (ho:o.op=.call { callee:=.value y,args:=xs.toArray,argTypes:=ats }:=by exact rfl) (hy:ev (jW S) y=.d (.val (.func (.func f) #[] #[])):=by kernel_rfl) (hx:xs.map (ev (jW S))=zs:=by kernel_rfl)
  (hb:bl.map (fun p=>kD B p.1)=bl.map (fun p=>some (p.2.map SV.d)):=by kernel_rfl) {ks:List Nat} (hks:bl.map (·.1)=ks:=by exact rfl):RKs P o S B ks (.d r):=by
 refine ⟨bl.map fun p=>(p.1,p.2.map SV.d),by rw[List.map_map];exact hks,e_clg hf ho hy hx hz ha,fun p hp=>?_⟩
 obtain ⟨q,hq,rfl⟩:=List.mem_map.1 hp
 exact List.map_inj_left.1 hb q hq
theorem pub_ptr_core{C:eP}{a:Act}{w:World}{st:PS}{D:qE}{β:qD}{k:Nat}{T:TypeId}{cs:List jQ}(h:SimAt C a w st D β)(hb:kD st.bs k=some (cs.map SV.d)) :
  ∃ D',SimAt C a w ⟨st.sl,(k,none)::st.bs⟩ D' β∧∀ v o,qG w D β v (.ref k o)→uT w D' v (.cptr T cs o):=by
 have hbs:∀ {j:Nat} {c:List SV},kD ((k,none)::st.bs) j=some c→j≠k∧kD st.bs j=some c:=fun {j c} hj=>by
  rw[jK] at hj
  split at hj
  ·cases hj
  ·rename_i e;exact ⟨fun e'=>e e'.symm,hj⟩
 rcases h.mem.ok k _ hb with ⟨g1,hcs⟩ | ⟨b,vs,T',g1,g2,g3,g4,g5⟩
 ·refine ⟨D,⟨h.base,⟨fun j c hj=>h.mem.ok j c (hbs hj).2,fun j1 j2 c1 c2 q1 q2=>h.mem.inj j1 j2 c1 c2 (hbs q1).2 (hbs q2).2⟩,fun j c hj=>h.high j c (hbs hj).2,h.slots⟩,fun v o hv=>?_⟩
  obtain ⟨b,h1,_⟩:=hv
  rw[h1] at g1;cases g1
 ·have hlt:=uN g2
  have hmono:∀ t' g o,D t' g o→(D t' g o∨(t'=T∧g=b∧o<cs.length))∧w.cell? ⟨g,o,none⟩=w.cell? ⟨g,o,none⟩:=fun t' g o hd=>⟨.inl hd,rfl⟩
  have hS:∀ {v x},qG w D β v x→qG w (fun t' g o=>D t' g o∨(t'=T∧g=b∧o<cs.length)) β v x:=fun {v x} hr=>by
   cases x with
   |d x=>exact uT.mono hmono hr
   |ref k o=>exact hr
   |own k t s n=>exact hr
   |clo f ks=>exact hr
   |emp=>exact hr
   |view k o n=>exact hr
   |hob u b ob=>exact hr
   |pr k t s n x=>obtain ⟨v1,v2,e,h1,h2⟩:=hr;exact ⟨v1,v2,e,h1,uT.mono hmono h2⟩
   |refx k o b=>exact hr
   |bnd f k o=>exact hr
   |ownx k t s n u=>exact hr
   |junk=>trivial
  refine ⟨fun t' g o=>D t' g o∨(t'=T∧g=b∧o<cs.length),⟨⟨h.base.defers,h.base.size,h.base.keep,h.base.oth,h.base.pin,h.base.below,fun t' g o hd=>.inl (h.base.dmono _ _ _ hd),fun t' g o hd=>?_,fun t' g o hd=>?_⟩,⟨fun j c hj=>?_,fun j1 j2 c1 c2 q1 q2=>h.mem.inj j1 j2 c1 c2 (hbs q1).2 (hbs q2).2⟩,fun j c hj=>h.high j c (hbs hj).2,fun u=>hS (h.slots u)⟩,fun v o hv=>?_⟩
  ·rcases hd with hd | ⟨_,e,_⟩
   ·exact h.base.dnew _ _ _ hd
   ·subst e;exact .inr (h.high k _ hb g g1)
  ·rcases hd with hd | ⟨_,e,_⟩
   ·exact h.base.dok _ _ _ hd
   ·subst e;exact hlt
  ·obtain ⟨hne,hj'⟩:=hbs hj
   rcases h.mem.ok j c hj' with q | ⟨b2,vs2,T2,q1,q2,q3,q4,q5⟩
   ·exact .inl q
   ·refine .inr ⟨b2,vs2,T2,q1,q2,q3,fun i x hx=>?_,fun t' o hd=>?_⟩
    ·obtain ⟨u,e1,e2,e3⟩:=q4 i x hx
     exact ⟨u,e1,e2,hS e3⟩
    ·rcases hd with hd | ⟨_,e,_⟩
     ·exact q5 _ _ hd
     ·subst e;exact hne (h.mem.inj j k _ _ hj' hb b2 q1 g1)
  ·obtain ⟨b2,h1,h2⟩:=hv
   obtain rfl:b=b2:=by rw[h1] at g1;injection g1 with g1;exact g1.symm
   rw[h2]
   have hcell:∀ i,w.cell? ⟨b,i,none⟩=vs[i]?:=fun i=>cell_of_row w b i vs T' (0,0) g2
   have key:∀ (i:Nat) d,cs[i]?=some d→∃ u,vs[i]?=some u∧u.oneCell'=true∧uT w D u d:=fun i d hd=>g4 _ (.d d) (by rw[List.getElem?_map,hd];rfl)
   have hp:=uT.cptr (w:=w) (D:=fun t' g o=>D t' g o∨(t'=T∧g=b∧o<cs.length)) (t:=T) (cs:=cs) (off:=o) b 0 (fun i=>vs.getD i undef) (fun i hi=>.inr ⟨rfl,rfl,by rw[Nat.zero_add];exact hi⟩) (fun i hi=>by
    obtain ⟨x,q1,q2,q3⟩:=key i _ (List.getElem?_eq_getElem hi)
    rw[Nat.zero_add,hcell,Array.getD_eq_getD_getElem?,q1];rfl) (fun i hi=>by
    obtain ⟨x,q1,q2,q3⟩:=key i _ (List.getElem?_eq_getElem hi)
    rw[Array.getD_eq_getD_getElem?,q1];exact q2) (fun i d hd=>by
    obtain ⟨x,q1,q2,q3⟩:=key i d hd
    rw[Array.getD_eq_getD_getElem?,q1]
    exact uT.mono hmono q3)
   rw[Nat.zero_add] at hp
   exact hp
theorem publishP{st:PS}{t k o:Nat}{T:TypeId}{cs:List jQ}(hs:jW st.sl t=.ref k o)(hb:kD st.bs k=some (cs.map SV.d)):kB st ⟨(t,.d (.cptr T cs o))::st.sl,(k,none)::st.bs⟩:=fun C a w ⟨D,β,h⟩=>by
 obtain ⟨D',h',hp⟩:=pub_ptr_core (T:=T) h hb
 have ht:=h.slots t
 rw[hs] at ht
 refine ⟨D',β,h'.base,h'.mem,h'.high,fun u=>?_⟩
 show qG w D' β _ (jW ((t,.d (.cptr T cs o))::st.sl) u)
 rw[qO]
 split
 ·rename_i e;subst e;exact hp _ _ ht
 ·exact h'.slots u
variable {P:Program}
def intFs(P:Program):List Field→Nat→Bool
 |[],_=>true
 | f :: l, i => (f.name != "_") && (Nat.beq f.offset i && ((match P.underlying f.type with | some (.int _) => true | _ => false) && intFs P l (i + 1)))
def eqsB(P:Program)(T:TypeId):Option Nat :=
 match P.underlying T with
 |some (.struct fs)=>if intFs P fs.toList 0&&(!P.stoodInHeld T&&!P.eqGuardType P.depth T) then some fs.size else none
 |_=>none
theorem run_part_int{t:TypeId}{ms:List Int}{i:Nat}{m:Int}{k j:IntKind}(ht:P.underlying t=some (.int j))(hi:ms[i]?=some m)(w:World):(part t (ms.map (Value.int k)).toArray i).run P w=.ok (.int k m) w:=by
 have h2:(ms.map (Value.int k))[i]?=some (.int k m):=by rw[List.getElem?_map,hi];rfl
 simp [part,eF ht,isAggD,h2]
theorem run_eqInt{t:TypeId}{k j:IntKind}{m n:Int}(ht:P.underlying t=some (.int j))(d:Nat)(w:World):(Op.equalIn (d+1) t (.int k m) (.int k n)).run P w=.ok (m == n) w:=by
 simp [Op.equalIn,run_underlying ht]
theorem run_fs(k:IntKind)(d:Nat)(w:World)(ms ns:List Int):∀ (l:List Field) (i:Nat),intFs P l i=true→ms.length=i+l.length→ns.length=i+l.length →
  Sem.run P (forIn l ((none,()):Option Bool × Unit) fun f _=>
      if f.name = "_" then pure (ForInStep.yield (none, ()))
      else do
       let a ← part f.type (List.map (Value.int k) ms).toArray f.offset
       let b ← part f.type (List.map (Value.int k) ns).toArray f.offset
       let c ← Op.equalIn (d+1) f.type a b
       if c=false then pure (ForInStep.done (some false,())) else pure (ForInStep.yield (none,()))) w=.ok (if ms.drop i=ns.drop i then (none,()) else (some false,())) w
 |[],i,_,h1,h2=>by
  have e1:ms.drop i=[]:=List.drop_eq_nil_of_le (by simp at h1;omega)
  have e2:ns.drop i=[]:=List.drop_eq_nil_of_le (by simp at h2;omega)
  rw[e1,e2];simp
 |f::l,i,h,h1,h2=>by
  unfold intFs at h
  simp only[Bool.and_eq_true,bne_iff_ne,ne_eq] at h
  obtain ⟨g1,g2,g3,g4⟩:=h
  have g2:f.offset=i:=Nat.eq_of_beq_eq_true g2
  have hd:∃ j,P.underlying f.type=some (.int j):=by
   split at g3
   ·rename_i j e;exact ⟨j,e⟩
   ·cases g3
  obtain ⟨j,hj⟩:=hd
  simp only[List.length_cons] at h1 h2
  have b1:i<ms.length:=by omega
  have b2:i<ns.length:=by omega
  have ih:=run_fs k d w ms ns l (i+1) g4 (by omega) (by omega)
  have e1:=List.drop_eq_getElem_cons b1
  have e2:=List.drop_eq_getElem_cons b2
  simp only[List.forIn_cons,g1,if_false,g2,Sem.run_bind,run_part_int hj (List.getElem?_eq_getElem b1),run_part_int hj (List.getElem?_eq_getElem b2),Result.andThen_ok,run_eqInt hj]
  by_cases he:ms[i]=ns[i]
  ·have hx:(ms.drop i=ns.drop i)=(ms.drop (i+1)=ns.drop (i+1)):=by
    rw[e1,e2,he]
    exact propext ⟨fun h=>(List.cons.inj h).2,fun h=>by rw[h]⟩
   simp only[he,beq_self_eq_true,Bool.true_eq_false,if_false,Sem.run_pure,Result.andThen_ok]
   rw[ih]
   simp only[hx]
  ·have hx:¬ ms.drop i=ns.drop i:=by
    rw[e1,e2]
    exact fun h=>he (List.cons.inj h).1
   have hb:(ms[i] == ns[i])=false:=by simp [he]
   simp only[hb,if_true,Sem.run_pure,Result.andThen_ok,if_neg hx]
theorem run_eqS{T:TypeId}{c:Nat}(h:eqsB P T=some c)(k:IntKind)(ms ns:List Int)(h1:ms.length=c)(h2:ns.length=c)(w:World) :
  (Op.equal T (.agg (ms.map (Value.int k)).toArray) (.agg (ns.map (Value.int k)).toArray)).run P w=.ok (decide (ms=ns)) w∧P.eqGuardType P.depth T=false:=by
 unfold eqsB at h
 split at h
 ·rename_i fs hT
  split at h
  ·rename_i hq
   simp only[Bool.and_eq_true,Bool.not_eq_true'] at hq
   injection h with h
   refine ⟨?_,hq.2.2⟩
   show (Op.equalIn (9998+2) T _ _).run P w=_
   rw[Op.equalIn]
   have hl:=run_fs k 9998 w ms ns fs.toList 0 hq.1 (by simp;omega) (by simp;omega)
   rw[Array.forIn_toList] at hl
   simp [run_underlying hT,hq.2.1]
   have hl2:=hl
   simp only[List.drop_zero] at hl2
   rw[hl2]
   by_cases e:ms=ns
   ·simp [e]
   ·simp [e]
  ·cases h
 ·cases h
theorem rep_ints{w:World}{D:qE}{v:Value}{k:IntKind}{ms:List Int}(h:uT w D v (.agg (ms.map fun m=>.val (.int k m)))):v=.agg (ms.map (Value.int k)).toArray:=by
 obtain ⟨vs,rfl,hl,_,hr⟩:=rep_agg h
 have e:vs=ms.map (Value.int k):=by
  refine List.ext_getElem (by simpa using hl) fun i h1 h2=>?_
  have hi:i<ms.length:=by simpa using h2
  have:=uF (hr i vs[i] (.val (.int k ms[i])) (List.getElem?_eq_getElem h1) (by rw[List.getElem?_map,List.getElem?_eq_getElem hi];rfl))
  rw[this];simp
 rw[e]
theorem e_eqs{o:Oper}{S:Nat→SV}{T T':TypeId}{x y:Operand}{k:IntKind}{ms ns:List Int}{c:Nat}(ho:o.op=.binOp .eql T x y T')(hT:eqsB P T=some c)(hx:ev S x=.d (.agg (ms.map fun m=>.val (.int k m))))(hy:ev S y=.d (.agg (ns.map fun m=>.val (.int k m))))(h1:ms.length=c)(h2:ns.length=c):qX P o S [] (.d (.val (.bool (decide (ms=ns))))) :=
 qX.same fun a w D β hop _=>by
  have hx':=hop x (by simp [ho,Op.operands])
  have hy':=hop y (by simp [ho,Op.operands])
  rw[hx] at hx'
  rw[hy] at hy'
  have ex:=rep_ints hx'
  have ey:=rep_ints hy'
  obtain ⟨g1,g2⟩:=run_eqS hT k ms ns h1 h2 w
  refine ⟨.bool (decide (ms=ns)),?_,.val _⟩
  simp [execOp,ho,ex,ey,eqGuard,g2,binOp,g1]
theorem oEs{P:Program}{o:Oper}{S:Nat→SV}{T T':TypeId}{x y:Operand}{c:Nat}(hT:eqsB P T=some c)(k:IntKind)(ms ns:List Int)(ho:o.op=.binOp .eql T x y T':=by exact rfl)(hx:ev S x=.d (.agg (ms.map fun m=>.val (.int k m))):=by kernel_rfl)(hy:ev S y=.d (.agg (ns.map fun m=>.val (.int k m))):=by kernel_rfl)(h1:ms.length=c:=by exact rfl)(h2:ns.length=c:=by exact rfl):qX P o S [] (.d (.val (.bool (decide (ms=ns))))):=e_eqs ho hT hx hy h1 h2
end Go.Fid
namespace Go.Fid
variable {P:Program} {o:Oper} {S:Nat→SV}
theorem e_nckd{x:Operand}{t:TypeId}{q:Nat}{cs:List jQ}(ho:o.op=.nilCheck x)(hx:ev S x=.d (.cptr t cs q)):qX P o S [] (.d (.cptr t cs q)) :=
 qX.same fun a' w D β hop _=>by
  have hp:=hop x (by simp [ho,Op.operands])
  rw[hx] at hp
  generalize hvv:a'.eval x=v at hp
  cases hp with
  |cptr g p u hD hu h1 hr=>
   exact ⟨.pointer (some ⟨g,p+q,none⟩),by simp [execOp,ho,hvv],uT.cptr g p u hD hu h1 hr⟩
theorem oNd{x:Operand}{t:TypeId}{q:Nat}{cs:List jQ}(ho:o.op=.nilCheck x:=by exact rfl)(hx:ev S x=.d (.cptr t cs q):=by exact rfl):qX P o S [] (.d (.cptr t cs q)):=e_nckd ho hx
theorem oXc{T E t:TypeId}{x y:Operand}{k:IntKind}{N s p:Nat}{cs:List jQ}(hT:dM P T=some (N,E,s))(j:Nat)(ho:o.op=.indexAddr T x y:=by exact rfl)(hx:ev S x=.d (.cptr t cs p):=by exact rfl)(hi:ev S y=.d (.val (.int k ((j:Nat):Int))):=by exact rfl)(h1:Nat.blt j N=true:=by kernel_rfl):qX P o S [] (.d (.cptr t cs (p+j*s))) :=
 e_index_acptr ho hT hx hi (Int.natCast_nonneg j) (Int.ofNat_lt.2 (Nat.le_of_ble_eq_true h1))
end Go.Fid
namespace Go.Fid
variable {P:Program} {o:Oper} {S:Nat→SV}
theorem oN3{T T' T2:TypeId}{x y z:Operand}{k:IntKind}{m n q:Int}(r:Int)(ho:o.op=.call { callee:=.builtin .min,args:=#[x,y,z],argTypes:=#[T,T',T2] }:=by exact rfl)(hx:ev S x=.d (.val (.int k m)):=by exact rfl)(hy:ev S y=.d (.val (.int k n)):=by exact rfl)(hz:ev S z=.d (.val (.int k q)):=by exact rfl)
  (hr:min (min m n) q=r:=by omega):qX P o S [] (.d (.val (.int k r))) :=
 qX.same fun a w D β hop _=>by
  have h1:=hop x (by simp [ho,Op.operands,Call.operands])
  have h2:=hop y (by simp [ho,Op.operands,Call.operands])
  have h3:=hop z (by simp [ho,Op.operands,Call.operands])
  rw[hx] at h1
  rw[hy] at h2
  rw[hz] at h3
  have e1:=uF h1
  have e2:=uF h2
  have e3:=uF h3
  have hr':(if q<(if n<m then n else m) then q else (if n<m then n else m))=r:=by omega
  exact ⟨.int k (if q<(if n<m then n else m) then q else (if n<m then n else m)),by simp [execOp,ho,resolve,invoke,builtin,e1,e2,e3,Builtin.min_,Builtin.min2],by rw[hr'];exact .val _⟩
theorem e_cld{y:Operand}{xs:List Operand}{ats:Array TypeId}{f:FuncId}{ds caps:List jQ}{r:jQ}(hf:jR P f (ds++caps) r)(ho:o.op=.call { callee:=.value y,args:=xs.toArray,argTypes:=ats })(hy:ev S y=.d (.clo f caps))(hx:xs.map (ev S)=ds.map .d):qX P o S [] (.d r) :=
 fun a w D β Q hop hrd hD=>by
  have hyv:=hop y (by simp [ho,Op.operands,Call.operands])
  rw[hy] at hyv
  generalize hvv:a.eval y=v at hyv
  cases hyv with
  |clo vs hl hr=>
   have hlx:xs.length=ds.length:=by simpa using congrArg List.length hx
   have hargs:Args w D (xs.map a.eval++vs) (ds++caps):=by
    refine ⟨by simp [hlx,hl],fun i v d hv hd=>?_⟩
    by_cases hi:i<xs.length
    ·rw[List.getElem?_append_left (by simpa using hi),List.getElem?_map,Option.map_eq_some_iff] at hv
     rw[List.getElem?_append_left (by omega)] at hd
     obtain ⟨x,hxi,rfl⟩:=hv
     have hm:=hop x (by simp [ho,Op.operands,Call.operands,List.mem_of_getElem? hxi])
     have hi:=congrArg (fun l:List SV=>l[i]?) hx
     simp only[List.getElem?_map,hxi,hd,Option.map_some,Option.some.injEq] at hi
     rw[hi] at hm
     exact hm
    ·rw[List.getElem?_append_right (by simpa using hi),List.length_map] at hv
     rw[List.getElem?_append_right (by omega),← hlx] at hd
     exact hr _ _ _ hv hd
   have hrun:(execOp a.eval o).run P w=.ok (.enter f (xs.map a.eval++vs).toArray) w:=by
    simp only[execOp,ho,resolve,Deferred.ofValue,hvv,Sem.run_bind,Sem.run_pure,Result.andThen_ok,invoke,Array.empty_append]
    rw[yQ hf.may]
    simp
   refine cD hrun ((hf.run w _ _ hD hargs).mono fun e w' h=>?_)
   obtain ⟨v,D2,he,h1,h2,h3⟩:=h
   exact ⟨v,he,v,D2,rfl,h1,h2,h3⟩
theorem oCd{S:SL}{y:Operand}{xs:List Operand}{ats:Array TypeId}{f:FuncId}{ds caps:List jQ}{r:jQ}(hf:jR P f (ds++caps) r)(ho:o.op=.call { callee:=.value y,args:=xs.toArray,argTypes:=ats }:=by exact rfl)
  (hy:ev (jW S) y=.d (.clo f caps):=by exact rfl) (hx:xs.map (ev (jW S))=ds.map .d:=by kernel_rfl):qX P o (jW S) [] (.d r):=e_cld hf ho hy hx
end Go.Fid
namespace Go.Fid
open Go.RowKit (Below)
theorem app_blkG{w:World}{D:qE}{β:qD}{b:Nat}{arr:List Value}{E:TypeId}{k:Nat}{cs:List SV}(hkb:β k=some b)(mR:w.heap[b]?=some (.cells arr.toArray E (0,0)))(uB:cs.length≤arr.length)
  (h:∀ (i:Nat) x,cs[i]?=some x→∃ u,arr[i]?=some u∧u.oneCell'=true∧qG w D β u x) (hp:∀ t o,¬ D t b o):vA w D β k cs:=by
 refine .inr ⟨b,arr.toArray,E,hkb,mR,by simpa using uB,fun i x hx=>?_,hp⟩
 obtain ⟨u,e1,e2,e3⟩:=h i x hx
 exact ⟨u,by simpa using e1,e2,e3⟩
theorem names_get{k:Nat}{cs:List SV}(h:qM k cs=false){i:Nat}{x:SV}(hx:cs[i]?=some x):x.names k=false:=by
 simp only[qM,List.any_eq_false] at h
 simpa using h x (List.mem_of_getElem? hx)
theorem app_getG{cs:List SV}{ds:List jQ}{q:Nat}{x:SV}(h:(cs++ds.map .d)[q]?=some x):(q<cs.length∧cs[q]?=some x)∨(cs.length≤q∧∃ d,ds[q-cs.length]?=some d∧x=.d d):=by
 by_cases hq:q<cs.length
 ·rw[List.getElem?_append_left hq] at h;exact .inl ⟨hq,h⟩
 ·rw[List.getElem?_append_right (by omega),List.getElem?_map,Option.map_eq_some_iff] at h
  obtain ⟨d,h1,h2⟩:=h
  exact .inr ⟨by omega,d,h1,h2.symm⟩
section
variable {P:Program} {o:Oper} {st:PS}
end
section
variable {P:Program} {o:Oper} {S:Nat→SV}
theorem app_local{T E t':TypeId}{x y:Operand}{k k' s m bytes:Nat}{zv:List Value}{es':List jQ}{cs:List SV}(ho:o.op=.call { callee:=.builtin .append,args:=#[x,y],argTypes:=#[T,T] })
  (hT:uW P T=some (E,s)) (hz:uL P E=some zv) (hzl:zv.length=s) (hby:xK P E=some bytes) (hx:ev S x=.own k E s m) (hself:qM k' cs=false)
  (hes:cs.length=m*s) (hy:ev S y=.d (.sl t' s es')) (hpos:0<es'.length) (hbig:m+es'.length≤maxLen) (hbig':(m+es'.length)*bytes≤140737488355328) :
  AOk P o S k k' cs (cs++(qA es').map .d) (.own k' E s (m+es'.length)):=fun a w D β Q hop hblk hdok=>by
 have h1:=hop x (by simp [ho,Op.operands,Call.operands])
 have h2:=hop y (by simp [ho,Op.operands,Call.operands])
 have hβ:∀ (b j:Nat),j≠k'→(β.set k' b) j=β j:=fun b j hj=>by simp [qD.set,hj]
 rw[hx] at h1
 rw[hy] at h2
 obtain ⟨ao,c,us,hyv,hcc,hul,hfl',dV,hrep,had⟩:=fF h2
 obtain ⟨i,z,z1,z2,z3⟩:=mY hz
 obtain ⟨j,f1,f2,f3⟩:=gZ hT
 have hij:i=j:=by rw[z1] at f2;injection f2
 subst hij
 have hbi:i.bytes=bytes:=by
  unfold xK at hby
  rw[z1] at hby
  simpa using hby
 subst hbi
 have hzs:z.cells.size=s:=by rw[z3];simpa using hzl
 have hml:(maxLen:Int)≤9223372036854775807:=by decide
 have hfll:(cs++(qA es').map SV.d).length=(m+es'.length)*s:=by rw[List.length_append,List.length_map,hes,hfl',Nat.add_mul]
 ·obtain ⟨ad,rfl,hcell⟩:=had hpos
  rcases h1 with ⟨hk0,hm,hv⟩ | ⟨b,cap,vs,hkb,hv,mR,hvs,hmc,hcap⟩
  ·subst hm
   have hbytes:es'.length*i.bytes≤281474976710656:=by rw[Nat.zero_add] at hbig';omega
   have hr:=run_append_nil (P:=P) w T o.type E i z f1 z1 z2 ad es'.length c us (by rw[hul,f3]) hcell (by omega) (by omega) hbytes
   have hes0:cs=[]:=List.eq_nil_of_length_eq_zero (by simpa using hes)
   subst hes0
   have hge:=grownCap_ge w es'.length 0 E
   have hcm:=grownCap_le_maxLen w es'.length 0 E (by omega)
   generalize grownCap w es'.length 0 E=G at hr hge hcm
   have gV:Below w.heap.size w (w.drew.alloc (.cells (us.toArray++Builtin.zeroCells z.cells (G-es'.length)) E)):=⟨rfl,rfl,rfl,by simp,fun q hq=>heap_alloc_old w.drew _ hq⟩
   have hblk':vA (w.drew.alloc (.cells (us.toArray++Builtin.zeroCells z.cells (G-es'.length)) E)) D (β.set k' w.heap.size) k' ([]++(qA es').map .d):=by
    have earr:us.toArray++Builtin.zeroCells z.cells (G-es'.length)=(us++(Builtin.zeroCells z.cells (G-es'.length)).toList).toArray:=by apply Array.ext';simp
    refine app_blkG (b:=w.heap.size) (E:=E) (arr:=us++(Builtin.zeroCells z.cells (G-es'.length)).toList) (by simp [qD.set]) (by rw[← earr];exact heap_alloc_new w.drew _) (by rw[hfll,Nat.zero_add,List.length_append];omega) ?_ (fun t q hq=>Nat.lt_irrefl _ (hdok t _ q hq))
    intro q x hq
    obtain ⟨d,hq2,rfl⟩:∃ d,(qA es')[q]?=some d∧x=.d d:=by
     rcases app_getG hq with ⟨h1,_⟩ | ⟨_,h2⟩
     ·cases h1
     ·simpa using h2
    have hlt:q<us.length:=by
     have:=(List.getElem?_eq_some_iff.1 hq2).1
     omega
    exact ⟨us[q],by rw[List.getElem?_append_left hlt];simp [hlt],dV _ (by simp),(hrep q us[q] d (by simp [hlt]) hq2).up gV (DUp.of_same D) hdok⟩
   have hx':qG (w.drew.alloc (.cells (us.toArray++Builtin.zeroCells z.cells (G-es'.length)) E)) D (β.set k' w.heap.size) (.slice (some ⟨w.heap.size,0,none⟩) es'.length G) (.own k' E s (0+es'.length)):=by
    rw[Nat.zero_add]
    refine .inr ⟨w.heap.size,G,_,by simp [qD.set],rfl,heap_alloc_new w.drew _,?_,hge,hcm⟩
    simp only[Array.size_append,List.size_toArray,size_zeroCells,hzs,hul,← Nat.add_mul]
    congr 1
    omega
   have this:APost a w D β o.dst k k' _ _ _ _:=⟨_,_,rfl,hblk',hx',.inl ⟨gV,Nat.le_refl _,by simp⟩⟩
   unfold Oper.wp execOp
   simp only[ho,resolve,invoke,builtin,Sem.run_bind,Sem.run_pure,Result.andThen_ok,List.map_toArray,List.map_cons,List.map_nil,hv,hyv,hr]
   exact this
  ·have hb4:∃ b' vs' T',β k=some b'∧w.heap[b']?=some (.cells vs' T' (0,0))∧cs.length≤vs'.size∧(∀ (i:Nat) x,cs[i]?=some x→∃ u,vs'[i]?=some u∧u.oneCell'=true∧qG w D β u x)∧∀ t o,¬ D t b' o:=by
    rcases hblk with ⟨e,_⟩ | h
    ·rw[hkb] at e;cases e
    ·exact h
   obtain ⟨b',vs',T',e1,e2,e3,e4,e5⟩:=hb4
   have:b'=b:=by rw[hkb] at e1;injection e1 with e1;exact e1.symm
   subst this
   have:vs'=vs:=by rw[mR] at e2;injection e2 with e2;injection e2 with e2;exact e2.symm
   subst this
   have hle:m*s≤vs'.size:=by rw[hvs];exact Nat.mul_le_mul_right _ hmc
   by_cases hroom:m+es'.length≤cap
   ·have hfit:m*s+us.length≤vs'.size:=by rw[hul,hvs,← Nat.add_mul];exact Nat.mul_le_mul_right _ hroom
    have hr:=run_append_room (P:=P) w T o.type E i f1 z1 b' m cap vs' mR ad es'.length c us (by rw[hul,f3]) hcell dV hroom (by rw[f3];exact hfit)
    rw[f3] at hr
    have hpl:=zV (l:=vs'.toList) (off:=m*s) (new:=us) (by simpa using hfit)
    have hw:=eZ w b' (vs'.toList.take (m*s)++us++vs'.toList.drop (m*s+us.length)).toArray (fun vs2 T2 f2 h=>by
     rw[mR] at h
     injection h with h
     injection h with h
     subst h
     have e:patch vs'.toList (m*s) us=vs'.toList.take (m*s)++us++vs'.toList.drop (m*s+us.length):=rfl
     rw[e] at hpl
     simpa using hpl)
    have hheap':=setRow_heap w b' vs' (vs'.toList.take (m*s)++us++vs'.toList.drop (m*s+us.length)).toArray E _ mR
    have hpg:∀ q,(vs'.toList.take (m*s)++us++vs'.toList.drop (m*s+us.length))[q]?=if q<m*s then vs'.toList[q]? else if q<m*s+us.length then us[q-m*s]? else vs'.toList[q]?:=fun q=>yK (by simpa using hfit) q
    have hblk':vA (w.setRow b' (vs'.toList.take (m*s)++us++vs'.toList.drop (m*s+us.length)).toArray) D (β.set k' b') k' (cs++(qA es').map .d):=by
     refine app_blkG (b:=b') (by simp [qD.set]) hheap' ?_ ?_ e5
     ·have e:patch vs'.toList (m*s) us=vs'.toList.take (m*s)++us++vs'.toList.drop (m*s+us.length):=rfl
      rw[e] at hpl
      rw[hpl,hfll,Nat.add_mul]
      simp only[Array.length_toList]
      omega
     ·intro q x hq
      rw[hpg q]
      rcases app_getG hq with ⟨c1,hq2⟩ | ⟨c1,d,hq2,rfl⟩
      ·rw[hes] at c1
       rw[if_pos c1]
       obtain ⟨u,g1,g2,g3⟩:=e4 q x hq2
       exact ⟨u,by simpa using g1,g2,(hw.repS e5 g3).frame (hβ b') (names_get hself hq2)⟩
      ·rw[hes] at c1 hq2
       have hlt:q-m*s<us.length:=by
        have:=(List.getElem?_eq_some_iff.1 hq2).1
        omega
       rw[if_neg (by omega),if_pos (by omega)]
       exact ⟨us[q-m*s],by simp [hlt],dV _ (by simp),hw.rep e5 (hrep _ _ d (by simp [hlt]) hq2)⟩
    have hx':qG (w.setRow b' (vs'.toList.take (m*s)++us++vs'.toList.drop (m*s+us.length)).toArray) D (β.set k' b') (.slice (some ⟨b',0,none⟩) (m+es'.length) cap) (.own k' E s (m+es'.length)):=by
     refine .inr ⟨b',cap,_,by simp [qD.set],rfl,hheap',?_,hroom,hcap⟩
     have e:patch vs'.toList (m*s) us=vs'.toList.take (m*s)++us++vs'.toList.drop (m*s+us.length):=rfl
     rw[e] at hpl
     simpa [hvs] using hpl
    have this:APost a w D β o.dst k k' _ _ _ _:=⟨_,_,rfl,hblk',hx',.inr ⟨hkb,hw,e5⟩⟩
    unfold Oper.wp execOp
    simp only[ho,resolve,invoke,builtin,Sem.run_bind,Sem.run_pure,Result.andThen_ok,List.map_toArray,List.map_cons,List.map_nil,hv,hyv,hr]
    exact this
   ·have hol:(vs'.toList.take (m*s)).length=m*i.size:=by rw[f3,List.length_take];simp;omega
    have holds:∀ q u,(vs'.toList.take (m*s))[q]?=some u→w.cell? ((⟨b',0,none⟩:Addr).add q)=some u:=fun q u hq=>by
     rw[Addr.add_lit,Nat.zero_add,cell_of_row w b' q vs' E (0,0) mR]
     rw[List.getElem?_take] at hq
     split at hq
     ·simpa using hq
     ·cases hq
    have hr:=run_append_grow (P:=P) w T o.type E i z f1 z1 z2 ⟨b',0,none⟩ m cap (vs'.toList.take (m*s)) hol holds ad es'.length c us (by rw[hul,f3]) hcell (by omega) (by omega) (growslice_fits (by omega) hbig')
    have hge:=grownCap_ge w (m+es'.length) cap E
    have hcm:=grownCap_le_maxLen w (m+es'.length) cap E (by omega)
    generalize grownCap w (m+es'.length) cap E=G at hr hge hcm
    have gV:Below w.heap.size w (w.drew.alloc (.cells ((vs'.toList.take (m*s)).toArray++us.toArray++Builtin.zeroCells z.cells (G-(m+es'.length))) E)):=⟨rfl,rfl,rfl,by simp,fun q hq=>heap_alloc_old w.drew _ hq⟩
    have hblk':vA (w.drew.alloc (.cells ((vs'.toList.take (m*s)).toArray++us.toArray++Builtin.zeroCells z.cells (G-(m+es'.length))) E)) D (β.set k' w.heap.size) k' (cs++(qA es').map .d):=by
     have earr:(vs'.toList.take (m*s)).toArray++us.toArray++Builtin.zeroCells z.cells (G-(m+es'.length))=(vs'.toList.take (m*s)++us++(Builtin.zeroCells z.cells (G-(m+es'.length))).toList).toArray:=by apply Array.ext';simp
     rw[f3] at hol
     refine app_blkG (b:=w.heap.size) (E:=E) (by simp [qD.set]) (by rw[← earr];exact heap_alloc_new w.drew _) (by rw[hfll,List.length_append,List.length_append,hol,Nat.add_mul];omega) ?_ (fun t q hq=>Nat.lt_irrefl _ (hdok t _ q hq))
     intro q x hq
     rcases app_getG hq with ⟨c1,hq2⟩ | ⟨c1,d,hq2,rfl⟩
     ·rw[hes] at c1
      obtain ⟨u,g1,g2,g3⟩:=e4 q x hq2
      refine ⟨u,?_,g2,(g3.up gV (DUp.of_same D) hdok).frame (fun j hj=>by simp [qD.set,hj]) (names_get hself hq2)⟩
      rw[List.append_assoc,List.getElem?_append_left (by omega),List.getElem?_take,if_pos c1]
      simpa using g1
     ·rw[hes] at c1 hq2
      have hlt:q-m*s<us.length:=by
       have:=(List.getElem?_eq_some_iff.1 hq2).1
       omega
      refine ⟨us[q-m*s],?_,dV _ (by simp),(hrep _ _ d (by simp [hlt]) hq2).up gV (DUp.of_same D) hdok⟩
      rw[List.append_assoc,List.getElem?_append_right (by omega),hol,List.getElem?_append_left hlt]
      simp [hlt]
    have hx':qG (w.drew.alloc (.cells ((vs'.toList.take (m*s)).toArray++us.toArray++Builtin.zeroCells z.cells (G-(m+es'.length))) E)) D (β.set k' w.heap.size) (.slice (some ⟨w.heap.size,0,none⟩) (m+es'.length) G) (.own k' E s (m+es'.length)):=by
     refine .inr ⟨w.heap.size,G,_,by simp [qD.set],rfl,heap_alloc_new w.drew _,?_,hge,hcm⟩
     rw[f3] at hol
     simp only[Array.size_append,List.size_toArray,size_zeroCells,hzs,hul,hol,← Nat.add_mul]
     congr 1
     omega
    have this:APost a w D β o.dst k k' _ _ _ _:=⟨_,_,rfl,hblk',hx',.inl ⟨gV,Nat.le_refl _,by simp⟩⟩
    unfold Oper.wp execOp
    simp only[ho,resolve,invoke,builtin,Sem.run_bind,Sem.run_pure,Result.andThen_ok,List.map_toArray,List.map_cons,List.map_nil,hv,hyv,hr]
    exact this
end
def nA(E:TypeId)(s:Nat):Nat→List (List jQ)→List SV
 |_,[]=>[]
 |k,r::rs=>.own k E s r.length::nA E s (k+1) rs
theorem eD{E:TypeId}{s:Nat}:∀ (k:Nat) (rows:List (List jQ)) (j:Nat),(nA E s k rows)[j]?=(rows[j]?).map fun r=>.own (k+j) E s r.length
 |_,[],j=>by simp [nA]
 |k,r::rs,0=>by simp [nA]
 |k,r::rs,j+1=>by
  simp only[nA,List.getElem?_cons_succ]
  rw[eD (k+1) rs j,show k+1+j=k+(j+1) by omega]
theorem cM{E:TypeId}{s:Nat}:∀ (k:Nat) (rows:List (List jQ)),(nA E s k rows).length=rows.length
 |_,[]=>rfl
 |k,r::rs=>by simp [nA,cM (k+1) rs]
theorem rowC_names{E:TypeId}{s k q:Nat}{rows:List (List jQ)}(h:q<k∨k+rows.length≤q):qM q (nA E s k rows)=false:=by
 simp only[qM,List.any_eq_false]
 intro x hx
 obtain ⟨j,hj⟩:=List.getElem?_of_mem hx
 rw[eD,Option.map_eq_some_iff] at hj
 obtain ⟨r,hr,rfl⟩:=hj
 have:=(List.getElem?_eq_some_iff.1 hr).1
 simp only[SV.names,Bool.not_eq_true]
 rw[← Bool.not_eq_true]
 exact fun e=>by have:=Nat.eq_of_beq_eq_true e;omega
section
variable {P:Program} {o:Oper} {S:SL}
theorem dY{st:PS}{j k s m:Nat}{T:TypeId}{pre post cs:List SV}{es:List jQ}(hj:kD st.bs j=some (pre++.own k T s m::post))(hjk:k≠j)(hb:kD st.bs k=some cs)(hes:∀ e∈es,e.cells.length=s)(hl:es.length=m)(hc:cs.take (m*s)=(qA es).map .d) :
  kB st ⟨st.sl,(j,some (pre++.d (.sl T s es)::post))::(k,none)::st.bs⟩:=fun C a w ⟨D,β,h⟩=>by
 obtain ⟨D',h',hown⟩:=publish_core (T:=T) h hb hes hl hc
 have hj2:kD ((k,none)::st.bs) j=some (pre++.own k T s m::post):=by rw[jK,if_neg hjk];exact hj
 have conv:∀ {i c},kD ((j,some (pre++SV.d (.sl T s es)::post))::(k,none)::st.bs) i=some c→∃ c',kD ((k,none)::st.bs) i=some c':=fun {i c} hi=>by
  rw[jK] at hi
  split at hi
  ·rename_i e;subst e;exact ⟨_,hj2⟩
  ·exact ⟨c,hi⟩
 refine ⟨D',β,h'.base,⟨fun i c hi=>?_,fun i1 i2 c1 c2 q1 q2=>?_⟩,fun i c hi=>?_,h'.slots⟩
 ·rw[jK] at hi
  split at hi
  ·rename_i e;subst e
   injection hi with hi;subst hi
   rcases h'.mem.ok j _ hj2 with ⟨_,q⟩ | ⟨b,vs,T2,q1,q2,q3,q4,q5⟩
   ·simp at q
   ·refine .inr ⟨b,vs,T2,q1,q2,by simpa using q3,fun i x hx=>?_,q5⟩
    by_cases h1:i<pre.length
    ·rw[List.getElem?_append_left h1] at hx
     exact q4 i x (by rw[List.getElem?_append_left h1];exact hx)
    ·rw[List.getElem?_append_right (by omega)] at hx
     cases hq:i-pre.length with
     |zero=>
      rw[hq] at hx
      simp at hx
      subst hx
      obtain ⟨u,e1,e2,e3⟩:=q4 i (.own k T s m) (by rw[List.getElem?_append_right (by omega),hq];rfl)
      exact ⟨u,e1,e2,hown u D' e3⟩
     |succ q=>
      rw[hq] at hx
      exact q4 i x (by rw[List.getElem?_append_right (by omega),hq];simpa using hx)
  ·exact h'.mem.ok i c hi
 ·obtain ⟨d1,g1⟩:=conv q1
  obtain ⟨d2,g2⟩:=conv q2
  exact h'.mem.inj i1 i2 d1 d2 g1 g2
 ·obtain ⟨d,g⟩:=conv hi
  exact h'.high i d g
end
end Go.Fid
