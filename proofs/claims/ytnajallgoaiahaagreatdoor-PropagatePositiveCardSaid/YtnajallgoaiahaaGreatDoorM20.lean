/- Part 20 of a proof: rules, plain facts, and functions walked. -/
import Derived.Test.YtnajallgoaiahaaGreatDoorM19
set_option linter.all false
namespace Go.Fid
open Go.RowKit (Below)
inductive CArgs (bl:List (Nat × List jS)):List Nat→List (List jS)→Prop
 |nil:CArgs bl [] []
 |cons {k:Nat} {cs:List jS} {ks:List Nat} {css:List (List jS)} (hk:(k,cs)∈bl) (h:CArgs bl ks css):CArgs bl (k::ks) (cs::css)
theorem CArgs.len{bl:List (Nat × List jS)}{ks:List Nat}{css:List (List jS)}(h:CArgs bl ks css):ks.length=css.length:=by
 induction h with
 |nil=>rfl
 |cons hk h ih=>simp [ih]
theorem CArgs.get{bl:List (Nat × List jS)}{ks:List Nat}{css:List (List jS)}(h:CArgs bl ks css):∀ (i:Nat) k cs,ks[i]?=some k→css[i]?=some cs→(k,cs)∈bl:=by
 induction h with
 |nil=>intro i k cs h;simp at h
 |cons hk h ih=>
  intro i k cs h1 h2
  rcases i with _ | i
  ·simp at h1 h2;subst h1;subst h2;exact hk
  ·exact ih i k cs (by simpa using h1) (by simpa using h2)
inductive eZ (bl:List (Nat × List jS)) (E:TypeId):List SV→List jS→Prop
 |nil:eZ bl E [] []
 |d {x:jS} {zs:List SV} {ds:List jS} (h:eZ bl E zs ds):eZ bl E (.d x::zs) (x::ds)
 |v {k q n s:Nat} {cs es:List jS} {zs:List SV} {ds:List jS} (hk:(k,cs)∈bl) (hes:∀ e∈es,e.cells.length=s) (hl:es.length=n) (hc:(cs.drop q).take (n*s)=kY es) (h:eZ bl E zs ds):eZ bl E (.view k q n::zs) (.sl E s es::ds)
 |p {k o:Nat} {cs:List jS} {zs:List SV} {ds:List jS} (hk:(k,cs)∈bl) (h:eZ bl E zs ds):eZ bl E (.ref k o::zs) (.cptr E cs o::ds)
 |c {f:FuncId} {ks:List Nat} {css:List (List jS)} {zs:List SV} {ds:List jS} (hk:CArgs bl ks css) (h:eZ bl E zs ds):eZ bl E (.clo f ks::zs) (.clo f (css.map fun cs=>.cptr E cs 0)::ds)
theorem eZ.len{bl:List (Nat × List jS)}{E:TypeId}{zs:List SV}{ds:List jS}(h:eZ bl E zs ds):zs.length=ds.length:=by
 induction h with
 |nil=>rfl
 |d h ih=>simp [ih]
 |v hk hes hl hc h ih=>simp [ih]
 |p hk h ih=>simp [ih]
 |c hk h ih=>simp [ih]
theorem eZ.rep{bl:List (Nat × List jS)}{E:TypeId}{zs:List SV}{ds:List jS}(h:eZ bl E zs ds){w:World}{D D':qL}{β:qC}(h1:∀ v x,vE w D v x→vE w D' v x)
  (h2:∀ (k q n s:Nat) (cs es:List jS) (v:Value),(k,cs)∈bl→(∀ e∈es,e.cells.length=s)→es.length=n→(cs.drop q).take (n*s)=kY es→kZ w D β v (.view k q n)→vE w D' v (.sl E s es))
  (h3:∀ (k o:Nat) (cs:List jS) (v:Value),(k,cs)∈bl→kZ w D β v (.ref k o)→vE w D' v (.cptr E cs o)) :
  ∀ (vs:List Value),vs.length=zs.length→(∀ (i:Nat) v x,vs[i]?=some v→zs[i]?=some x→kZ w D β v x)→∀ (i:Nat) v d,vs[i]?=some v→ds[i]?=some d→vE w D' v d:=by
 induction h with
 |nil=>intro vs _ _ i v d _ hd;simp at hd
 |d h ih=>
  intro vs hl hr i v d' hv hd
  rcases vs with _ | ⟨v0,vs⟩
  ·simp at hl
  ·rcases i with _ | i
   ·simp at hv hd;subst hv;subst hd;exact h1 _ _ (hr 0 _ _ rfl rfl)
   ·exact ih vs (by simpa using hl) (fun i v x h3 h4=>hr (i+1) v x (by simpa using h3) (by simpa using h4)) i v d' (by simpa using hv) (by simpa using hd)
 |v hk hes hl' hc h ih=>
  intro vs hl hr i v d' hv hd
  rcases vs with _ | ⟨v0,vs⟩
  ·simp at hl
  ·rcases i with _ | i
   ·simp at hv hd;subst hv;subst hd;exact h2 _ _ _ _ _ _ _ hk hes hl' hc (hr 0 _ _ rfl rfl)
   ·exact ih vs (by simpa using hl) (fun i v x h3 h4=>hr (i+1) v x (by simpa using h3) (by simpa using h4)) i v d' (by simpa using hv) (by simpa using hd)
 |p hk h ih=>
  intro vs hl hr i v d' hv hd
  rcases vs with _ | ⟨v0,vs⟩
  ·simp at hl
  ·rcases i with _ | i
   ·simp at hv hd;subst hv;subst hd;exact h3 _ _ _ _ hk (hr 0 _ _ rfl rfl)
   ·exact ih vs (by simpa using hl) (fun i v x h3 h4=>hr (i+1) v x (by simpa using h3) (by simpa using h4)) i v d' (by simpa using hv) (by simpa using hd)
 |c hk h ih=>
  intro vs hl hr i v d' hv hd
  rcases vs with _ | ⟨v0,vs⟩
  ·simp at hl
  ·rcases i with _ | i
   ·simp at hv hd;subst hv;subst hd
    obtain ⟨us,e1,e2,e3⟩:=hr 0 _ _ rfl rfl
    rw[e1]
    refine .clo us (by rw[e2,hk.len,List.length_map]) fun j u d hu hd=>?_
    rw[List.getElem?_map,Option.map_eq_some_iff] at hd
    obtain ⟨cs,hcs,rfl⟩:=hd
    have hlt:j<_:=(List.getElem?_eq_some_iff.1 hcs).1
    rw[← hk.len] at hlt
    obtain ⟨b,g1,g2⟩:=e3 j _ (List.getElem?_eq_getElem hlt)
    rw[hu] at g2
    injection g2 with g2
    exact h3 _ 0 cs u (hk.get j _ cs (List.getElem?_eq_getElem hlt) hcs) ⟨b,g1,g2⟩
   ·exact ih vs (by simpa using hl) (fun i v x h3 h4=>hr (i+1) v x (by simpa using h3) (by simpa using h4)) i v d' (by simpa using hv) (by simpa using hd)
theorem blk_pub{w:World}{D:qL}{β:qC}{bl:List (Nat × List jS)}{E:TypeId}(hD:DOk D w)(hbl:∀ p∈bl,uU w D β p.1 (p.2.map SV.d)) :
  ∃ X:TypeId→Nat→Nat→Prop,DOk (fun t g i=>D t g i∨X t g i) w∧(∀ t g i,X t g i→t=E∧∀ t' i',¬ D t' g i') ∧
   (∀ (k q n s:Nat) (cs es:List jS) (v:Value),(k,cs)∈bl→(∀ e∈es,e.cells.length=s)→es.length=n→(cs.drop q).take (n*s)=kY es→kZ w D β v (.view k q n)→vE w (fun t g i=>D t g i∨X t g i) v (.sl E s es)) ∧
   (∀ (k o:Nat) (cs:List jS) (v:Value),(k,cs)∈bl→kZ w D β v (.ref k o)→vE w (fun t g i=>D t g i∨X t g i) v (.cptr E cs o)):=by
 let X:TypeId→Nat→Nat→Prop:=fun t g _=>t=E∧∃ p∈bl,β p.1=some g
 have hcap:∀ p∈bl,∀ b,β p.1=some b→∃ us T',w.heap[b]?=some (.cells us T' (0,0))∧(∀ (j:Nat) x,(p.2.map SV.d)[j]?=some x→∃ u,us[j]?=some u∧u.oneCell'=true∧kZ w D β u x)∧∀ t o,¬ D t b o:=fun p hp b hb=>by
  rcases hbl p hp with ⟨g1,_⟩ | ⟨b',us,T',g1,g2,g3,g4,g5⟩
  ·rw[hb] at g1;cases g1
  ·obtain rfl:b=b':=by rw[hb] at g1;injection g1
   exact ⟨us,T',g2,g4,g5⟩
 have hmono:∀ t' g i,D t' g i→(D t' g i∨X t' g i)∧w.cell? ⟨g,i,none⟩=w.cell? ⟨g,i,none⟩:=fun t' g i hd=>⟨.inl hd,rfl⟩
 refine ⟨X,fun t g i hd=>?_,fun t g i ⟨h1,p,hp,hb⟩=>?_,?_,?_⟩
 ·rcases hd with hd | ⟨_,p,hp,hb⟩
  ·exact hD _ _ _ hd
  ·obtain ⟨us,T',g2,_,_⟩:=hcap p hp g hb;exact uM g2
 ·obtain ⟨us,T',_,_,g5⟩:=hcap p hp g hb
  exact ⟨h1,fun t' i'=>g5 t' i'⟩
 ·intro k q n s cs es v hk hes hl hc hv
  obtain ⟨b,cap,h1,h2,h5,h6⟩:=hv
  obtain ⟨us,T',g2,g4,g5⟩:=hcap (k,cs) hk b h1
  rw[h2]
  have hfl:=vK hes
  have hcell:∀ i,w.cell? ⟨b,i,none⟩=us[i]?:=fun i=>cell_of_row w b i us T' (0,0) g2
  have key:∀ (i:Nat) d,(kY es)[i]?=some d→∃ u,us[q+i]?=some u∧u.oneCell'=true∧vE w D u d:=fun i d hd=>by
   have hi:i<n*s:=by
    have:=(List.getElem?_eq_some_iff.1 hd).1
    rw[hfl,hl] at this;exact this
   have e1:cs[q+i]?=some d:=by
    rw[← hc,List.getElem?_take_of_lt hi,List.getElem?_drop] at hd
    exact hd
   exact g4 _ (.d d) (by rw[List.getElem?_map,e1];rfl)
  refine vE.sl b q (fun i=>us.getD (q+i) undef) hl.symm h5 h6 hes (fun _=>rfl) (fun i hi=>.inr ⟨rfl,_,hk,h1⟩) (fun i hi=>?_) (fun i hi=>?_) (fun i d hd=>?_)
  ·obtain ⟨x,q1,q2,q3⟩:=key i _ (List.getElem?_eq_getElem hi)
   rw[hcell,Array.getD_eq_getD_getElem?,q1];rfl
  ·obtain ⟨x,q1,q2,q3⟩:=key i _ (List.getElem?_eq_getElem hi)
   rw[Array.getD_eq_getD_getElem?,q1];exact q2
  ·obtain ⟨x,q1,q2,q3⟩:=key i d hd
   rw[Array.getD_eq_getD_getElem?,q1]
   exact vE.mono hmono q3
 ·intro k o cs v hk hv
  obtain ⟨b,h1,h2⟩:=hv
  obtain ⟨us,T',g2,g4,g5⟩:=hcap (k,cs) hk b h1
  rw[h2]
  have hcell:∀ i,w.cell? ⟨b,i,none⟩=us[i]?:=fun i=>cell_of_row w b i us T' (0,0) g2
  have key:∀ (i:Nat) d,cs[i]?=some d→∃ u,us[i]?=some u∧u.oneCell'=true∧vE w D u d:=fun i d hd=>g4 _ (.d d) (by rw[List.getElem?_map,hd];rfl)
  have hp:=vE.cptr (w:=w) (D:=fun t g i=>D t g i∨X t g i) (t:=E) (cs:=cs) (off:=o) b 0 (fun i=>us.getD i undef) (fun i hi=>.inr ⟨rfl,_,hk,h1⟩) (fun i hi=>by
   obtain ⟨x,q1,q2,q3⟩:=key i _ (List.getElem?_eq_getElem hi)
   rw[Nat.zero_add,hcell,Array.getD_eq_getD_getElem?,q1];rfl) (fun i hi=>by
   obtain ⟨x,q1,q2,q3⟩:=key i _ (List.getElem?_eq_getElem hi)
   rw[Array.getD_eq_getD_getElem?,q1];exact q2) (fun i d hd=>by
   obtain ⟨x,q1,q2,q3⟩:=key i d hd
   rw[Array.getD_eq_getD_getElem?,q1]
   exact vE.mono hmono q3)
  rw[Nat.zero_add] at hp
  exact hp
theorem e_clg{P:Program}{o:Oper}{S:Nat→SV}{y:Operand}{xs:List Operand}{ats:Array TypeId}{f:FuncId}{ds:List jS}{r:jS}{zs:List SV}{E:TypeId}{bl:List (Nat × List jS)}(hf:jP P f ds r)(ho:o.op=.call { callee:=.value y,args:=xs.toArray,argTypes:=ats })(hy:ev S y=.d (.val (.func (.func f) #[] #[])))
  (hx:xs.map (ev S)=zs) (hz:eZ bl E zs ds) (ha:yK E r):uY P o S (bl.map fun p=>(p.1,p.2.map SV.d)) (.d r) :=
 fun a w D β Q hop hrd hD=>by
  have hyv:=hop y (by simp [ho,Op.operands,Call.operands])
  rw[hy] at hyv
  have hyv':=vI hyv
  have hrep:∀ (i:Nat) v x,(xs.map a.eval)[i]?=some v→zs[i]?=some x→kZ w D β v x:=fun i v x hv hz'=>by
   rw[List.getElem?_map,Option.map_eq_some_iff] at hv
   obtain ⟨p,hqi,rfl⟩:=hv
   have hm:=hop p (by simp [ho,Op.operands,Call.operands,List.mem_of_getElem? hqi])
   have hi:=congrArg (fun l:List SV=>l[i]?) hx
   simp only[List.getElem?_map,hqi,hz',Option.map_some,Option.some.injEq] at hi
   rw[hi] at hm
   exact hm
  have qV:(xs.map a.eval).length=zs.length:=by rw[← hx];simp
  have hrun:(execOp a.eval o).run P w=.ok (.enter f (xs.map a.eval).toArray) w:=by
   simp only[execOp,ho,resolve,Deferred.ofValue,hyv',Sem.run_bind,Sem.run_pure,Result.andThen_ok,invoke,Array.empty_append,Array.append_empty]
   rw[vQ hf.may]
   simp
  obtain ⟨X,hD',hXp,hv,hp⟩:=blk_pub (E:=E) (bl:=bl) hD (fun p hp=>hrd (p.1,p.2.map SV.d) (List.mem_map_of_mem (f:=fun p:Nat × List jS=>(p.1,p.2.map SV.d)) hp))
  have hmono:∀ t' g i,D t' g i→(D t' g i∨X t' g i)∧w.cell? ⟨g,i,none⟩=w.cell? ⟨g,i,none⟩:=fun t' g i hd=>⟨.inl hd,rfl⟩
  have hargs:Args w (fun t g i=>D t g i∨X t g i) (xs.map a.eval) ds:=⟨qV.trans hz.len,hz.rep (fun v x h=>vE.mono hmono h) hv hp _ qV hrep⟩
  refine nQ hrun ((hf.run w _ _ hD' hargs).mono fun e w' h=>?_)
  obtain ⟨v,D2,he,h1,h2,h3⟩:=h
  refine ⟨v,he,v,fun t g i=>D2 t g i∧¬ X t g i,rfl,h1,⟨fun t g i hd=>⟨h2.up _ _ _ (.inl hd),fun hx'=>(hXp t g i hx').2 t i hd⟩,fun t g i hd=>?_⟩,?_⟩
  ·rcases h2.new t g i hd.1 with h | h
   ·rcases h with h | h
    ·exact .inl h
    ·exact absurd h hd.2
   ·exact .inr h
  ·exact ha.rep (fun t g i hne hd=>⟨hd,fun hx'=>hne (hXp t g i hx').1⟩) h3
theorem oCg{P:Program}{o:Oper}{S:SL}{B:BS}{y:Operand}{xs:List Operand}{ats:Array TypeId}{f:FuncId}{ds:List jS}{r:jS}(bl:List (Nat × List jS))(zs:List SV)(hf:jP P f ds r)(hz:eZ bl 1000000 zs ds)(ha:yK 1000000 r)
  (ho:o.op=.call { callee:=.value y,args:=xs.toArray,argTypes:=ats }:=by exact rfl) (hy:ev (kF S) y=.d (.val (.func (.func f) #[] #[])):=by kernel_rfl) (hx:xs.map (ev (kF S))=zs:=by kernel_rfl)
  (hb:bl.map (fun p=>jW B p.1)=bl.map (fun p=>some (p.2.map SV.d)):=by kernel_rfl) {ks:List Nat} (hks:bl.map (·.1)=ks:=by exact rfl):RKs P o S B ks (.d r):=by
 refine ⟨bl.map fun p=>(p.1,p.2.map SV.d),by rw[List.map_map];exact hks,e_clg hf ho hy hx hz ha,fun p hp=>?_⟩
 obtain ⟨q,hq,rfl⟩:=List.mem_map.1 hp
 exact List.map_inj_left.1 hb q hq
variable {P:Program}
end Go.Fid
namespace Go.Fid
variable {P:Program} {o:Oper} {S:Nat→SV}
theorem e_nckd{x:Operand}{t:TypeId}{q:Nat}{cs:List jS}(ho:o.op=.nilCheck x)(hx:ev S x=.d (.cptr t cs q)):uY P o S [] (.d (.cptr t cs q)) :=
 uY.same fun a' w D β hop _=>by
  have hp:=hop x (by simp [ho,Op.operands])
  rw[hx] at hp
  generalize hvv:a'.eval x=v at hp
  cases hp with
  |cptr g p u hD hu h1 hr=>
   exact ⟨.pointer (some ⟨g,p+q,none⟩),by simp [execOp,ho,hvv],vE.cptr g p u hD hu h1 hr⟩
theorem oNd{x:Operand}{t:TypeId}{q:Nat}{cs:List jS}(ho:o.op=.nilCheck x:=by exact rfl)(hx:ev S x=.d (.cptr t cs q):=by exact rfl):uY P o S [] (.d (.cptr t cs q)):=e_nckd ho hx
end Go.Fid
namespace Go.Fid
variable {P:Program} {o:Oper} {S:Nat→SV}
theorem e_cld{y:Operand}{xs:List Operand}{ats:Array TypeId}{f:FuncId}{ds caps:List jS}{r:jS}(hf:jP P f (ds++caps) r)(ho:o.op=.call { callee:=.value y,args:=xs.toArray,argTypes:=ats })(hy:ev S y=.d (.clo f caps))(hx:xs.map (ev S)=ds.map .d):uY P o S [] (.d r) :=
 fun a w D β Q hop hrd hD=>by
  have hyv:=hop y (by simp [ho,Op.operands,Call.operands])
  rw[hy] at hyv
  generalize hvv:a.eval y=v at hyv
  cases hyv with
  |clo vs hl hr=>
   have hlx:xs.length=ds.length:=by simpa using congrArg List.length hx
   have hargs:Args w D (xs.map a.eval++vs) (ds++caps):=by
    refine ⟨by simp [hlx,hl],fun i v d hv hd=>?_⟩
    by_cases hi:i<xs.length
    ·rw[List.getElem?_append_left (by simpa using hi),List.getElem?_map,Option.map_eq_some_iff] at hv
     rw[List.getElem?_append_left (by omega)] at hd
     obtain ⟨x,hxi,rfl⟩:=hv
     have hm:=hop x (by simp [ho,Op.operands,Call.operands,List.mem_of_getElem? hxi])
     have hi:=congrArg (fun l:List SV=>l[i]?) hx
     simp only[List.getElem?_map,hxi,hd,Option.map_some,Option.some.injEq] at hi
     rw[hi] at hm
     exact hm
    ·rw[List.getElem?_append_right (by simpa using hi),List.length_map] at hv
     rw[List.getElem?_append_right (by omega),← hlx] at hd
     exact hr _ _ _ hv hd
   have hrun:(execOp a.eval o).run P w=.ok (.enter f (xs.map a.eval++vs).toArray) w:=by
    simp only[execOp,ho,resolve,Deferred.ofValue,hvv,Sem.run_bind,Sem.run_pure,Result.andThen_ok,invoke,Array.empty_append]
    rw[vQ hf.may]
    simp
   refine nQ hrun ((hf.run w _ _ hD hargs).mono fun e w' h=>?_)
   obtain ⟨v,D2,he,h1,h2,h3⟩:=h
   exact ⟨v,he,v,D2,rfl,h1,h2,h3⟩
theorem oCd{S:SL}{y:Operand}{xs:List Operand}{ats:Array TypeId}{f:FuncId}{ds caps:List jS}{r:jS}(hf:jP P f (ds++caps) r)(ho:o.op=.call { callee:=.value y,args:=xs.toArray,argTypes:=ats }:=by exact rfl)
  (hy:ev (kF S) y=.d (.clo f caps):=by exact rfl) (hx:xs.map (ev (kF S))=ds.map .d:=by kernel_rfl):uY P o (kF S) [] (.d r):=e_cld hf ho hy hx
theorem e_shr{T T':TypeId}{x y:Operand}{k k':IntKind}{m:Int}{n:Nat}(r:Int)(ho:o.op=.binOp .shr T x y T':=by exact rfl)(hx:ev S x=.d (.val (.int k m)):=by exact rfl)(hy:ev S y=.d (.val (.int k' ((n:Nat):Int))):=by exact rfl)
  (hr:m.fdiv (2 ^ (min n k.bits))=r:=by kernel_rfl):uY P o S [] (.d (.val (.int k r))) :=
 fC ho hx hy (by simp [eqGuard]) fun w=>by
  have h0:¬ ((n:Nat):Int)<0:=by omega
  simp only[binOp,Op.shift,h0,if_false,Int.toNat_natCast,hr,Sem.run_pure]
end Go.Fid
namespace Go.Fid
open Go.RowKit (Below)
theorem aZ{w:World}{D:qL}{β:qC}{b:Nat}{arr:List Value}{E:TypeId}{k:Nat}{cs:List SV}(hkb:β k=some b)(mN:w.heap[b]?=some (.cells arr.toArray E (0,0)))(qV:cs.length≤arr.length)
  (h:∀ (i:Nat) x,cs[i]?=some x→∃ u,arr[i]?=some u∧u.oneCell'=true∧kZ w D β u x) (hp:∀ t o,¬ D t b o):uU w D β k cs:=by
 refine .inr ⟨b,arr.toArray,E,hkb,mN,by simpa using qV,fun i x hx=>?_,hp⟩
 obtain ⟨u,e1,e2,e3⟩:=h i x hx
 exact ⟨u,by simpa using e1,e2,e3⟩
theorem aY{k:Nat}{cs:List SV}(h:qG k cs=false){i:Nat}{x:SV}(hx:cs[i]?=some x):x.names k=false:=by
 simp only[qG,List.any_eq_false] at h
 simpa using h x (List.mem_of_getElem? hx)
theorem aR{cs:List SV}{ds:List jS}{q:Nat}{x:SV}(h:(cs++ds.map .d)[q]?=some x):(q<cs.length∧cs[q]?=some x)∨(cs.length≤q∧∃ d,ds[q-cs.length]?=some d∧x=.d d):=by
 by_cases hq:q<cs.length
 ·rw[List.getElem?_append_left hq] at h;exact .inl ⟨hq,h⟩
 ·rw[List.getElem?_append_right (by omega),List.getElem?_map,Option.map_eq_some_iff] at h
  obtain ⟨d,h1,h2⟩:=h
  exact .inr ⟨by omega,d,h1,h2.symm⟩
section
variable {P:Program} {o:Oper} {st:PS}
theorem app_soundG{T E t':TypeId}{x y:Operand}{k s m bytes:Nat}{zv:List Value}{es':List jS}{cs:List SV}{N:Fr}(ho:o.op=.call { callee:=.builtin .append,args:=#[x,y],argTypes:=#[T,T] })
  (hd:gL N o.dst=true) (hT:vF P T=some (E,s)) (hz:xX P E=some zv) (hzl:zv.length=s) (hby:yE P E=some bytes) (hx:ev (kF st.sl) x=.own k E s m) (hb:jW st.bs k=some cs) (hself:qG k cs=false)
  (hes:cs.length=m*s) (hy:ev (kF st.sl) y=.d (.sl t' s es')) (hbig:m+es'.length≤maxLen) (hbig':(m+es'.length)*bytes≤140737488355328) (hB:∀ j c,j≠k→jW st.bs j=some c→qG k c=false)
  (C:bH) (a:Act) (w:World) (Q:Exit→Act→World→Prop) (hn:C.n=N) (hs:cO C a w st) :
  o.wp P a w (fun a' w'=>cO C a' w' ⟨eU o.dst (.own k E s (m+es'.length)) (nF k st.sl),(k,some (cs++(kY es').map .d))::st.bs⟩) Q:=by
 obtain ⟨D,β,hs⟩:=hs
 subst hn
 have hev:∀ q:Operand,kZ w D β (a.eval q) (ev (kF st.sl) q):=fun q=>by
  cases q with
  |tmp t=>exact hs.slots t
  |const v=>exact vE.val v
  |func f=>exact vE.val _
  |global g=>trivial
 have h1:=hev x
 have h2:=hev y
 rw[hx] at h1
 rw[hy] at h2
 obtain ⟨ao,c,us,hyv,hcc,hul,hfl',dX,hrep,had⟩:=eX h2
 obtain ⟨i,z,z1,z2,z3⟩:=eT hz
 obtain ⟨j,f1,f2,f3⟩:=mS hT
 have hij:i=j:=by rw[z1] at f2;injection f2
 subst hij
 have hbi:i.bytes=bytes:=by
  unfold yE at hby
  rw[z1] at hby
  simpa using hby
 subst hbi
 have hzs:z.cells.size=s:=by rw[z3];simpa using hzl
 have hml:(maxLen:Int)≤9223372036854775807:=by decide
 have hblk:=hs.mem.ok k _ hb
 have hfll:(cs++(kY es').map SV.d).length=(m+es'.length)*s:=by rw[List.length_append,List.length_map,hes,hfl',Nat.add_mul]
 by_cases hm0:es'.length=0
 ·have hnil:es'=[]:=List.eq_nil_of_length_eq_zero hm0
  subst hnil
  have hrun:(Builtin.append_ #[T,T] o.type #[a.eval x,a.eval y]).run P w=.ok (a.eval x) w:=by
   rw[hyv]
   have e0:([]:List jS).length=0:=rfl
   have hu0:us=[]:=List.eq_nil_of_length_eq_zero (by simpa using hul)
   rcases h1 with ⟨_,_,hv⟩ | ⟨b,cap,vs,_,hv,mN,_,hmc,_⟩
   ·rw[hv,e0]
    cases ao with
    |none=>simp [Builtin.append_,run_underlying f1,sizeOf,typeInfo,z1,Builtin.lenOf,Builtin.firstCells]
    |some ad=>simp [Builtin.append_,run_underlying f1,sizeOf,typeInfo,z1,Builtin.lenOf,Builtin.firstCells,loadCells,loadCellsFrom]
   ·rw[hv,e0]
    cases ao with
    |none=>simp [Builtin.append_,run_underlying f1,sizeOf,typeInfo,z1,Builtin.lenOf,Builtin.firstCells,hmc,storeCells]
    |some ad=>simp [Builtin.append_,run_underlying f1,sizeOf,typeInfo,z1,Builtin.lenOf,Builtin.firstCells,hmc,storeCells,loadCells,loadCellsFrom]
  have hx':kZ w D β (a.eval x) (.own k E s (m+([]:List jS).length)):=h1
  have:=grew_same (dst:=o.dst) (cs:=cs++(kY []).map .d) (k:=k) hs hd (by simpa [kY] using hblk) ⟨_,hb⟩ hx'
  unfold Oper.wp execOp
  simp only[ho,resolve,invoke,builtin,Sem.run_bind,Sem.run_pure,Result.andThen_ok,List.map_toArray,List.map_cons,List.map_nil,hrun]
  exact this
 ·obtain ⟨ad,rfl,hcell⟩:=had (by omega)
  rcases h1 with ⟨hk0,hm,hv⟩ | ⟨b,cap,vs,hkb,hv,mN,hvs,hmc,hcap⟩
  ·subst hm
   have hbytes:es'.length*i.bytes≤281474976710656:=by rw[Nat.zero_add] at hbig';omega
   have hr:=run_append_nil (P:=P) w T o.type E i z f1 z1 z2 ad es'.length c us (by rw[hul,f3]) hcell (by omega) (by omega) hbytes
   have hes0:cs=[]:=List.eq_nil_of_length_eq_zero (by simpa using hes)
   subst hes0
   have hge:=grownCap_ge w es'.length 0 E
   have hcm:=grownCap_le_maxLen w es'.length 0 E (by omega)
   generalize grownCap w es'.length 0 E=G at hr hge hcm
   have gR:Below w.heap.size w (w.drew.alloc (.cells (us.toArray++Builtin.zeroCells z.cells (G-es'.length)) E)):=⟨rfl,rfl,rfl,by simp,fun q hq=>heap_alloc_old w.drew _ hq⟩
   have hblk':uU (w.drew.alloc (.cells (us.toArray++Builtin.zeroCells z.cells (G-es'.length)) E)) D (β.set k w.heap.size) k ([]++(kY es').map .d):=by
    have earr:us.toArray++Builtin.zeroCells z.cells (G-es'.length)=(us++(Builtin.zeroCells z.cells (G-es'.length)).toList).toArray:=by apply Array.ext';simp
    refine aZ (b:=w.heap.size) (E:=E) (arr:=us++(Builtin.zeroCells z.cells (G-es'.length)).toList) (by simp [qC.set]) (by rw[← earr];exact heap_alloc_new w.drew _) (by rw[hfll,Nat.zero_add,List.length_append];omega) ?_ (fun t q hq=>Nat.lt_irrefl _ (hs.base.dok t _ q hq))
    intro q x hq
    obtain ⟨d,hq2,rfl⟩:∃ d,(kY es')[q]?=some d∧x=.d d:=by
     rcases aR hq with ⟨h1,_⟩ | ⟨_,h2⟩
     ·cases h1
     ·simpa using h2
    have hlt:q<us.length:=by
     have:=(List.getElem?_eq_some_iff.1 hq2).1
     omega
    exact ⟨us[q],by rw[List.getElem?_append_left hlt];simp [hlt],dX _ (by simp),(hrep q us[q] d (by simp [hlt]) hq2).up gR (aQ.of_same D) hs.base.dok⟩
   have hx':kZ (w.drew.alloc (.cells (us.toArray++Builtin.zeroCells z.cells (G-es'.length)) E)) D (β.set k w.heap.size) (.slice (some ⟨w.heap.size,0,none⟩) es'.length G) (.own k E s (0+es'.length)):=by
    rw[Nat.zero_add]
    refine .inr ⟨w.heap.size,G,_,by simp [qC.set],rfl,heap_alloc_new w.drew _,?_,hge,hcm⟩
    simp only[Array.size_append,List.size_toArray,size_zeroCells,hzs,hul,← Nat.add_mul]
    congr 1
    omega
   have:=grew_new (dst:=o.dst) hs gR (Nat.le_refl _) hd hB hblk' hx'
   unfold Oper.wp execOp
   simp only[ho,resolve,invoke,builtin,Sem.run_bind,Sem.run_pure,Result.andThen_ok,List.map_toArray,List.map_cons,List.map_nil,hv,hyv,hr]
   exact this
  ·have hb4:∃ b' vs' T',β k=some b'∧w.heap[b']?=some (.cells vs' T' (0,0))∧cs.length≤vs'.size∧(∀ (i:Nat) x,cs[i]?=some x→∃ u,vs'[i]?=some u∧u.oneCell'=true∧kZ w D β u x)∧∀ t o,¬ D t b' o:=by
    rcases hblk with ⟨e,_⟩ | h
    ·rw[hkb] at e;cases e
    ·exact h
   obtain ⟨b',vs',T',e1,e2,e3,e4,e5⟩:=hb4
   have:b'=b:=by rw[hkb] at e1;injection e1 with e1;exact e1.symm
   subst this
   have:vs'=vs:=by rw[mN] at e2;injection e2 with e2;injection e2 with e2;exact e2.symm
   subst this
   have hle:m*s≤vs'.size:=by rw[hvs];exact Nat.mul_le_mul_right _ hmc
   by_cases hroom:m+es'.length≤cap
   ·have hfit:m*s+us.length≤vs'.size:=by rw[hul,hvs,← Nat.add_mul];exact Nat.mul_le_mul_right _ hroom
    have hr:=run_append_room (P:=P) w T o.type E i f1 z1 b' m cap vs' mN ad es'.length c us (by rw[hul,f3]) hcell dX hroom (by rw[f3];exact hfit)
    rw[f3] at hr
    have hpl:=gJ (l:=vs'.toList) (off:=m*s) (new:=us) (by simpa using hfit)
    have hw:=eS w b' (vs'.toList.take (m*s)++us++vs'.toList.drop (m*s+us.length)).toArray (fun vs2 T2 f2 h=>by
     rw[mN] at h
     injection h with h
     injection h with h
     subst h
     have e:patch vs'.toList (m*s) us=vs'.toList.take (m*s)++us++vs'.toList.drop (m*s+us.length):=rfl
     rw[e] at hpl
     simpa using hpl)
    have hheap':=setRow_heap w b' vs' (vs'.toList.take (m*s)++us++vs'.toList.drop (m*s+us.length)).toArray E _ mN
    have hpg:∀ q,(vs'.toList.take (m*s)++us++vs'.toList.drop (m*s+us.length))[q]?=if q<m*s then vs'.toList[q]? else if q<m*s+us.length then us[q-m*s]? else vs'.toList[q]?:=fun q=>hC (by simpa using hfit) q
    have hblk':uU (w.setRow b' (vs'.toList.take (m*s)++us++vs'.toList.drop (m*s+us.length)).toArray) D β k (cs++(kY es').map .d):=by
     refine aZ hkb hheap' ?_ ?_ e5
     ·have e:patch vs'.toList (m*s) us=vs'.toList.take (m*s)++us++vs'.toList.drop (m*s+us.length):=rfl
      rw[e] at hpl
      rw[hpl,hfll,Nat.add_mul]
      simp only[Array.length_toList]
      omega
     ·intro q x hq
      rw[hpg q]
      rcases aR hq with ⟨c1,hq2⟩ | ⟨c1,d,hq2,rfl⟩
      ·rw[hes] at c1
       rw[if_pos c1]
       obtain ⟨u,g1,g2,g3⟩:=e4 q x hq2
       exact ⟨u,by simpa using g1,g2,hw.repS e5 g3⟩
      ·rw[hes] at c1 hq2
       have hlt:q-m*s<us.length:=by
        have:=(List.getElem?_eq_some_iff.1 hq2).1
        omega
       rw[if_neg (by omega),if_pos (by omega)]
       exact ⟨us[q-m*s],by simp [hlt],dX _ (by simp),hw.rep e5 (hrep _ _ d (by simp [hlt]) hq2)⟩
    have hx':kZ (w.setRow b' (vs'.toList.take (m*s)++us++vs'.toList.drop (m*s+us.length)).toArray) D β (.slice (some ⟨b',0,none⟩) (m+es'.length) cap) (.own k E s (m+es'.length)):=by
     refine .inr ⟨b',cap,_,hkb,rfl,hheap',?_,hroom,hcap⟩
     have e:patch vs'.toList (m*s) us=vs'.toList.take (m*s)++us++vs'.toList.drop (m*s+us.length):=rfl
     rw[e] at hpl
     simpa [hvs] using hpl
    have:=grew_room (dst:=o.dst) hs hw hkb e5 hb hd hblk' hx'
    unfold Oper.wp execOp
    simp only[ho,resolve,invoke,builtin,Sem.run_bind,Sem.run_pure,Result.andThen_ok,List.map_toArray,List.map_cons,List.map_nil,hv,hyv,hr]
    exact this
   ·have hol:(vs'.toList.take (m*s)).length=m*i.size:=by rw[f3,List.length_take];simp;omega
    have holds:∀ q u,(vs'.toList.take (m*s))[q]?=some u→w.cell? ((⟨b',0,none⟩:Addr).add q)=some u:=fun q u hq=>by
     rw[Addr.add_lit,Nat.zero_add,cell_of_row w b' q vs' E (0,0) mN]
     rw[List.getElem?_take] at hq
     split at hq
     ·simpa using hq
     ·cases hq
    have hr:=run_append_grow (P:=P) w T o.type E i z f1 z1 z2 ⟨b',0,none⟩ m cap (vs'.toList.take (m*s)) hol holds ad es'.length c us (by rw[hul,f3]) hcell (by omega) (by omega) (growslice_fits (by omega) hbig')
    have hge:=grownCap_ge w (m+es'.length) cap E
    have hcm:=grownCap_le_maxLen w (m+es'.length) cap E (by omega)
    generalize grownCap w (m+es'.length) cap E=G at hr hge hcm
    have gR:Below w.heap.size w (w.drew.alloc (.cells ((vs'.toList.take (m*s)).toArray++us.toArray++Builtin.zeroCells z.cells (G-(m+es'.length))) E)):=⟨rfl,rfl,rfl,by simp,fun q hq=>heap_alloc_old w.drew _ hq⟩
    have hblk':uU (w.drew.alloc (.cells ((vs'.toList.take (m*s)).toArray++us.toArray++Builtin.zeroCells z.cells (G-(m+es'.length))) E)) D (β.set k w.heap.size) k (cs++(kY es').map .d):=by
     have earr:(vs'.toList.take (m*s)).toArray++us.toArray++Builtin.zeroCells z.cells (G-(m+es'.length))=(vs'.toList.take (m*s)++us++(Builtin.zeroCells z.cells (G-(m+es'.length))).toList).toArray:=by apply Array.ext';simp
     rw[f3] at hol
     refine aZ (b:=w.heap.size) (E:=E) (by simp [qC.set]) (by rw[← earr];exact heap_alloc_new w.drew _) (by rw[hfll,List.length_append,List.length_append,hol,Nat.add_mul];omega) ?_ (fun t q hq=>Nat.lt_irrefl _ (hs.base.dok t _ q hq))
     intro q x hq
     rcases aR hq with ⟨c1,hq2⟩ | ⟨c1,d,hq2,rfl⟩
     ·rw[hes] at c1
      obtain ⟨u,g1,g2,g3⟩:=e4 q x hq2
      refine ⟨u,?_,g2,(g3.up gR (aQ.of_same D) hs.base.dok).frame (fun j hj=>by simp [qC.set,hj]) (aY hself hq2)⟩
      rw[List.append_assoc,List.getElem?_append_left (by omega),List.getElem?_take,if_pos c1]
      simpa using g1
     ·rw[hes] at c1 hq2
      have hlt:q-m*s<us.length:=by
       have:=(List.getElem?_eq_some_iff.1 hq2).1
       omega
      refine ⟨us[q-m*s],?_,dX _ (by simp),(hrep _ _ d (by simp [hlt]) hq2).up gR (aQ.of_same D) hs.base.dok⟩
      rw[List.append_assoc,List.getElem?_append_right (by omega),hol,List.getElem?_append_left hlt]
      simp [hlt]
    have hx':kZ (w.drew.alloc (.cells ((vs'.toList.take (m*s)).toArray++us.toArray++Builtin.zeroCells z.cells (G-(m+es'.length))) E)) D (β.set k w.heap.size) (.slice (some ⟨w.heap.size,0,none⟩) (m+es'.length) G) (.own k E s (m+es'.length)):=by
     refine .inr ⟨w.heap.size,G,_,by simp [qC.set],rfl,heap_alloc_new w.drew _,?_,hge,hcm⟩
     rw[f3] at hol
     simp only[Array.size_append,List.size_toArray,size_zeroCells,hzs,hul,hol,← Nat.add_mul]
     congr 1
     omega
    have:=grew_new (dst:=o.dst) hs gR (Nat.le_refl _) hd hB hblk' hx'
    unfold Oper.wp execOp
    simp only[ho,resolve,invoke,builtin,Sem.run_bind,Sem.run_pure,Result.andThen_ok,List.map_toArray,List.map_cons,List.map_nil,hv,hyv,hr]
    exact this
end
section
variable {P:Program} {o:Oper} {S:Nat→SV}
theorem app_local{T E t':TypeId}{x y:Operand}{k k' s m bytes:Nat}{zv:List Value}{es':List jS}{cs:List SV}(ho:o.op=.call { callee:=.builtin .append,args:=#[x,y],argTypes:=#[T,T] })
  (hT:vF P T=some (E,s)) (hz:xX P E=some zv) (hzl:zv.length=s) (hby:yE P E=some bytes) (hx:ev S x=.own k E s m) (hself:qG k' cs=false)
  (hes:cs.length=m*s) (hy:ev S y=.d (.sl t' s es')) (hpos:0<es'.length) (hbig:m+es'.length≤maxLen) (hbig':(m+es'.length)*bytes≤140737488355328) :
  AOk P o S k k' cs (cs++(kY es').map .d) (.own k' E s (m+es'.length)):=fun a w D β Q hop hblk hdok=>by
 have h1:=hop x (by simp [ho,Op.operands,Call.operands])
 have h2:=hop y (by simp [ho,Op.operands,Call.operands])
 have hβ:∀ (b j:Nat),j≠k'→(β.set k' b) j=β j:=fun b j hj=>by simp [qC.set,hj]
 rw[hx] at h1
 rw[hy] at h2
 obtain ⟨ao,c,us,hyv,hcc,hul,hfl',dX,hrep,had⟩:=eX h2
 obtain ⟨i,z,z1,z2,z3⟩:=eT hz
 obtain ⟨j,f1,f2,f3⟩:=mS hT
 have hij:i=j:=by rw[z1] at f2;injection f2
 subst hij
 have hbi:i.bytes=bytes:=by
  unfold yE at hby
  rw[z1] at hby
  simpa using hby
 subst hbi
 have hzs:z.cells.size=s:=by rw[z3];simpa using hzl
 have hml:(maxLen:Int)≤9223372036854775807:=by decide
 have hfll:(cs++(kY es').map SV.d).length=(m+es'.length)*s:=by rw[List.length_append,List.length_map,hes,hfl',Nat.add_mul]
 ·obtain ⟨ad,rfl,hcell⟩:=had hpos
  rcases h1 with ⟨hk0,hm,hv⟩ | ⟨b,cap,vs,hkb,hv,mN,hvs,hmc,hcap⟩
  ·subst hm
   have hbytes:es'.length*i.bytes≤281474976710656:=by rw[Nat.zero_add] at hbig';omega
   have hr:=run_append_nil (P:=P) w T o.type E i z f1 z1 z2 ad es'.length c us (by rw[hul,f3]) hcell (by omega) (by omega) hbytes
   have hes0:cs=[]:=List.eq_nil_of_length_eq_zero (by simpa using hes)
   subst hes0
   have hge:=grownCap_ge w es'.length 0 E
   have hcm:=grownCap_le_maxLen w es'.length 0 E (by omega)
   generalize grownCap w es'.length 0 E=G at hr hge hcm
   have gR:Below w.heap.size w (w.drew.alloc (.cells (us.toArray++Builtin.zeroCells z.cells (G-es'.length)) E)):=⟨rfl,rfl,rfl,by simp,fun q hq=>heap_alloc_old w.drew _ hq⟩
   have hblk':uU (w.drew.alloc (.cells (us.toArray++Builtin.zeroCells z.cells (G-es'.length)) E)) D (β.set k' w.heap.size) k' ([]++(kY es').map .d):=by
    have earr:us.toArray++Builtin.zeroCells z.cells (G-es'.length)=(us++(Builtin.zeroCells z.cells (G-es'.length)).toList).toArray:=by apply Array.ext';simp
    refine aZ (b:=w.heap.size) (E:=E) (arr:=us++(Builtin.zeroCells z.cells (G-es'.length)).toList) (by simp [qC.set]) (by rw[← earr];exact heap_alloc_new w.drew _) (by rw[hfll,Nat.zero_add,List.length_append];omega) ?_ (fun t q hq=>Nat.lt_irrefl _ (hdok t _ q hq))
    intro q x hq
    obtain ⟨d,hq2,rfl⟩:∃ d,(kY es')[q]?=some d∧x=.d d:=by
     rcases aR hq with ⟨h1,_⟩ | ⟨_,h2⟩
     ·cases h1
     ·simpa using h2
    have hlt:q<us.length:=by
     have:=(List.getElem?_eq_some_iff.1 hq2).1
     omega
    exact ⟨us[q],by rw[List.getElem?_append_left hlt];simp [hlt],dX _ (by simp),(hrep q us[q] d (by simp [hlt]) hq2).up gR (aQ.of_same D) hdok⟩
   have hx':kZ (w.drew.alloc (.cells (us.toArray++Builtin.zeroCells z.cells (G-es'.length)) E)) D (β.set k' w.heap.size) (.slice (some ⟨w.heap.size,0,none⟩) es'.length G) (.own k' E s (0+es'.length)):=by
    rw[Nat.zero_add]
    refine .inr ⟨w.heap.size,G,_,by simp [qC.set],rfl,heap_alloc_new w.drew _,?_,hge,hcm⟩
    simp only[Array.size_append,List.size_toArray,size_zeroCells,hzs,hul,← Nat.add_mul]
    congr 1
    omega
   have this:APost a w D β o.dst k k' _ _ _ _:=⟨_,_,rfl,hblk',hx',.inl ⟨gR,Nat.le_refl _,by simp⟩⟩
   unfold Oper.wp execOp
   simp only[ho,resolve,invoke,builtin,Sem.run_bind,Sem.run_pure,Result.andThen_ok,List.map_toArray,List.map_cons,List.map_nil,hv,hyv,hr]
   exact this
  ·have hb4:∃ b' vs' T',β k=some b'∧w.heap[b']?=some (.cells vs' T' (0,0))∧cs.length≤vs'.size∧(∀ (i:Nat) x,cs[i]?=some x→∃ u,vs'[i]?=some u∧u.oneCell'=true∧kZ w D β u x)∧∀ t o,¬ D t b' o:=by
    rcases hblk with ⟨e,_⟩ | h
    ·rw[hkb] at e;cases e
    ·exact h
   obtain ⟨b',vs',T',e1,e2,e3,e4,e5⟩:=hb4
   have:b'=b:=by rw[hkb] at e1;injection e1 with e1;exact e1.symm
   subst this
   have:vs'=vs:=by rw[mN] at e2;injection e2 with e2;injection e2 with e2;exact e2.symm
   subst this
   have hle:m*s≤vs'.size:=by rw[hvs];exact Nat.mul_le_mul_right _ hmc
   by_cases hroom:m+es'.length≤cap
   ·have hfit:m*s+us.length≤vs'.size:=by rw[hul,hvs,← Nat.add_mul];exact Nat.mul_le_mul_right _ hroom
    have hr:=run_append_room (P:=P) w T o.type E i f1 z1 b' m cap vs' mN ad es'.length c us (by rw[hul,f3]) hcell dX hroom (by rw[f3];exact hfit)
    rw[f3] at hr
    have hpl:=gJ (l:=vs'.toList) (off:=m*s) (new:=us) (by simpa using hfit)
    have hw:=eS w b' (vs'.toList.take (m*s)++us++vs'.toList.drop (m*s+us.length)).toArray (fun vs2 T2 f2 h=>by
     rw[mN] at h
     injection h with h
     injection h with h
     subst h
     have e:patch vs'.toList (m*s) us=vs'.toList.take (m*s)++us++vs'.toList.drop (m*s+us.length):=rfl
     rw[e] at hpl
     simpa using hpl)
    have hheap':=setRow_heap w b' vs' (vs'.toList.take (m*s)++us++vs'.toList.drop (m*s+us.length)).toArray E _ mN
    have hpg:∀ q,(vs'.toList.take (m*s)++us++vs'.toList.drop (m*s+us.length))[q]?=if q<m*s then vs'.toList[q]? else if q<m*s+us.length then us[q-m*s]? else vs'.toList[q]?:=fun q=>hC (by simpa using hfit) q
    have hblk':uU (w.setRow b' (vs'.toList.take (m*s)++us++vs'.toList.drop (m*s+us.length)).toArray) D (β.set k' b') k' (cs++(kY es').map .d):=by
     refine aZ (b:=b') (by simp [qC.set]) hheap' ?_ ?_ e5
     ·have e:patch vs'.toList (m*s) us=vs'.toList.take (m*s)++us++vs'.toList.drop (m*s+us.length):=rfl
      rw[e] at hpl
      rw[hpl,hfll,Nat.add_mul]
      simp only[Array.length_toList]
      omega
     ·intro q x hq
      rw[hpg q]
      rcases aR hq with ⟨c1,hq2⟩ | ⟨c1,d,hq2,rfl⟩
      ·rw[hes] at c1
       rw[if_pos c1]
       obtain ⟨u,g1,g2,g3⟩:=e4 q x hq2
       exact ⟨u,by simpa using g1,g2,(hw.repS e5 g3).frame (hβ b') (aY hself hq2)⟩
      ·rw[hes] at c1 hq2
       have hlt:q-m*s<us.length:=by
        have:=(List.getElem?_eq_some_iff.1 hq2).1
        omega
       rw[if_neg (by omega),if_pos (by omega)]
       exact ⟨us[q-m*s],by simp [hlt],dX _ (by simp),hw.rep e5 (hrep _ _ d (by simp [hlt]) hq2)⟩
    have hx':kZ (w.setRow b' (vs'.toList.take (m*s)++us++vs'.toList.drop (m*s+us.length)).toArray) D (β.set k' b') (.slice (some ⟨b',0,none⟩) (m+es'.length) cap) (.own k' E s (m+es'.length)):=by
     refine .inr ⟨b',cap,_,by simp [qC.set],rfl,hheap',?_,hroom,hcap⟩
     have e:patch vs'.toList (m*s) us=vs'.toList.take (m*s)++us++vs'.toList.drop (m*s+us.length):=rfl
     rw[e] at hpl
     simpa [hvs] using hpl
    have this:APost a w D β o.dst k k' _ _ _ _:=⟨_,_,rfl,hblk',hx',.inr ⟨hkb,hw,e5⟩⟩
    unfold Oper.wp execOp
    simp only[ho,resolve,invoke,builtin,Sem.run_bind,Sem.run_pure,Result.andThen_ok,List.map_toArray,List.map_cons,List.map_nil,hv,hyv,hr]
    exact this
   ·have hol:(vs'.toList.take (m*s)).length=m*i.size:=by rw[f3,List.length_take];simp;omega
    have holds:∀ q u,(vs'.toList.take (m*s))[q]?=some u→w.cell? ((⟨b',0,none⟩:Addr).add q)=some u:=fun q u hq=>by
     rw[Addr.add_lit,Nat.zero_add,cell_of_row w b' q vs' E (0,0) mN]
     rw[List.getElem?_take] at hq
     split at hq
     ·simpa using hq
     ·cases hq
    have hr:=run_append_grow (P:=P) w T o.type E i z f1 z1 z2 ⟨b',0,none⟩ m cap (vs'.toList.take (m*s)) hol holds ad es'.length c us (by rw[hul,f3]) hcell (by omega) (by omega) (growslice_fits (by omega) hbig')
    have hge:=grownCap_ge w (m+es'.length) cap E
    have hcm:=grownCap_le_maxLen w (m+es'.length) cap E (by omega)
    generalize grownCap w (m+es'.length) cap E=G at hr hge hcm
    have gR:Below w.heap.size w (w.drew.alloc (.cells ((vs'.toList.take (m*s)).toArray++us.toArray++Builtin.zeroCells z.cells (G-(m+es'.length))) E)):=⟨rfl,rfl,rfl,by simp,fun q hq=>heap_alloc_old w.drew _ hq⟩
    have hblk':uU (w.drew.alloc (.cells ((vs'.toList.take (m*s)).toArray++us.toArray++Builtin.zeroCells z.cells (G-(m+es'.length))) E)) D (β.set k' w.heap.size) k' (cs++(kY es').map .d):=by
     have earr:(vs'.toList.take (m*s)).toArray++us.toArray++Builtin.zeroCells z.cells (G-(m+es'.length))=(vs'.toList.take (m*s)++us++(Builtin.zeroCells z.cells (G-(m+es'.length))).toList).toArray:=by apply Array.ext';simp
     rw[f3] at hol
     refine aZ (b:=w.heap.size) (E:=E) (by simp [qC.set]) (by rw[← earr];exact heap_alloc_new w.drew _) (by rw[hfll,List.length_append,List.length_append,hol,Nat.add_mul];omega) ?_ (fun t q hq=>Nat.lt_irrefl _ (hdok t _ q hq))
     intro q x hq
     rcases aR hq with ⟨c1,hq2⟩ | ⟨c1,d,hq2,rfl⟩
     ·rw[hes] at c1
      obtain ⟨u,g1,g2,g3⟩:=e4 q x hq2
      refine ⟨u,?_,g2,(g3.up gR (aQ.of_same D) hdok).frame (fun j hj=>by simp [qC.set,hj]) (aY hself hq2)⟩
      rw[List.append_assoc,List.getElem?_append_left (by omega),List.getElem?_take,if_pos c1]
      simpa using g1
     ·rw[hes] at c1 hq2
      have hlt:q-m*s<us.length:=by
       have:=(List.getElem?_eq_some_iff.1 hq2).1
       omega
      refine ⟨us[q-m*s],?_,dX _ (by simp),(hrep _ _ d (by simp [hlt]) hq2).up gR (aQ.of_same D) hdok⟩
      rw[List.append_assoc,List.getElem?_append_right (by omega),hol,List.getElem?_append_left hlt]
      simp [hlt]
    have hx':kZ (w.drew.alloc (.cells ((vs'.toList.take (m*s)).toArray++us.toArray++Builtin.zeroCells z.cells (G-(m+es'.length))) E)) D (β.set k' w.heap.size) (.slice (some ⟨w.heap.size,0,none⟩) (m+es'.length) G) (.own k' E s (m+es'.length)):=by
     refine .inr ⟨w.heap.size,G,_,by simp [qC.set],rfl,heap_alloc_new w.drew _,?_,hge,hcm⟩
     rw[f3] at hol
     simp only[Array.size_append,List.size_toArray,size_zeroCells,hzs,hul,hol,← Nat.add_mul]
     congr 1
     omega
    have this:APost a w D β o.dst k k' _ _ _ _:=⟨_,_,rfl,hblk',hx',.inl ⟨gR,Nat.le_refl _,by simp⟩⟩
    unfold Oper.wp execOp
    simp only[ho,resolve,invoke,builtin,Sem.run_bind,Sem.run_pure,Result.andThen_ok,List.map_toArray,List.map_cons,List.map_nil,hv,hyv,hr]
    exact this
end
def cC(E:TypeId)(s:Nat):Nat→List (List jS)→List SV
 |_,[]=>[]
 |k,r::rs=>.own k E s r.length::cC E s (k+1) rs
theorem rowC_get{E:TypeId}{s:Nat}:∀ (k:Nat) (rows:List (List jS)) (j:Nat),(cC E s k rows)[j]?=(rows[j]?).map fun r=>.own (k+j) E s r.length
 |_,[],j=>by simp [cC]
 |k,r::rs,0=>by simp [cC]
 |k,r::rs,j+1=>by
  simp only[cC,List.getElem?_cons_succ]
  rw[rowC_get (k+1) rs j,show k+1+j=k+(j+1) by omega]
theorem fL{E:TypeId}{s:Nat}:∀ (k:Nat) (rows:List (List jS)),(cC E s k rows).length=rows.length
 |_,[]=>rfl
 |k,r::rs=>by simp [cC,fL (k+1) rs]
theorem rowC_names{E:TypeId}{s k q:Nat}{rows:List (List jS)}(h:q<k∨k+rows.length≤q):qG q (cC E s k rows)=false:=by
 simp only[qG,List.any_eq_false]
 intro x hx
 obtain ⟨j,hj⟩:=List.getElem?_of_mem hx
 rw[rowC_get,Option.map_eq_some_iff] at hj
 obtain ⟨r,hr,rfl⟩:=hj
 have:=(List.getElem?_eq_some_iff.1 hr).1
 simp only[SV.names,Bool.not_eq_true]
 rw[← Bool.not_eq_true]
 exact fun e=>by have:=Nat.eq_of_beq_eq_true e;omega
section
variable {P:Program} {o:Oper} {S:SL}
theorem bL{st:PS}{j k s m:Nat}{T:TypeId}{pre post cs:List SV}{es:List jS}(hj:jW st.bs j=some (pre++.own k T s m::post))(hjk:k≠j)(hb:jW st.bs k=some cs)(hes:∀ e∈es,e.cells.length=s)(hl:es.length=m)(hc:cs.take (m*s)=(kY es).map .d) :
  uZ st ⟨st.sl,(j,some (pre++.d (.sl T s es)::post))::(k,none)::st.bs⟩:=fun C a w ⟨D,β,h⟩=>by
 obtain ⟨D',h',hown⟩:=publish_core (T:=T) h hb hes hl hc
 have hj2:jW ((k,none)::st.bs) j=some (pre++.own k T s m::post):=by rw[jM,if_neg hjk];exact hj
 have conv:∀ {i c},jW ((j,some (pre++SV.d (.sl T s es)::post))::(k,none)::st.bs) i=some c→∃ c',jW ((k,none)::st.bs) i=some c':=fun {i c} hi=>by
  rw[jM] at hi
  split at hi
  ·rename_i e;subst e;exact ⟨_,hj2⟩
  ·exact ⟨c,hi⟩
 refine ⟨D',β,h'.base,⟨fun i c hi=>?_,fun i1 i2 c1 c2 q1 q2=>?_⟩,fun i c hi=>?_,h'.slots⟩
 ·rw[jM] at hi
  split at hi
  ·rename_i e;subst e
   injection hi with hi;subst hi
   rcases h'.mem.ok j _ hj2 with ⟨_,q⟩ | ⟨b,vs,T2,q1,q2,q3,q4,q5⟩
   ·simp at q
   ·refine .inr ⟨b,vs,T2,q1,q2,by simpa using q3,fun i x hx=>?_,q5⟩
    by_cases h1:i<pre.length
    ·rw[List.getElem?_append_left h1] at hx
     exact q4 i x (by rw[List.getElem?_append_left h1];exact hx)
    ·rw[List.getElem?_append_right (by omega)] at hx
     cases hq:i-pre.length with
     |zero=>
      rw[hq] at hx
      simp at hx
      subst hx
      obtain ⟨u,e1,e2,e3⟩:=q4 i (.own k T s m) (by rw[List.getElem?_append_right (by omega),hq];rfl)
      exact ⟨u,e1,e2,hown u D' e3⟩
     |succ q=>
      rw[hq] at hx
      exact q4 i x (by rw[List.getElem?_append_right (by omega),hq];simpa using hx)
  ·exact h'.mem.ok i c hi
 ·obtain ⟨d1,g1⟩:=conv q1
  obtain ⟨d2,g2⟩:=conv q2
  exact h'.mem.inj i1 i2 d1 d2 g1 g2
 ·obtain ⟨d,g⟩:=conv hi
  exact h'.high i d g
end
theorem ownCell{S:SL}{B:BS}{j:Nat}{cs:List SV}(i k E s:Nat)(hj:jW B j=some cs)(hi:cs[i]?=some (.d (.val (.slice none 0 0))))(hf:gM k ⟨S,B⟩=true) :
  uZ ⟨S,B⟩ ⟨S,(j,some (cs.set i (.own k E s 0)))::(k,some [])::B⟩:=fun C a w ⟨D,β,hs⟩=>by
 have hβ:∀ q,q≠k→(fun q=>if q=k then none else β q:qC) q=β q:=fun q hq=>by simp [hq]
 have hβ0:(fun q=>if q=k then none else β q:qC) k=none:=by simp
 generalize (fun q=>if q=k then none else β q:qC)=β' at hβ hβ0
 obtain ⟨hjk,hnm⟩:=bA hf hj
 have conv:∀ {q c},q≠k→jW ((j,some (cs.set i (SV.own k E s 0)))::(k,some [])::B) q=some c→∃ c',jW B q=some c':=fun {q c} hne hq=>by
  rw[jM] at hq
  split at hq
  ·rename_i e;subst e;exact ⟨_,hj⟩
  ·rw[jM,if_neg (fun e=>hne e.symm)] at hq;exact ⟨_,hq⟩
 refine ⟨D,β',hs.base,⟨fun q c hq=>?_,fun i1 i2 c1 c2 q1 q2 b e1 e2=>?_⟩,fun q c hq b e=>?_,fun t=>(hs.slots t).frame hβ (iJ hf t)⟩
 ·rw[jM] at hq
  split at hq
  ·rename_i e;subst e
   injection hq with hq;subst hq
   rcases hs.mem.ok _ cs hj with ⟨h1,h2⟩ | ⟨b,vs,T,h1,h2,h3,h4,h5⟩
   ·rw[h2] at hi;simp at hi
   ·refine .inr ⟨b,vs,T,(hβ _ hjk).trans h1,h2,by simpa using h3,fun q x hx=>?_,h5⟩
    rw[List.getElem?_set] at hx
    split at hx
    ·rename_i e;subst e
     split at hx
     ·injection hx with hx;subst hx
      obtain ⟨u,e1,e2,e3⟩:=h4 i _ hi
      exact ⟨u,e1,e2,.inl ⟨hβ0,rfl,vI e3⟩⟩
     ·cases hx
    ·obtain ⟨u,e1,e2,e3⟩:=h4 q x hx
     exact ⟨u,e1,e2,e3.frame hβ (aY hnm hx)⟩
  ·rw[jM] at hq
   split at hq
   ·rename_i e;subst e
    injection hq with hq;subst hq
    exact .inl ⟨hβ0,rfl⟩
   ·obtain ⟨g1,g2⟩:=bA hf hq
    exact (hs.mem.ok q c hq).frame hβ g1 g2
 ·have n1:i1≠k:=fun e=>by rw[e,hβ0] at e1;cases e1
  have n2:i2≠k:=fun e=>by rw[e,hβ0] at e2;cases e2
  obtain ⟨d1,g1⟩:=conv n1 q1
  obtain ⟨d2,g2⟩:=conv n2 q2
  exact hs.mem.inj i1 i2 d1 d2 g1 g2 b ((hβ _ n1).symm.trans e1) ((hβ _ n2).symm.trans e2)
 ·have n1:q≠k:=fun e'=>by rw[e',hβ0] at e;cases e
  obtain ⟨d,g⟩:=conv n1 hq
  exact hs.high q d g b ((hβ _ n1).symm.trans e)
theorem pwp_own{P:Program}{n:Fr}{c:Code}{Q:Exit→PS→Prop}{S:SL}{B:BS}(j i k E s:Nat){cs:List SV}(hj:jW B j=some cs:=by kernel_rfl)(hi:cs[i]?=some (.d (.val (.slice none 0 0))):=by kernel_rfl)(h1:(S.all fun p=>!p.2.names k)=true:=by kernel_rfl)
  (h2:FrB k B:=by repeat first | exact frb_nil _ | refine frb_map rfl ?_ | refine frb_d rfl ?_ | refine frb_cs rfl rfl ?_ | refine frb_none rfl ?_) (h:qJ P n c Q ⟨S,(j,some (cs.set i (.own k E s 0)))::(k,some [])::B⟩):qJ P n c Q ⟨S,B⟩ :=
 kV (ownCell i k E s hj hi (freshB_of h1 h2)) h
section
variable {P:Program} {n:Fr} {ops:Array Oper} {K:SL→BS→Prop} {S:SL} {B:BS} {l:List Oper} {o:Oper} {α:Type} {T E t':TypeId} {x y:Operand} {k s m bytes:Nat} {zv:List Value}
theorem oSx{k j E s N off:Nat}{old:List SV}(hs:qO P T=some (false,1))(ho:o.op=.store T x y:=by exact rfl)(hx:ev (kF S) x=.ref k off:=by exact rfl)(hy:ev (kF S) y=.own j E s N:=by exact rfl)(hb:jW B k=some old:=by exact rfl)(hle:Nat.ble (off+1) old.length=true:=by kernel_rfl):TK P o S B k (patch old off [.own j E s N]) :=
 ⟨_,t_store ho hx hy hs (.inr ⟨⟨j,E,s,N,rfl⟩,rfl⟩) rfl (Nat.le_of_ble_eq_true hle),hb⟩
variable {news:List Nat} {acc0:List (List Nat × List Nat)}
end
def swN(k k' j:Nat):Nat:=bif Nat.beq j k then k' else j
def SV.sw(k k':Nat):SV→SV
 |.ref j o=>.ref (swN k k' j) o
 |.own j t s n=>.own (swN k k' j) t s n
 |.view j o n=>.view (swN k k' j) o n
 |.clo f ks=>.clo f (ks.map (swN k k'))
 |.pr j t s n x=>.pr (swN k k' j) t s n x
 |.refx j o b=>.refx (swN k k' j) o b
 |.bnd f j o=>.bnd f (swN k k' j) o
 |.ownx j t s n u=>.ownx (swN k k' j) t s n u
 |x=>x
theorem swN_eq(k k':Nat):swN k k' k=k':=by simp [swN]
theorem swN_ne{k k' j:Nat}(h:j≠k):swN k k' j=j:=by
 have:Nat.beq j k=false:=by rw[← Bool.not_eq_true];exact fun e=>h (Nat.eq_of_beq_eq_true e)
 simp [swN,this]
theorem kZ.sw{w:World}{D:qL}{β:qC}{k k':Nat}{v:Value}{x:SV}(h:kZ w D β v (x.sw k k')):kZ w D (fun j=>β (swN k k' j)) v x:=by
 cases x with
 |d x=>exact h
 |ref j o=>exact h
 |own j t s n=>exact h
 |clo f ks=>
  obtain ⟨vs,h1,h2,h3⟩:=h
  exact ⟨vs,h1,by simpa using h2,fun i j hj=>h3 i (swN k k' j) (by rw[List.getElem?_map,hj];rfl)⟩
 |emp=>exact h
 |view j o n=>exact h
 |hob u b ob=>exact h
 |pr j t s n x=>exact h
 |refx j o b=>exact h
 |bnd f j o=>exact h
 |ownx j t s n u=>exact h
 |junk=>trivial
theorem sw_of{k k':Nat}{x:SV}(h:x.names k=false):x.sw k k'=x:=by
 have key:∀ j,Nat.beq k j=false→swN k k' j=j:=fun j hj=>swN_ne (fun e=>by subst e;simp at hj)
 cases x with
 |ref j o=>simp only[SV.sw];rw[key j h]
 |own j t s n=>simp only[SV.sw];rw[key j h]
 |view j o n=>simp only[SV.sw];rw[key j h]
 |clo f ks=>
  simp only[SV.sw]
  simp only[SV.names,List.any_eq_false] at h
  have:ks.map (swN k k')=ks:=by
   conv=>rhs;rw[← List.map_id ks]
   exact List.map_congr_left fun j hj=>key j (by rw[← Bool.not_eq_true];exact h j hj)
  rw[this]
 |d x=>rfl
 |emp=>rfl
 |hob u b ob=>rfl
 |pr j t s n x=>simp only[SV.sw];rw[key j h]
 |refx j o b=>simp only[SV.sw];rw[key j h]
 |bnd f j o=>simp only[SV.sw];rw[key j h]
 |ownx j t s n u=>simp only[SV.sw];rw[key j h]
 |junk=>rfl
section
variable {P:Program}
end
section
variable {P:Program} {o:Oper} {S:Nat→SV}
end
section
variable {P:Program}
end
section
variable {P:Program} {o:Oper} {S:Nat→SV}
end
end Go.Fid
