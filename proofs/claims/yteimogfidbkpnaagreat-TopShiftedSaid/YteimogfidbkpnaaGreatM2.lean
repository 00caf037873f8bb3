/- Part 2 of a proof: rules, plain facts, and functions walked. -/
import Derived.Test.YteimogfidbkpnaaGreatM1
set_option linter.all false
namespace Go.Fid
open Go.RowKit (Below)
section
variable {P:Program} {o:Oper} {S:Nat→SV}
def jQ.ok1:jQ→Bool
 |.val u=>u.oneCell'
 |.tup _=>false
 |_=>true
theorem cells_one{v:Value}(h:v.oneCell'=true):v.cells=#[v]:=by cases v<;>first | rfl | (simp [Value.oneCell'] at h)
theorem fK{w:World}{D:qE}{v:Value}{d:jQ}(h:uT w D v d)(h1:d.ok1=true) :
  ∃ vs:List Value,v.cells=vs.toArray∧vs.length=d.cells.length∧(∀ v∈vs,v.oneCell'=true)∧∀ (i:Nat) v y,vs[i]?=some v→d.cells[i]?=some y→uT w D v y:=by
 have one:v.oneCell'=true→d.cells=[d]→_:=fun ho hc=>(⟨[v],by simp [cells_one ho],by simp [hc],by simpa using ho,fun i u y hu hy=>by
  rw[hc] at hy
  cases i with
  |zero=>simp at hu hy;subst hu;subst hy;exact h
  |succ i=>simp at hu⟩:∃ vs:List Value,v.cells=vs.toArray∧vs.length=d.cells.length∧(∀ v∈vs,v.oneCell'=true)∧∀ (i:Nat) v y,vs[i]?=some v→d.cells[i]?=some y→uT w D v y)
 cases h with
 |val v=>exact one h1 rfl
 |sl g off u hn hc hm hs ha hD hu h1' hr=>exact one rfl rfl
 |agg vs hl h1' hr=>exact ⟨vs,rfl,hl,h1',hr⟩
 |tup vs hl hr=>simp [jQ.ok1] at h1
 |cptr g p u hD hu h1' hr=>exact one rfl rfl
 |clo vs hl hr=>exact one rfl rfl
def gD:List Value→List jQ→Prop
 |[],[]=>True
 |v::vs,d::ds=>((d=.val v∧v.oneCell'=true)∨(v=.slice none 0 0∧∃ t s,d=.sl t s []))∧gD vs ds
 |_,_=>False
theorem eI{w:World}{D:qE}:∀ {vs:List Value} {ds:List jQ},gD vs ds→vs.length=ds.length∧(∀ v∈vs,v.oneCell'=true)∧∀ (i:Nat) v d,vs[i]?=some v→ds[i]?=some d→uT w D v d
 |[],[],_=>⟨rfl,by simp,by simp⟩
 |v::vs,d::ds,⟨h,hr⟩=>by
  obtain ⟨h1,h2,h3⟩:=eI (w:=w) (D:=D) hr
  refine ⟨by simp [h1],fun u hu=>?_,fun i u e hu he=>?_⟩
  ·rcases List.mem_cons.1 hu with rfl | hu
   ·rcases h with ⟨_,h⟩ | ⟨rfl,_⟩
    ·exact h
    ·rfl
   ·exact h2 u hu
  ·cases i with
   |zero=>
    simp at hu he
    subst hu;subst he
    rcases h with ⟨rfl,_⟩ | ⟨rfl,t,s,rfl⟩
    ·exact .val _
    ·exact fN w D t s
   |succ i=>exact h3 i u e (by simpa using hu) (by simpa using he)
 |[],_::_,h=>h.elim
 |_::_,[],h=>h.elim
def uL(P:Program)(T:TypeId):Option (List Value) :=
 match P.info? T with
 |some i=>i.zero.map fun z=>z.cells.toList
 |none=>none
theorem mY{T:TypeId}{vs:List Value}(h:uL P T=some vs):∃ i z,P.info? T=some i∧i.zero=some z∧z.cells=vs.toArray:=by
 unfold uL at h
 split at h
 ·rename_i i hi
  rw[Option.map_eq_some_iff] at h
  obtain ⟨z,h1,h2⟩:=h
  exact ⟨i,z,hi,h1,by rw[← h2]⟩
 ·cases h
theorem run_zero{T:TypeId}{i:TypeInfo}{z:Value}(h:P.info? T=some i)(hz:i.zero=some z)(w:World):(zeroValue T).run P w=.ok z w:=by
 simp [zeroValue,typeInfo,h,hz]
def patch{α:Type}(l:List α)(off:Nat)(new:List α):List α:=l.take off++new++l.drop (off+new.length)
theorem zV{α:Type}{l:List α}{off:Nat}{new:List α}(h:off+new.length≤l.length):(patch l off new).length=l.length:=by
 simp [patch];omega
theorem yK{α:Type}{l:List α}{off:Nat}{new:List α}(h:off+new.length≤l.length)(i:Nat):(patch l off new)[i]?=if i<off then l[i]? else if i<off+new.length then new[i-off]? else l[i]?:=by
 unfold patch
 rw[List.append_assoc]
 by_cases h1:i<off
 ·rw[if_pos h1,List.getElem?_append_left (by simp;omega),List.getElem?_take_of_lt h1]
 ·rw[if_neg h1,List.getElem?_append_right (by simp;omega)]
  have e1:i-(l.take off).length=i-off:=by simp;omega
  rw[e1]
  by_cases h2:i<off+new.length
  ·rw[if_pos h2,List.getElem?_append_left (by omega)]
  ·rw[if_neg h2,List.getElem?_append_right (by omega),List.getElem?_drop]
   congr 1;omega
theorem foldl_set(off:Nat):∀ (new:List Value) (j:Nat) (cs:Array Value),off+j+new.length≤cs.size→((new.zipIdx j).foldl (fun cs (c,j)=>cs.setIfInBounds (off+j) c) cs).toList=patch cs.toList (off+j) new
 |[],j,cs,_=>by simp [patch]
 |c::new,j,cs,h=>by
  simp only[List.length_cons] at h
  rw[List.zipIdx_cons,List.foldl_cons,foldl_set off new (j+1) _ (by simp;omega)]
  apply List.ext_getElem?
  intro i
  rw[yK (by simp;omega),yK (by simp;omega)]
  simp only[Array.toList_setIfInBounds,List.length_cons]
  by_cases h1:i<off+j
  ·rw[if_pos (by omega),if_pos h1,List.getElem?_set_ne (by omega)]
  ·rw[if_neg h1]
   by_cases h2:i=off+j
   ·subst h2
    rw[if_pos (by omega),if_pos (by omega),List.getElem?_set_self (by simp;omega)]
    simp
   ·by_cases h3:i<off+j+(new.length+1)
    ·rw[if_neg (by omega),if_pos (by omega),if_pos h3]
     obtain ⟨q,hq⟩:∃ q,i-(off+j)=q+1:=⟨i-(off+j)-1,by omega⟩
     rw[hq,List.getElem?_cons_succ]
     congr 1;omega
    ·rw[if_neg (by omega),if_neg (by omega),if_neg h3,List.getElem?_set_ne (by omega)]
def dD{α:Type}(place:Nat→Option (Nat × Nat))(cells:List α):List (Nat × List α)→Option (List α)
 |[]=>some cells
 |(i,l)::vT=>
  match place i with
  |none=>none
  |some (off,size)=>bif Nat.beq l.length size&&Nat.ble (off+l.length) cells.length then dD place (patch cells off l) vT else none
def RepL(w:World)(D:qE)(vs:List Value)(ds:List jQ):Prop:=vs.length=ds.length∧(∀ v∈vs,v.oneCell'=true)∧∀ (i:Nat) v d,vs[i]?=some v→ds[i]?=some d→uT w D v d
theorem repL_zero{w:World}{D:qE}{zv:List Value}{zd:List jQ}(h:gD zv zd):RepL w D zv.toArray.toList zd:=by
 rw[List.toList_toArray]
 exact eI h
theorem RepL.patch{w:World}{D:qE}{vs us:List Value}{ds es:List jQ}{off:Nat}(h:RepL w D vs ds)(k:RepL w D us es)(hle:off+es.length≤ds.length):RepL w D (patch vs off us) (patch ds off es):=by
 obtain ⟨h1,h2,h3⟩:=h
 obtain ⟨k1,k2,k3⟩:=k
 refine ⟨?_,fun v hv=>?_,fun i v d hv hd=>?_⟩
 ·rw[zV (by omega),zV hle,h1]
 ·simp only[Fid.patch,List.append_assoc,List.mem_append] at hv
  rcases hv with hv | hv | hv
  ·exact h2 v (List.mem_of_mem_take hv)
  ·exact k2 v hv
  ·exact h2 v (List.mem_of_mem_drop hv)
 ·rw[yK (by omega)] at hv
  rw[yK hle] at hd
  by_cases c1:i<off
  ·rw[if_pos c1] at hv hd;exact h3 i v d hv hd
  ·rw[if_neg c1] at hv hd
   rw[k1] at hv
   by_cases c2:i<off+es.length
   ·rw[if_pos c2] at hv hd;exact k3 _ v d hv hd
   ·rw[if_neg c2] at hv hd;exact h3 i v d hv hd
theorem eB{w:World}{D:qE}(place:Nat→Option (Nat × Nat)):∀ (ps:List (Nat × Value)) (pd:List (Nat × List jQ)) (cs:Array Value) (ds r:List jQ),
  ps.map (·.1)=pd.map (·.1)→(∀ (i:Nat) p q,ps[i]?=some p→pd[i]?=some q→∃ vs:List Value,p.2.cells=vs.toArray∧RepL w D vs q.2)→RepL w D cs.toList ds→dD place ds pd=some r →
  ∃ cs',Instr.fill place cs ps=some cs'∧RepL w D cs'.toList r
 |[],[],cs,ds,r,_,_,h,hf=>by simp [dD] at hf;subst hf;exact ⟨cs,rfl,h⟩
 |[],_::_,_,_,_,hm,_,_,_=>by simp at hm
 |_::_,[],_,_,_,hm,_,_,_=>by simp at hm
 |(i,v)::ps,(j,l)::pd,cs,ds,r,hm,hp,h,hf=>by
  simp only[List.map_cons,List.cons.injEq] at hm
  obtain ⟨rfl,hm⟩:=hm
  obtain ⟨vs,e1,e2⟩:=hp 0 (i,v) (i,l) rfl rfl
  simp only[dD] at hf
  cases hpl:place i with
  |none=>simp [hpl] at hf
  |some os=>
   obtain ⟨off,size⟩:=os
   simp only[hpl] at hf
   cases hc:(Nat.beq l.length size&&Nat.ble (off+l.length) ds.length) with
   |false=>simp [hc] at hf
   |true=>
    simp only[hc,cond_true] at hf
    simp only[Bool.and_eq_true] at hc
    have hs:l.length=size:=Nat.eq_of_beq_eq_true hc.1
    have hle:off+l.length≤ds.length:=Nat.le_of_ble_eq_true hc.2
    have e1':v.cells=vs.toArray:=e1
    have hvl:vs.length=l.length:=e2.1
    have hcl:cs.size=ds.length:=by have:=h.1;simpa using this
    have hfold:=foldl_set off vs 0 cs (by omega)
    have hnew:RepL w D ((vs.zipIdx 0).foldl (fun cs (c,j)=>cs.setIfInBounds (off+j) c) cs).toList (Fid.patch ds off l):=by
     rw[hfold,Nat.add_zero]
     exact h.patch e2 hle
    obtain ⟨cs',f1,f2⟩:=eB place ps pd _ (Fid.patch ds off l) r hm (fun i p q a b=>hp (i+1) p q (by simpa using a) (by simpa using b)) hnew hf
    refine ⟨cs',?_,f2⟩
    simp only[Instr.fill,hpl,e1']
    rw[if_neg (by simp;omega)]
    have:(vs.toArray.zipIdx.foldl (fun cs (c,j)=>cs.setIfInBounds (off+j) c) cs)=((vs.zipIdx 0).foldl (fun cs (c,j)=>cs.setIfInBounds (off+j) c) cs):=by
     rw[← Array.foldl_toList];simp
    rw[this]
    exact f1
def yR(P:Program)(T:TypeId):Option (List (Nat × Nat)) :=
 match P.underlying T with
 |some (.struct fs)=>fs.toList.mapM fun f=>(P.info? f.type).map fun i=>(f.offset,i.size)
 |_=>none
theorem run_places(fs:List Field):∀ {l:List (Nat × Nat)},(fs.mapM fun f=>(P.info? f.type).map fun i=>(f.offset,i.size))=some l→∀ w,(fs.mapM (fun f=>do pure (f.offset,← sizeOf f.type):Field→Sem (Nat × Nat))).run P w=.ok l w:=by
 induction fs with
 |nil=>intro l h w;simp at h;subst h;simp
 |cons f fs ih=>
  intro l h w
  simp only[List.mapM_cons,Option.bind_eq_bind,Option.bind_eq_some_iff,Option.map_eq_some_iff,Option.pure_def,Option.some.injEq] at h
  obtain ⟨x,⟨i,h1,rfl⟩,l',h2,rfl⟩:=h
  simp only[List.mapM_cons,Sem.run_bind,vE h1,Result.andThen_ok,Sem.run_pure,ih h2]
theorem dH{a:Act}{w:World}{D:qE}{ps:List (Nat × Operand)}{pd:List (Nat × jQ)}(hps:ps.map (fun p=>(p.1,ev S p.2))=pd.map (fun p=>(p.1,.d p.2)))(hok:pd.all (fun p=>p.2.ok1)=true)
  {β:qD} (hop:∀ p∈ps,qG w D β (a.eval p.2) (ev S p.2)):(ps.map fun p=>(p.1,a.eval p.2)).map (·.1)=(pd.map fun p=>(p.1,p.2.cells)).map (·.1) ∧
   ∀ (i:Nat) p q,(ps.map fun p=>(p.1,a.eval p.2))[i]?=some p→(pd.map fun p=>(p.1,p.2.cells))[i]?=some q→∃ vs:List Value,p.2.cells=vs.toArray∧RepL w D vs q.2:=by
 constructor
 ·have:=congrArg (List.map (fun x:Nat × SV=>x.1)) hps
  simpa [List.map_map,Function.comp_def] using this
 ·intro i p q hp hq
  rw[List.getElem?_map,Option.map_eq_some_iff] at hp hq
  obtain ⟨p',hp',rfl⟩:=hp
  obtain ⟨q',hq',rfl⟩:=hq
  have hi:=congrArg (fun l:List (Nat × SV)=>l[i]?) hps
  simp only[List.getElem?_map,hp',hq',Option.map_some,Option.some.injEq,Prod.mk.injEq] at hi
  have hr:=hop p' (List.mem_of_getElem? hp')
  rw[hi.2] at hr
  have h1:q'.2.ok1=true:=by
   rw[List.all_eq_true] at hok
   exact hok q' (List.mem_of_getElem? hq')
  obtain ⟨vs,e1,e2,e3,e4⟩:=fK hr h1
  exact ⟨vs,e1,e2,e3,e4⟩
theorem repL_agg{w:World}{D:qE}{β:qD}{vs:Array Value}{ds:List jQ}(h:RepL w D vs.toList ds):qG w D β (.agg vs) (.d (.agg ds)) :=
 (uT.agg vs.toList h.1 h.2.1 h.2.2:uT w D (.agg vs.toList.toArray) (.agg ds))
theorem e_build{T:TypeId}{ps:List (Nat × Operand)}{pd:List (Nat × jQ)}{pl:List (Nat × Nat)}{zv:List Value}{zd r:List jQ}(ho:o.op=.build T ps.toArray)(hT:yR P T=some pl)(hz:uL P T=some zv)(hzd:gD zv zd)
  (hps:ps.map (fun p=>(p.1,ev S p.2))=pd.map (fun p=>(p.1,.d p.2))) (hok:pd.all (fun p=>p.2.ok1)=true) (hr:dD (fun i=>pl[i]?) zd (pd.map fun p=>(p.1,p.2.cells))=some r):qX P o S [] (.d (.agg r)) :=
 qX.same fun a w D β hop _=>by
  obtain ⟨i,z,z1,z2,z3⟩:=mY hz
  unfold yR at hT
  split at hT
  case h_2=>cases hT
  rename_i fs hfs
  have hpl:=run_places (P:=P) fs.toList hT w
  obtain ⟨q1,q2⟩:=dH (a:=a) (w:=w) (D:=D) (β:=β) hps hok (fun p hp=>hop p.2 (by
   simp only[ho,Op.operands]
   exact List.mem_toArray.2 (by simpa using List.mem_map_of_mem (f:=(·.2)) hp)))
  obtain ⟨cs',f1,f2⟩:=eB (fun i=>pl[i]?) _ _ zv.toArray zd r q1 q2 (repL_zero hzd) hr
  refine ⟨.agg cs',?_,repL_agg f2⟩
  have hm:(fs.mapM (fun f=>do pure (f.offset,← sizeOf f.type):Field→Sem (Nat × Nat))).run P w=.ok pl.toArray w:=by
   rw[Array.mapM_eq_mapM_toList,Sem.run_map,hpl]
   rfl
  have hpp:(ps.toArray.map fun p=>(p.1,a.eval p.2)).toList=ps.map fun p=>(p.1,a.eval p.2):=by simp
  simp only[execOp,ho,Instr.build,Sem.run_bind,run_zero z1 z2,Result.andThen_ok,run_underlying hfs,hm,z3]
  have hf':Instr.fill (fun x=>pl.toArray[x]?) zv.toArray ((ps.toArray.map fun p=>(p.1,a.eval p.2)).toList)=some cs':=by
   rw[hpp]
   simpa using f1
  rw[hf']
  rfl
theorem e_build_arr{T E:TypeId}{n s:Nat}{ps:List (Nat × Operand)}{pd:List (Nat × jQ)}{zv:List Value}{zd r:List jQ}(ho:o.op=.build T ps.toArray)(hT:dM P T=some (n,E,s))(hz:uL P T=some zv)(hzd:gD zv zd)
  (hps:ps.map (fun p=>(p.1,ev S p.2))=pd.map (fun p=>(p.1,.d p.2))) (hok:pd.all (fun p=>p.2.ok1)=true) (hr:dD (fun i=>some (i*s,s)) zd (pd.map fun p=>(p.1,p.2.cells))=some r):qX P o S [] (.d (.agg r)) :=
 qX.same fun a w D β hop _=>by
  obtain ⟨i,z,z1,z2,z3⟩:=mY hz
  obtain ⟨j,e1,e2,e3⟩:=arr_of hT
  obtain ⟨q1,q2⟩:=dH (a:=a) (w:=w) (D:=D) (β:=β) hps hok (fun p hp=>hop p.2 (by
   simp only[ho,Op.operands]
   exact List.mem_toArray.2 (by simpa using List.mem_map_of_mem (f:=(·.2)) hp)))
  obtain ⟨cs',f1,f2⟩:=eB (fun i=>some (i*s,s)) _ _ zv.toArray zd r q1 q2 (repL_zero hzd) hr
  refine ⟨.agg cs',?_,repL_agg f2⟩
  have hpp:(ps.toArray.map fun p=>(p.1,a.eval p.2)).toList=ps.map fun p=>(p.1,a.eval p.2):=by simp
  simp only[execOp,ho,Instr.build,Sem.run_bind,run_zero z1 z2,Result.andThen_ok,run_underlying e1,vE e2,e3,z3]
  rw[hpp,f1]
  rfl
theorem rep_new{w:World}{D:qE}{E:TypeId}{s:Nat}{es:List jQ}{cs:Array Value}(h:RepL w D cs.toList (qA es))(hs:∀ e∈es,e.cells.length=s)(hm:es.length≤maxLen)(hD:DOk D w) :
  uT (w.alloc (.cells cs E)) (fun t g p=>D t g p∨g=w.heap.size) (.slice (some ⟨w.heap.size,0,none⟩) es.length es.length) (.sl E s es):=by
 obtain ⟨h1,h2,h3⟩:=h
 have hcl:∀ i,i<(qA es).length→i<cs.size:=fun i hi=>by
  have:cs.size=(qA es).length:=by simpa using h1
  omega
 have hc:∀ i,i<(qA es).length→(w.alloc (.cells cs E)).cell? ⟨w.heap.size,i,none⟩=cs[i]?:=fun i _=>World.cell?_alloc_new w cs E i
 refine .sl w.heap.size 0 (fun i=>cs.getD i undef) rfl (Nat.le_refl _) hm hs (fun _=>rfl) (fun i _=>.inr rfl) (fun i hi=>?_) (fun i hi=>?_) (fun i d hd=>?_)
 ·rw[Nat.zero_add,hc i hi];simp [hcl i hi]
 ·have:cs.getD i undef=cs[i]'(hcl i hi):=by simp [hcl i hi]
  rw[this]
  exact h2 _ (by simp)
 ·have hi:i<(qA es).length:=(List.getElem?_eq_some_iff.1 hd).1
  refine (h3 i (cs.getD i undef) d (by simp [hcl i hi]) hd).mono fun t g p hd=>⟨.inl hd,?_⟩
  have:=hD t g p hd
  exact World.cell?_alloc_lt w _ ⟨g,p,none⟩ this
theorem dup_new{D:qE}{w:World}{o:Obj}:DUp D (fun t g p=>D t g p∨g=w.heap.size) w (w.alloc o) :=
 ⟨fun _ _ _ h=>.inl h,fun _ _ _ h=>h.imp id fun e=>by subst e;simp⟩
theorem nV(z:Array Value)(s n:Nat)(hz:z.size=s):((Array.range (n*s)).map (z[· % z.size]!)).toList=(List.replicate n z.toList).flatten:=by
 apply List.ext_getElem?
 intro i
 simp only[Array.toList_map,Array.toList_range,List.getElem?_map]
 rcases Nat.lt_or_ge i (n*s) with hi | hi
 ·rw[List.getElem?_range hi]
  have hs:0<s:=by
   rcases Nat.eq_zero_or_pos s with h | h
   ·subst h;simp at hi
   ·exact h
  have key:∀ (n i:Nat),i<n*s→((List.replicate n z.toList).flatten)[i]?=z[i % s]?:=by
   intro n
   induction n with
   |zero=>intro i hi;simp at hi
   |succ n ih=>
    intro i hi
    rw[List.replicate_succ,List.flatten_cons]
    by_cases h:i<s
    ·rw[List.getElem?_append_left (by simpa [hz] using h),Nat.mod_eq_of_lt h];simp
    ·rw[List.getElem?_append_right (by simp [hz];omega)]
     have e1:i-z.toList.length=i-s:=by simp [hz]
     rw[e1,ih (i-s) (by rw[Nat.add_mul] at hi;omega)]
     congr 1
     exact (Nat.mod_eq_sub_mod (by omega)).symm
  rw[key n i hi,hz]
  have hlt:i % s<z.size:=by rw[hz];exact Nat.mod_lt _ hs
  simp [hlt]
 ·rw[List.getElem?_eq_none (by simpa using hi)]
  rw[List.getElem?_eq_none]
  ·rfl
  ·simp [List.length_flatten,hz];exact hi
theorem repL_zeros{w:World}{D:qE}{zv:List Value}{zd:List jQ}(h:gD zv zd)(n:Nat):RepL w D (List.replicate n zv).flatten (List.replicate n zd).flatten:=by
 obtain ⟨h1,h2,h3⟩:=eI (w:=w) (D:=D) h
 induction n with
 |zero=>exact ⟨rfl,by simp,by simp⟩
 |succ n ih=>
  obtain ⟨k1,k2,k3⟩:=ih
  rw[List.replicate_succ,List.replicate_succ,List.flatten_cons,List.flatten_cons]
  refine ⟨by simp only[List.length_append];omega,fun v hv=>?_,fun i v d hv hd=>?_⟩
  ·rcases List.mem_append.1 hv with hv | hv
   ·exact h2 v hv
   ·exact k2 v hv
  ·by_cases hi:i<zv.length
   ·rw[List.getElem?_append_left hi] at hv
    rw[List.getElem?_append_left (by omega)] at hd
    exact h3 i v d hv hd
   ·rw[List.getElem?_append_right (by omega)] at hv
    rw[List.getElem?_append_right (by omega),← h1] at hd
    exact k3 _ v d hv hd
theorem e_buildSlice{T E:TypeId}{s len:Nat}{ps:List (Nat × Operand)}{pd:List (Nat × jQ)}{zv:List Value}{zd es:List jQ}(ho:o.op=.buildSlice T len ps.toArray)(hT:uW P T=some (E,s))(hz:uL P E=some zv)(hzd:gD zv zd)(hzl:zd.length=s)
  (hps:ps.map (fun p=>(p.1,ev S p.2))=pd.map (fun p=>(p.1,.d p.2))) (hok:pd.all (fun p=>p.2.ok1)=true) (hbig:len*s≤16777216) (hbig':len≤16777216) (uB:es.length=len) (hs:∀ e∈es,e.cells.length=s)
  (hr:dD (fun i=>some (i*s,s)) (List.replicate len zd).flatten (pd.map fun p=>(p.1,p.2.cells))=some (qA es)):qX P o S [] (.d (.sl E s es)) :=
 fun a w D β Q hop _ hD=>by
  obtain ⟨i,z,z1,z2,z3⟩:=mY hz
  obtain ⟨j,e1,e2,e3⟩:=gZ hT
  have hij:i=j:=by rw[z1] at e2;injection e2
  subst hij
  obtain ⟨q1,q2⟩:=dH (a:=a) (w:=w) (D:=D) (β:=β) hps hok (fun p hp=>hop p.2 (by
   simp only[ho,Op.operands]
   exact List.mem_toArray.2 (by simpa using List.mem_map_of_mem (f:=(·.2)) hp)))
  have hzvl:zv.length=zd.length:=(eI (w:=w) (D:=D) hzd).1
  have hzs:z.cells.size=s:=by rw[z3];simp;omega
  have hrz:=nV z.cells s len hzs
  have hzero:RepL w D ((Array.range (len*s)).map (z.cells[· % z.cells.size]!)).toList (List.replicate len zd).flatten:=by
   rw[hrz,z3]
   exact repL_zeros hzd len
  obtain ⟨cs',f1,f2⟩:=eB (fun i=>some (i*s,s)) _ _ _ _ _ q1 q2 hzero hr
  have hpp:(ps.toArray.map fun p=>(p.1,a.eval p.2)).toList=ps.map fun p=>(p.1,a.eval p.2):=by simp
  have hrun:(execOp a.eval o).run P w=.ok (.value (.slice (some ⟨w.heap.size,0,none⟩) len len)) (w.alloc (.cells cs' E)):=by
   by_cases h0:len*s=0
   ·rw[h0] at f1
    simp only[Array.range_zero',Array.map_empty] at f1
    simp only[execOp,ho,Instr.buildSlice,Sem.run_bind,run_underlying e1,Result.andThen_ok,vE e2,e3,h0,if_true,Array.range_zero',Array.map_empty,hpp,Sem.run_pure]
    rw[if_neg (by omega)]
    simp only[Sem.run_bind,Sem.run_pure,Result.andThen_ok,f1,newRow,run_newObj]
    rfl
   ·simp only[execOp,ho,Instr.buildSlice,Sem.run_bind,run_underlying e1,Result.andThen_ok,vE e2,e3,h0,if_false,hpp]
    rw[if_neg (by omega)]
    simp only[Sem.run_bind,Sem.run_pure,Result.andThen_ok,run_zero z1 z2,f1,newRow,run_newObj]
    rfl
  refine mM hrun ⟨_,_,rfl,(Below.refl _ _).alloc (Nat.le_refl _) _,dup_new,?_⟩
  have:=rep_new (E:=E) f2 hs (by unfold maxLen;omega) hD
  rw[uB] at this
  exact this
end
def callB(P:Program)(f:FuncId):Bool :=
 match P.funcs[f]? with
 | some fn => !(fn.name == "runtime.NumGoroutine") && fn.body.isSome
 |none=>false
def Args(w:World)(D:qE)(vs:List Value)(ds:List jQ):Prop:=vs.length=ds.length∧∀ (i:Nat) v d,vs[i]?=some v→ds[i]?=some d→uT w D v d
def FPost(w:World)(D:qE)(r:jQ)(e:Ending)(w':World):Prop:=∃ v D',e=.returned v∧Below w.heap.size w w'∧DUp D D' w w'∧uT w' D' v r
structure jR (P:Program) (f:FuncId) (ds:List jQ) (r:jQ):Prop where
 may:callB P f=true
 run:∀ (w:World) (D:qE) (vs:List Value),DOk D w→Args w D vs ds→Calls P f vs.toArray w (FPost w D r)
section
variable {P:Program} {o:Oper} {S:Nat→SV}
theorem yQ{f:FuncId}(h:callB P f=true)(args:Array Value)(w:World):(callFunc f args).run P w=.ok (.enter f args) w:=by
 unfold callB at h
 split at h
 ·rename_i fn hfn
  simp only[Bool.and_eq_true,Bool.not_eq_true'] at h
  obtain ⟨b,hb⟩:=Option.isSome_iff_exists.1 h.2
  have hne : ¬ fn.name = "runtime.NumGoroutine" := beq_eq_false_iff_ne.1 h.1
  simp [callFunc,hfn,hne,hb]
 ·cases h
theorem e_call{y:Operand}{xs:List Operand}{ats:Array TypeId}{f:FuncId}{ds:List jQ}{r:jQ}(ho:o.op=.call { callee:=.value y,args:=xs.toArray,argTypes:=ats })(hy:ev S y=.d (.val (.func (.func f) #[] #[])))
  (hx:xs.map (ev S)=ds.map .d) (hf:jR P f ds r):qX P o S [] (.d r) :=
 fun a w D β Q hop _ hD=>by
  have hyv:=hop y (by simp [ho,Op.operands,Call.operands])
  rw[hy] at hyv
  have hyv':=uF hyv
  have hargs:Args w D (xs.map a.eval) ds:=by
   have hl:xs.length=ds.length:=by simpa using congrArg List.length hx
   refine ⟨by simpa using hl,fun i v d hv hd=>?_⟩
   rw[List.getElem?_map,Option.map_eq_some_iff] at hv
   obtain ⟨x,hxi,rfl⟩:=hv
   have hm:=hop x (by simp [ho,Op.operands,Call.operands,List.mem_of_getElem? hxi])
   have hi:=congrArg (fun l:List SV=>l[i]?) hx
   simp only[List.getElem?_map,hxi,hd,Option.map_some,Option.some.injEq] at hi
   rw[hi] at hm
   exact hm
  have hrun:(execOp a.eval o).run P w=.ok (.enter f (xs.map a.eval).toArray) w:=by
   simp only[execOp,ho,resolve,Deferred.ofValue,hyv',Sem.run_bind,Sem.run_pure,Result.andThen_ok,invoke,Array.empty_append,Array.append_empty]
   rw[yQ hf.may]
   simp
  refine cD hrun ((hf.run w D _ hD hargs).mono fun e w' h=>?_)
  obtain ⟨v,D',he,h1,h2,h3⟩:=h
  exact ⟨v,he,v,D',rfl,h1,h2,h3⟩
def optInt(S:Nat→SV)(y:Option Operand)(k:IntKind)(dflt n:Nat):Prop:=match y with
 |none=>n=dflt
 |some z=>ev S z=.d (.val (.int k (n:Int)))
theorem rep_slice{w:World}{D:qE}{a:Option Addr}{n cap:Nat}{t:TypeId}{s l h:Nat}{es:List jQ}(hr:uT w D (.slice a n cap) (.sl t s es))(h1:l≤h)(h2:h≤es.length) :
  uT w D (.slice (if cap=l then a else a.map (·.add (l*s))) (h-l) (cap-l)) (.sl t s ((es.take h).drop l)):=by
 cases hr with
 |sl g off u hn hc hm hs ha hD hu h1' hr=>
  have hs':∀ e∈(es.take h).drop l,e.cells.length=s:=fun e he=>hs e (List.mem_of_mem_take (List.mem_of_mem_drop he))
  have hfl:=uZ hs
  have hfl':(qA ((es.take h).drop l)).length=(h-l)*s:=by
   rw[uZ hs'];simp only[List.length_drop,List.length_take];congr 1;omega
  have hb:∀ i,i<(qA ((es.take h).drop l)).length→l*s+i<(qA es).length:=fun i hi=>by
   rw[hfl'] at hi
   rw[hfl]
   have:(h-l)*s+l*s≤es.length*s:=by rw[← Nat.add_mul];exact Nat.mul_le_mul_right s (by omega)
   omega
  have hget:∀ (i:Nat) d,(qA ((es.take h).drop l))[i]?=some d→(qA es)[l*s+i]?=some d:=fun i d hd=>by
   have e1:qA es=qA (es.take l)++(qA ((es.take h).drop l)++qA (es.drop h)):=by
    rw[← flat_append,← flat_append]
    congr 1
    have e2:es.take l=(es.take h).take l:=by rw[List.take_take];congr 1;omega
    rw[e2,← List.append_assoc,List.take_append_drop,List.take_append_drop]
   have e3:(qA (es.take l)).length=l*s:=by
    rw[uZ (s:=s) (fun e he=>hs e (List.mem_of_mem_take he))];simp only[List.length_take];congr 1;omega
   have hi:=(List.getElem?_eq_some_iff.1 hd).1
   rw[e1,List.getElem?_append_right (by omega),e3,List.getElem?_append_left (by omega)]
   rw[← hd];congr 1;omega
  refine .sl g (off+l*s) (fun i=>u (l*s+i)) (by simp only[List.length_drop,List.length_take];omega) (by omega) (by omega) hs' (fun h0=>?_) (fun i hi=>?_) (fun i hi=>?_) (fun i hi=>h1' _ (hb i hi)) (fun i d hd=>hr _ _ (hget i d hd))
  ·rw[if_neg (by omega),ha (by omega)]
   simp [Addr.add_lit]
  ·rw[Nat.add_assoc];exact hD _ (hb i hi)
  ·rw[Nat.add_assoc];exact hu _ (hb i hi)
theorem run_sliceBound{k:IntKind}{i y:Nat}{code:BoundsCode}(h:i≤y)(w:World):(Instr.sliceBound (.int k (i:Int)) y code).run P w=.ok i w:=by
 have h1:(0:Int)≤(i:Int)∧(i:Int)≤(y:Int):=by omega
 simp only[Instr.sliceBound,asIntOf,Sem.run_bind,Sem.run_pure,Result.andThen_ok,h1,and_self,if_true,Int.toNat_natCast]
theorem e_slice{T E t:TypeId}{x:Operand}{lo hi:Option Operand}{s l h:Nat}{kl kh:IntKind}{es:List jQ}(ho:o.op=.slice T x lo hi none)(hT:uW P T=some (E,s))(hx:ev S x=.d (.sl t s es))(hlo:optInt S lo kl 0 l)(hhi:optInt S hi kh es.length h)
  (h1:l≤h) (h2:h≤es.length):qX P o S [] (.d (.sl t s ((es.take h).drop l))) :=
 qX.same fun a w D β hop _=>by
  have hp:=hop x (by simp [ho,Op.operands])
  rw[hx] at hp
  obtain ⟨i,e1,e2,e3⟩:=gZ hT
  generalize hvv:a.eval x=v at hp
  cases v with
  |slice q n cap=>
   have hrs:=rep_slice hp h1 h2
   cases hp with
   |sl g off u hn hc hm hs ha hD hu h1' hr=>
   refine ⟨_,?_,hrs⟩
   have hl:lo.map a.eval=none∧l=0∨lo.map a.eval=some (.int kl (l:Int)):=by
    cases lo with
    |none=>exact .inl ⟨rfl,hlo⟩
    |some z=>
     have:=hop z (by simp [ho,Op.operands])
     rw[show ev S z=_ from hlo] at this
     exact .inr (by rw[Option.map_some,uF this])
   have hh:hi.map a.eval=none∧h=es.length∨hi.map a.eval=some (.int kh (h:Int)):=by
    cases hi with
    |none=>exact .inl ⟨rfl,hhi⟩
    |some z=>
     have:=hop z (by simp [ho,Op.operands])
     rw[show ev S z=_ from hhi] at this
     exact .inr (by rw[Option.map_some,uF this])
   have hb:(Instr.sliceBounds true n cap (lo.map a.eval) (hi.map a.eval) none).run P w=.ok (l,h,cap) w:=by
    have b1:∀ c:BoundsCode,(Instr.sliceBound (.int kh (h:Int)) cap c).run P w=.ok h w:=fun _=>run_sliceBound (by omega) w
    have b2:∀ c:BoundsCode,(Instr.sliceBound (.int kl (l:Int)) h c).run P w=.ok l w:=fun _=>run_sliceBound h1 w
    rcases hl with ⟨hl,rfl⟩ | hl<;>rcases hh with ⟨hh,hhe⟩ | hh
    ·subst hhe;subst hn;simp [Instr.sliceBounds,hl,hh]
    ·simp [Instr.sliceBounds,hl,hh,b1]
    ·subst hhe;subst hn;simp [Instr.sliceBounds,hl,hh,b2]
    ·simp [Instr.sliceBounds,hl,hh,b1,b2]
   simp [execOp,ho,hvv,Instr.sliceAt,run_underlying e1,Instr.slice,hb,vE e2,e3]
  |_=>cases hp
theorem blk_new{w:World}{D:qE}{β:qD}{k:Nat}{T:TypeId}{vs:Array Value}{ds:List jQ}(hD:DOk D w)(h:RepL w D vs.toList ds) :
  vA (w.alloc (.cells vs T)) D (β.set k w.heap.size) k (ds.map .d):=by
 obtain ⟨h1,h2,h3⟩:=h
 refine .inr ⟨w.heap.size,vs,T,by simp [qD.set],heap_alloc_new w _,by simp at h1 ⊢;omega,fun i x hx=>?_,fun t o hd=>Nat.lt_irrefl _ (hD t _ o hd)⟩
 rw[List.getElem?_map,Option.map_eq_some_iff] at hx
 obtain ⟨d,hd,rfl⟩:=hx
 have hi:i<vs.size:=by
  have:=(List.getElem?_eq_some_iff.1 hd).1
  simp at h1;omega
 refine ⟨vs[i],by simp [hi],h2 _ (by simp),?_⟩
 exact (h3 i vs[i] d (by simp [hi]) hd).mono fun t g p hd=>⟨hd,World.cell?_alloc_lt w _ ⟨g,p,none⟩ (hD t g p hd)⟩
theorem npost_new{a:Act}{w:World}{D:qE}{β:qD}{k:Nat}{T:TypeId}{vs:Array Value}{ds:List jQ}(hD:DOk D w)(h:RepL w D vs.toList ds){Q:Exit→Act→World→Prop}{v:Value}{x:SV}
  (hrun:(execOp a.eval o).run P w=.ok (.value v) (w.alloc (.cells vs T))) (hx:qG (w.alloc (.cells vs T)) D (β.set k w.heap.size) v x):o.wp P a w (NPost a w D β o.dst k (ds.map .d) x) Q :=
 mM hrun ⟨v,D,w.heap.size,rfl,(Below.refl _ _).alloc (Nat.le_refl _) _,DUp.of_same D,Nat.le_refl _,by simp,fun t o hd=>Nat.lt_irrefl _ (hD t _ o hd),blk_new hD h,hx⟩
theorem n_box{T:TypeId}{x:Operand}{d:jQ}(k:Nat)(ho:o.op=.box T x)(hx:ev S x=.d d)(h1:d.ok1=true):NOk P o S k (d.cells.map .d) (.ref k 0) :=
 fun a w D β Q hop hD=>by
  have hp:=hop x (by simp [ho,Op.operands])
  rw[hx] at hp
  obtain ⟨vs,e1,e2⟩:=fK hp h1
  refine npost_new (vs:=vs.toArray) (T:=T) (v:=.pointer (some ⟨w.heap.size,0,none⟩)) hD (by rw[List.toList_toArray];exact e2) ?_ ⟨w.heap.size,by simp [qD.set],rfl⟩
  simp only[execOp,ho,Instr.box,newVar,newRow,e1,Sem.run_bind,run_newObj,Result.andThen_ok,Sem.run_pure]
  rfl
theorem n_alloc{T:TypeId}{zv:List Value}{zd:List jQ}(k:Nat)(ho:o.op=.alloc T)(hz:uL P T=some zv)(hzd:gD zv zd):NOk P o S k (zd.map .d) (.ref k 0) :=
 fun a w D β Q _ hD=>by
  obtain ⟨i,z,z1,z2,z3⟩:=mY hz
  refine npost_new (vs:=zv.toArray) (T:=T) (v:=.pointer (some ⟨w.heap.size,0,none⟩)) hD (repL_zero hzd) ?_ ⟨w.heap.size,by simp [qD.set],rfl⟩
  simp only[execOp,ho,Instr.alloc,newVar,newRow,Sem.run_bind,run_zero z1 z2,z3,run_newObj,Result.andThen_ok,Sem.run_pure]
  rfl
def xK(P:Program)(T:TypeId):Option Nat:=(P.info? T).map (·.bytes)
theorem n_makeSlice{T E:TypeId}{l c:Operand}{s n m bytes:Nat}{kl kc:IntKind}{zv:List Value}{zd:List jQ}(k:Nat)(ho:o.op=.makeSlice T l c)(hT:uW P T=some (E,s))(hz:uL P E=some zv)(hzd:gD zv zd)(hzl:zd.length=s)(hby:xK P E=some bytes)
  (hl:ev S l=.d (.val (.int kl (n:Int)))) (hc:ev S c=.d (.val (.int kc (m:Int)))) (hnm:n≤m) (hb:bytes*m≤281474976710656) (hm:m≤maxLen):NOk P o S k ((List.replicate m zd).flatten.map .d) (.own k E s n) :=
 fun a w D β Q hop hD=>by
  have h1:=hop l (by simp [ho,Op.operands])
  have h2:=hop c (by simp [ho,Op.operands])
  rw[hl] at h1
  rw[hc] at h2
  have e1:=uF h1
  have e2:=uF h2
  obtain ⟨i,z,z1,z2,z3⟩:=mY hz
  obtain ⟨j,f1,f2,f3⟩:=gZ hT
  have hij:i=j:=by rw[z1] at f2;injection f2
  subst hij
  have hbi:i.bytes=bytes:=by
   unfold xK at hby
   rw[z1] at hby
   simpa using hby
  have hmm:(m:Int)≤9223372036854775807:=by
   unfold maxLen at hm
   omega
  have hbb:(i.bytes:Int)*(m:Int)≤281474976710656:=by
   rw[hbi]
   omega
  have hr:=run_make (P:=P) w T E i z f1 z1 z2 kl kc (n:Int) (m:Int) (by omega) (by omega) hbb hmm
  have hzvl:zv.length=zd.length:=(eI (w:=w) (D:=D) hzd).1
  have hzs:z.cells.size=s:=by rw[z3];simp;omega
  simp only[Int.toNat_natCast,f3] at hr
  refine npost_new (vs:=madeCells z.cells (m*s)) (T:=E) (v:=.slice (some ⟨w.heap.size,0,none⟩) n m) hD ?_ ?_ ?_
  ·show RepL w D ((Array.range (m*s)).map (z.cells[· % z.cells.size]!)).toList _
   rw[nV z.cells s m hzs,z3]
   exact repL_zeros hzd m
  ·simp only[execOp,ho,e1,e2,Sem.run_bind,hr,Result.andThen_ok,Sem.run_pure]
  ·exact .inr ⟨w.heap.size,m,madeCells z.cells (m*s),by simp [qD.set],rfl,heap_alloc_new w _,size_madeCells _ _,hnm,hm⟩
theorem sv_cells{w:World}{D:qE}{β:qD}{v:Value}{x:SV}{l:List SV}(h:qG w D β v x)(hl:(∃ d:jQ,x=.d d∧d.ok1=true∧l=d.cells.map .d)∨((∃ k t s n,x=.own k t s n)∧l=[x])) :
  ∃ vs:List Value,v.cells=vs.toArray∧vs.length=l.length∧(∀ v∈vs,v.oneCell'=true)∧∀ (i:Nat) v y,vs[i]?=some v→l[i]?=some y→qG w D β v y:=by
 rcases hl with ⟨d,rfl,h1,rfl⟩ | ⟨⟨k,t,s,n,rfl⟩,rfl⟩
 ·obtain ⟨vs,e1,e2,e3,e4⟩:=fK h h1
  refine ⟨vs,e1,by simpa using e2,e3,fun i v y hv hy=>?_⟩
  rw[List.getElem?_map,Option.map_eq_some_iff] at hy
  obtain ⟨d',hd,rfl⟩:=hy
  exact e4 i v d' hv hd
 ·have hv1:∃ p q c,v=.slice p q c:=by
   rcases h with ⟨_,_,h3⟩ | ⟨c,cap,vs,_,h4,_⟩
   ·exact ⟨_,_,_,h3⟩
   ·exact ⟨_,_,_,h4⟩
  obtain ⟨p,q,c,rfl⟩:=hv1
  exact ⟨[.slice p q c],rfl,rfl,by simp [Value.oneCell'],fun i v y hv hy=>by
   cases i with
   |zero=>simp at hv hy;subst hv;subst hy;exact h
   |succ i=>simp at hv⟩
theorem eZ(w:World)(b:Nat)(cs:Array Value)(hs:∀ vs T f,w.heap[b]?=some (.cells vs T f)→cs.size=vs.size):Wrote b w (w.setRow b cs) :=
 ⟨rfl,rfl,rfl,by simp,fun k hk=>setRow_other w b k cs hk,fun vs T f h=>⟨cs,setRow_heap w b vs cs T f h,hs vs T f h⟩,fun ob h h2=>by
  have hlt:b<w.heap.size:=uN h
  have hv:w.heap[b]=ob:=(Array.getElem?_eq_some_iff.1 h).2
  cases ob<;>first | (cases h2;done) | (unfold World.setRow;simp [Array.getElem?_eq_getElem,Array.getElem_modify,hlt,hv])⟩
theorem t_store{T:TypeId}{x y:Operand}{k off sz:Nat}{agg:Bool}{old l:List SV}{z:SV}(ho:o.op=.store T x y)(hx:ev S x=.ref k off)(hy:ev S y=z)(hs:kZ P T=some (agg,sz))
  (hl:(∃ d:jQ,z=.d d∧d.ok1=true∧l=d.cells.map .d)∨((∃ k t s n,z=.own k t s n)∧l=[z])) (uB:l.length=sz) (hle:off+sz≤old.length):TOk P o S k old (patch old off l) :=
 fun a w D β Q hop hb hD=>by
  have hp:=hop x (by simp [ho,Op.operands])
  have hq:=hop y (by simp [ho,Op.operands])
  rw[hx] at hp
  rw[hy] at hq
  obtain ⟨b,hb1,hv⟩:=hp
  obtain ⟨us,e1,e2,e3,e4⟩:=sv_cells hq hl
  rcases hb with ⟨hb2,_⟩ | ⟨b',vs,T',hb2,h2,h3,h4,h5⟩
  ·rw[hb1] at hb2;cases hb2
  ·obtain rfl:b'=b:=by rw[hb1] at hb2;injection hb2 with h;exact h.symm
   obtain ⟨d,i,s1,s2,s3,s4⟩:=shape_of hs
   have hst:=run_storeCells_at P b' off T' us 0 vs w h2 (by omega) e3
   have hrun:(execOp a.eval o).run P w=.ok .skip (w.setRow b' (patch vs.toList off us).toArray):=by
    have hsz:us.toArray.size=i.size:=by simp;omega
    simp only[execOp,ho,hv,Instr.storeAt,Instr.sureAddr,storeVar,e1,Sem.run_bind,Sem.run_pure,Result.andThen_ok,vE s2,ne_eq,hsz,not_true_eq_false,if_false,hst]
    simp [patch]
   have hw:=eZ w b' (patch vs.toList off us).toArray (fun vs' T f h=>by
    rw[h2] at h
    injection h with h
    injection h with h
    subst h
    have:=zV (l:=vs.toList) (off:=off) (new:=us) (by simp;omega)
    simpa using this)
   refine wp_skip_ hrun ⟨rfl,b',hb1,hw,h5,?_⟩
   refine .inr ⟨b',_,T',hb1,setRow_heap w b' vs _ T' _ h2,?_,fun j x hx=>?_,h5⟩
   ·have p1:=zV (l:=vs.toList) (off:=off) (new:=us) (by simp;omega)
    have p2:=zV (l:=old) (off:=off) (new:=l) (by omega)
    simp only[List.size_toArray]
    simp only[Array.length_toList] at p1
    omega
   ·rw[yK (by omega)] at hx
    have hg:(patch vs.toList off us).toArray[j]?=if j<off then vs.toList[j]? else if j<off+us.length then us[j-off]? else vs.toList[j]?:=by
     rw[List.getElem?_toArray]
     exact yK (by simp;omega) j
    rw[hg]
    by_cases c1:j<off
    ·rw[if_pos c1] at hx ⊢
     obtain ⟨u,g1,g2,g3⟩:=h4 j x hx
     exact ⟨u,by simpa using g1,g2,hw.repS h5 g3⟩
    ·rw[if_neg c1] at hx ⊢
     rw[e2]
     by_cases c2:j<off+l.length
     ·rw[if_pos c2] at hx ⊢
      have hj:j-off<us.length:=by omega
      exact ⟨us[j-off],List.getElem?_eq_getElem hj,e3 _ (List.getElem_mem hj),hw.repS h5 (e4 _ _ _ (List.getElem?_eq_getElem hj) hx)⟩
     ·rw[if_neg c2] at hx ⊢
      obtain ⟨u,g1,g2,g3⟩:=h4 j x hx
      exact ⟨u,by simpa using g1,g2,hw.repS h5 g3⟩
end
end Go.Fid
