/- Part 2 of a proof: rules, plain facts, and functions walked. -/
import Derived.Test.YtckccjhflbljgaaGreatDoorM1
set_option linter.all false
namespace Go.Fid
open List
open Go.RowKit (Below)
section
variable {P:Program} {o:Oper} {S:Nat->SV}
def jY.ok1:jY->Bool
 |.val u=>u.oneCell'
 |.tup _=>false
 |_=>true
theorem cells_one{v:Value}(h:v.oneCell'=true):v.cells=#[v]:=by cases v<;>first | rfl | (simp [Value.oneCell'] at h)
theorem lW{w:World}{D:kV}{v:Value}{d:jY}(h:uS w D v d)(h1:d.ok1=true) :
  ∃ vs:List Value,v.cells=vs.toArray/\vs.length=d.cells.length/\(∀ v∈vs,v.oneCell'=true)/\∀ (i:Nat) v y,vs[i]?=some v->d.cells[i]?=some y->uS w D v y:=by
 have one:v.oneCell'=true->d.cells=[d]->_:=λho hc=>(⟨[v],by simp [cells_one ho],by simp [hc],by simpa using ho,λi u y hu hy=>by
  rw[hc] at hy
  cases i with
  |zero=>simp at hu hy;subst hu;subst hy;exact h
  |succ i=>simp at hu⟩:∃ vs:List Value,v.cells=vs.toArray/\vs.length=d.cells.length/\(∀ v∈vs,v.oneCell'=true)/\∀ (i:Nat) v y,vs[i]?=some v->d.cells[i]?=some y->uS w D v y)
 cases h with
 |val v=>exact one h1 rfl
 |sl g off u hn hc hm hs ha hD hu h1' hr=>exact one rfl rfl
 |agg vs hl h1' hr=>exact ⟨vs,rfl,hl,h1',hr⟩
 |tup vs hl hr=>simp [jY.ok1] at h1
 |cptr g p u hD hu h1' hr=>exact one rfl rfl
 |clo vs hl hr=>exact one rfl rfl
def eO:List Value->List jY->Prop
 |[],[]=>True
 |v::vs,d::ds=>((d=.val v/\v.oneCell'=true)\/(v=.slice none 0 0/\∃ t s,d=.sl t s []))/\eO vs ds
 |_,_=>False
theorem bQ{w:World}{D:kV}:∀ {vs:List Value} {ds:List jY},eO vs ds->vs.length=ds.length/\(∀ v∈vs,v.oneCell'=true)/\∀ (i:Nat) v d,vs[i]?=some v->ds[i]?=some d->uS w D v d
 |[],[],_=>⟨rfl,by simp,by simp⟩
 |v::vs,d::ds,⟨h,hr⟩=>by
  obtain ⟨h1,h2,h3⟩:=bQ (w:=w) (D:=D) hr
  refine ⟨by simp [h1],λu hu=>?_,λi u e hu he=>?_⟩
  ·rcases mem_cons.1 hu with rfl | hu
   ·rcases h with ⟨_,h⟩ | ⟨rfl,_⟩
    ·exact h
    ·rfl
   ·exact h2 u hu
  ·cases i with
   |zero=>
    simp at hu he
    subst hu;subst he
    rcases h with ⟨rfl,_⟩ | ⟨rfl,t,s,rfl⟩
    ·exact .val _
    ·exact bB w D t s
   |succ i=>exact h3 i u e (by simpa using hu) (by simpa using he)
 |[],_::_,h=>h.elim
 |_::_,[],h=>h.elim
def xH(P:Program)(T:TypeId):Option (List Value) :=
 match P.info? T with
 |some i=>i.zero.map λz=>z.cells.toList
 |none=>none
theorem fG{T:TypeId}{vs:List Value}(h:xH P T=some vs):∃ i z,P.info? T=some i/\i.zero=some z/\z.cells=vs.toArray:=by
 unfold xH at h
 split at h
 ·rename_i i hi
  rw[Option.map_eq_some_iff] at h
  obtain ⟨z,h1,h2⟩:=h
  exact ⟨i,z,hi,h1,by rw[<- h2]⟩
 ·cases h
theorem run_zero{T:TypeId}{i:TypeInfo}{z:Value}(h:P.info? T=some i)(hz:i.zero=some z)(w:World):(zeroValue T).run P w=.ok z w:=by
 simp [zeroValue,typeInfo,h,hz]
def patch{α:Type}(l:List α)(off:Nat)(new:List α):List α:=l.take off++new++l.drop (off+new.length)
theorem nS{α:Type}{l:List α}{off:Nat}{new:List α}(h:off+new.length<=l.length):(patch l off new).length=l.length:=by
 simp [patch];omega
theorem mB{α:Type}{l:List α}{off:Nat}{new:List α}(h:off+new.length<=l.length)(i:Nat):(patch l off new)[i]?=if i<off then l[i]? else if i<off+new.length then new[i-off]? else l[i]?:=by
 unfold patch
 rw[append_assoc]
 by_cases h1:i<off
 ·rw[if_pos h1,getElem?_append_left (by simp;omega),getElem?_take_of_lt h1]
 ·rw[if_neg h1,getElem?_append_right (by simp;omega)]
  have e1:i-(l.take off).length=i-off:=by simp;omega
  rw[e1]
  by_cases h2:i<off+new.length
  ·rw[if_pos h2,getElem?_append_left (by omega)]
  ·rw[if_neg h2,getElem?_append_right (by omega),getElem?_drop]
   congr 1;omega
theorem foldl_set(off:Nat):∀ (new:List Value) (j:Nat) (cs:Array Value),off+j+new.length<=cs.size->((new.zipIdx j).foldl (λcs (c,j)=>cs.setIfInBounds (off+j) c) cs).toList=patch cs.toList (off+j) new
 |[],j,cs,_=>by simp [patch]
 |c::new,j,cs,h=>by
  simp only[length_cons] at h
  rw[zipIdx_cons,foldl_cons,foldl_set off new (j+1) _ (by simp;omega)]
  apply ext_getElem?
  intro i
  rw[mB (by simp;omega),mB (by simp;omega)]
  simp only[Array.toList_setIfInBounds,length_cons]
  by_cases h1:i<off+j
  ·rw[if_pos (by omega),if_pos h1,getElem?_set_ne (by omega)]
  ·rw[if_neg h1]
   by_cases h2:i=off+j
   ·subst h2
    rw[if_pos (by omega),if_pos (by omega),getElem?_set_self (by simp;omega)]
    simp
   ·by_cases h3:i<off+j+(new.length+1)
    ·rw[if_neg (by omega),if_pos (by omega),if_pos h3]
     obtain ⟨q,hq⟩:∃ q,i-(off+j)=q+1:=⟨i-(off+j)-1,by omega⟩
     rw[hq,getElem?_cons_succ]
     congr 1;omega
    ·rw[if_neg (by omega),if_neg (by omega),if_neg h3,getElem?_set_ne (by omega)]
def aO{α:Type}(place:Nat->Option (Nat × Nat))(cells:List α):List (Nat × List α)->Option (List α)
 |[]=>some cells
 |(i,l)::xT=>
  match place i with
  |none=>none
  |some (off,size)=>bif Nat.beq l.length size&&Nat.ble (off+l.length) cells.length then aO place (patch cells off l) xT else none
def RepL(w:World)(D:kV)(vs:List Value)(ds:List jY):Prop:=vs.length=ds.length/\(∀ v∈vs,v.oneCell'=true)/\∀ (i:Nat) v d,vs[i]?=some v->ds[i]?=some d->uS w D v d
theorem repL_zero{w:World}{D:kV}{zv:List Value}{zd:List jY}(h:eO zv zd):RepL w D zv.toArray.toList zd:=by
 rw[toList_toArray]
 exact bQ h
theorem RepL.patch{w:World}{D:kV}{vs us:List Value}{ds es:List jY}{off:Nat}(h:RepL w D vs ds)(k:RepL w D us es)(hle:off+es.length<=ds.length):RepL w D (patch vs off us) (patch ds off es):=by
 obtain ⟨h1,h2,h3⟩:=h
 obtain ⟨k1,k2,k3⟩:=k
 refine ⟨?_,λv hv=>?_,λi v d hv hd=>?_⟩
 ·rw[nS (by omega),nS hle,h1]
 ·simp only[Fid.patch,append_assoc,mem_append] at hv
  rcases hv with hv | hv | hv
  ·exact h2 v (mem_of_mem_take hv)
  ·exact k2 v hv
  ·exact h2 v (mem_of_mem_drop hv)
 ·rw[mB (by omega)] at hv
  rw[mB hle] at hd
  by_cases c1:i<off
  ·rw[if_pos c1] at hv hd;exact h3 i v d hv hd
  ·rw[if_neg c1] at hv hd
   rw[k1] at hv
   by_cases c2:i<off+es.length
   ·rw[if_pos c2] at hv hd;exact k3 _ v d hv hd
   ·rw[if_neg c2] at hv hd;exact h3 i v d hv hd
theorem bW{w:World}{D:kV}(place:Nat->Option (Nat × Nat)):∀ (ps:List (Nat × Value)) (pd:List (Nat × List jY)) (cs:Array Value) (ds r:List jY),
  ps.map (·.1)=pd.map (·.1)->(∀ (i:Nat) p q,ps[i]?=some p->pd[i]?=some q->∃ vs:List Value,p.2.cells=vs.toArray/\RepL w D vs q.2)->RepL w D cs.toList ds->aO place ds pd=some r ->
  ∃ cs',Instr.fill place cs ps=some cs'/\RepL w D cs'.toList r
 |[],[],cs,ds,r,_,_,h,hf=>by simp [aO] at hf;subst hf;exact ⟨cs,rfl,h⟩
 |[],_::_,_,_,_,hm,_,_,_=>by simp at hm
 |_::_,[],_,_,_,hm,_,_,_=>by simp at hm
 |(i,v)::ps,(j,l)::pd,cs,ds,r,hm,hp,h,hf=>by
  simp only[map_cons,List.cons.injEq] at hm
  obtain ⟨rfl,hm⟩:=hm
  obtain ⟨vs,e1,e2⟩:=hp 0 (i,v) (i,l) rfl rfl
  simp only[aO] at hf
  cases hpl:place i with
  |none=>simp [hpl] at hf
  |some os=>
   obtain ⟨off,size⟩:=os
   simp only[hpl] at hf
   cases hc:(Nat.beq l.length size&&Nat.ble (off+l.length) ds.length) with
   |false=>simp [hc] at hf
   |true=>
    simp only[hc,cond_true] at hf
    simp only[Bool.and_eq_true] at hc
    have hs:l.length=size:=Nat.eq_of_beq_eq_true hc.1
    have hle:off+l.length<=ds.length:=Nat.le_of_ble_eq_true hc.2
    have e1':v.cells=vs.toArray:=e1
    have hvl:vs.length=l.length:=e2.1
    have hcl:cs.size=ds.length:=by have:=h.1;simpa using this
    have hfold:=foldl_set off vs 0 cs (by omega)
    have hnew:RepL w D ((vs.zipIdx 0).foldl (λcs (c,j)=>cs.setIfInBounds (off+j) c) cs).toList (Fid.patch ds off l):=by
     rw[hfold,Nat.add_zero]
     exact h.patch e2 hle
    obtain ⟨cs',f1,f2⟩:=bW place ps pd _ (Fid.patch ds off l) r hm (λi p q a b=>hp (i+1) p q (by simpa using a) (by simpa using b)) hnew hf
    refine ⟨cs',?_,f2⟩
    simp only[Instr.fill,hpl,e1']
    rw[if_neg (by simp;omega)]
    have:(vs.toArray.zipIdx.foldl (λcs (c,j)=>cs.setIfInBounds (off+j) c) cs)=((vs.zipIdx 0).foldl (λcs (c,j)=>cs.setIfInBounds (off+j) c) cs):=by
     rw[<- Array.foldl_toList];simp
    rw[this]
    exact f1
def eL(P:Program)(T:TypeId):Option (List (Nat × Nat)) :=
 match P.underlying T with
 |some (.struct fs)=>fs.toList.mapM λf=>(P.info? f.type).map λi=>(f.offset,i.size)
 |_=>none
theorem run_places(fs:List Field):∀ {l:List (Nat × Nat)},(fs.mapM λf=>(P.info? f.type).map λi=>(f.offset,i.size))=some l->∀ w,(fs.mapM (λf=>do pure (f.offset,<- sizeOf f.type):Field->Sem (Nat × Nat))).run P w=.ok l w:=by
 induction fs with
 |nil=>intro l h w;simp at h;subst h;simp
 |cons f fs ih=>
  intro l h w
  simp only[mapM_cons,Option.bind_eq_bind,Option.bind_eq_some_iff,Option.map_eq_some_iff,Option.pure_def,Option.some.injEq] at h
  obtain ⟨x,⟨i,h1,rfl⟩,l',h2,rfl⟩:=h
  simp only[mapM_cons,Sem.run_bind,xM h1,Result.andThen_ok,Sem.run_pure,ih h2]
theorem aX{a:Act}{w:World}{D:kV}{ps:List (Nat × Operand)}{pd:List (Nat × jY)}(hps:ps.map (λp=>(p.1,ev S p.2))=pd.map (λp=>(p.1,.d p.2)))(hok:pd.all (λp=>p.2.ok1)=true)
  {β:kX} (hop:∀ p∈ps,kZ w D β (a.eval p.2) (ev S p.2)):(ps.map λp=>(p.1,a.eval p.2)).map (·.1)=(pd.map λp=>(p.1,p.2.cells)).map (·.1) /\
   ∀ (i:Nat) p q,(ps.map λp=>(p.1,a.eval p.2))[i]?=some p->(pd.map λp=>(p.1,p.2.cells))[i]?=some q->∃ vs:List Value,p.2.cells=vs.toArray/\RepL w D vs q.2:=by
 constructor
 ·have:=congrArg (map (λx:Nat × SV=>x.1)) hps
  simpa [map_map,Function.comp_def] using this
 ·intro i p q hp hq
  rw[getElem?_map,Option.map_eq_some_iff] at hp hq
  obtain ⟨p',hp',rfl⟩:=hp
  obtain ⟨q',hq',rfl⟩:=hq
  have hi:=congrArg (λl:List (Nat × SV)=>l[i]?) hps
  simp only[getElem?_map,hp',hq',Option.map_some,Option.some.injEq,Prod.mk.injEq] at hi
  have hr:=hop p' (mem_of_getElem? hp')
  rw[hi.2] at hr
  have h1:q'.2.ok1=true:=by
   rw[all_eq_true] at hok
   exact hok q' (mem_of_getElem? hq')
  obtain ⟨vs,e1,e2,e3,e4⟩:=lW hr h1
  exact ⟨vs,e1,e2,e3,e4⟩
theorem repL_agg{w:World}{D:kV}{β:kX}{vs:Array Value}{ds:List jY}(h:RepL w D vs.toList ds):kZ w D β (.agg vs) (.d (.agg ds)) :=
 (uS.agg vs.toList h.1 h.2.1 h.2.2:uS w D (.agg vs.toList.toArray) (.agg ds))
theorem e_build{T:TypeId}{ps:List (Nat × Operand)}{pd:List (Nat × jY)}{pl:List (Nat × Nat)}{zv:List Value}{zd r:List jY}(ho:o.op=.build T ps.toArray)(hT:eL P T=some pl)(hz:xH P T=some zv)(hzd:eO zv zd)
  (hps:ps.map (λp=>(p.1,ev S p.2))=pd.map (λp=>(p.1,.d p.2))) (hok:pd.all (λp=>p.2.ok1)=true) (hr:aO (λi=>pl[i]?) zd (pd.map λp=>(p.1,p.2.cells))=some r):uP P o S [] (.d (.agg r)) :=
 uP.same λa w D β hop _=>by
  obtain ⟨i,z,z1,z2,z3⟩:=fG hz
  unfold eL at hT
  split at hT
  case h_2=>cases hT
  rename_i fs hfs
  have hpl:=run_places (P:=P) fs.toList hT w
  obtain ⟨q1,q2⟩:=aX (a:=a) (w:=w) (D:=D) (β:=β) hps hok (λp hp=>hop p.2 (by
   simp only[ho,Op.operands]
   exact mem_toArray.2 (by simpa using mem_map_of_mem (f:=(·.2)) hp)))
  obtain ⟨cs',f1,f2⟩:=bW (λi=>pl[i]?) _ _ zv.toArray zd r q1 q2 (repL_zero hzd) hr
  refine ⟨.agg cs',?_,repL_agg f2⟩
  have hm:(fs.mapM (λf=>do pure (f.offset,<- sizeOf f.type):Field->Sem (Nat × Nat))).run P w=.ok pl.toArray w:=by
   rw[Array.mapM_eq_mapM_toList,Sem.run_map,hpl]
   rfl
  have hpp:(ps.toArray.map λp=>(p.1,a.eval p.2)).toList=ps.map λp=>(p.1,a.eval p.2):=by simp
  simp only[execOp,ho,Instr.build,Sem.run_bind,run_zero z1 z2,Result.andThen_ok,run_underlying hfs,hm,z3]
  have hf':Instr.fill (λx=>pl.toArray[x]?) zv.toArray ((ps.toArray.map λp=>(p.1,a.eval p.2)).toList)=some cs':=by
   rw[hpp]
   simpa using f1
  rw[hf']
  rfl
theorem e_build_arr{T E:TypeId}{n s:Nat}{ps:List (Nat × Operand)}{pd:List (Nat × jY)}{zv:List Value}{zd r:List jY}(ho:o.op=.build T ps.toArray)(hT:arrB P T=some (n,E,s))(hz:xH P T=some zv)(hzd:eO zv zd)
  (hps:ps.map (λp=>(p.1,ev S p.2))=pd.map (λp=>(p.1,.d p.2))) (hok:pd.all (λp=>p.2.ok1)=true) (hr:aO (λi=>some (i*s,s)) zd (pd.map λp=>(p.1,p.2.cells))=some r):uP P o S [] (.d (.agg r)) :=
 uP.same λa w D β hop _=>by
  obtain ⟨i,z,z1,z2,z3⟩:=fG hz
  obtain ⟨j,e1,e2,e3⟩:=arr_of hT
  obtain ⟨q1,q2⟩:=aX (a:=a) (w:=w) (D:=D) (β:=β) hps hok (λp hp=>hop p.2 (by
   simp only[ho,Op.operands]
   exact mem_toArray.2 (by simpa using mem_map_of_mem (f:=(·.2)) hp)))
  obtain ⟨cs',f1,f2⟩:=bW (λi=>some (i*s,s)) _ _ zv.toArray zd r q1 q2 (repL_zero hzd) hr
  refine ⟨.agg cs',?_,repL_agg f2⟩
  have hpp:(ps.toArray.map λp=>(p.1,a.eval p.2)).toList=ps.map λp=>(p.1,a.eval p.2):=by simp
  simp only[execOp,ho,Instr.build,Sem.run_bind,run_zero z1 z2,Result.andThen_ok,run_underlying e1,xM e2,e3,z3]
  rw[hpp,f1]
  rfl
theorem rep_new{w:World}{D:kV}{E:TypeId}{s:Nat}{es:List jY}{cs:Array Value}(h:RepL w D cs.toList (qK es))(hs:∀ e∈es,e.cells.length=s)(hm:es.length<=maxLen)(hD:iU D w) :
  uS (w.alloc (.cells cs E)) (λt g p=>D t g p\/g=w.heap.size) (.slice (some ⟨w.heap.size,0,none⟩) es.length es.length) (.sl E s es):=by
 obtain ⟨h1,h2,h3⟩:=h
 have hcl:∀ i,i<(qK es).length->i<cs.size:=λi hi=>by
  have:cs.size=(qK es).length:=by simpa using h1
  omega
 have hc:∀ i,i<(qK es).length->(w.alloc (.cells cs E)).cell? ⟨w.heap.size,i,none⟩=cs[i]?:=λi _=>World.cell?_alloc_new w cs E i
 refine .sl w.heap.size 0 (λi=>cs.getD i undef) rfl (Nat.le_refl _) hm hs (λ_=>rfl) (λi _=>.inr rfl) (λi hi=>?_) (λi hi=>?_) (λi d hd=>?_)
 ·rw[Nat.zero_add,hc i hi];simp [hcl i hi]
 ·have:cs.getD i undef=cs[i]'(hcl i hi):=by simp [hcl i hi]
  rw[this]
  exact h2 _ (by simp)
 ·have hi:i<(qK es).length:=(List.getElem?_eq_some_iff.1 hd).1
  refine (h3 i (cs.getD i undef) d (by simp [hcl i hi]) hd).mono λt g p hd=>⟨.inl hd,?_⟩
  have:=hD.lt t g p hd
  exact World.cell?_alloc_lt w _ ⟨g,p,none⟩ this
theorem dup_new{D:kV}{w:World}{o:Obj}:aJ D (λt g p=>D t g p\/g=w.heap.size) w (w.alloc o) :=
 ⟨λ_ _ _ h=>.inl h,λ_ _ _ h=>h.imp id λe=>by subst e;simp⟩
theorem dT(z:Array Value)(s n:Nat)(hz:z.size=s):((Array.range (n*s)).map (z[· % z.size]!)).toList=(replicate n z.toList).flatten:=by
 apply ext_getElem?
 intro i
 simp only[Array.toList_map,Array.toList_range,getElem?_map]
 rcases Nat.lt_or_ge i (n*s) with hi | hi
 ·rw[getElem?_range hi]
  have hs:0<s:=by
   rcases Nat.eq_zero_or_pos s with h | h
   ·subst h;simp at hi
   ·exact h
  have key:∀ (n i:Nat),i<n*s->((replicate n z.toList).flatten)[i]?=z[i % s]?:=by
   intro n
   induction n with
   |zero=>intro i hi;simp at hi
   |succ n ih=>
    intro i hi
    rw[replicate_succ,flatten_cons]
    by_cases h:i<s
    ·rw[getElem?_append_left (by simpa [hz] using h),Nat.mod_eq_of_lt h];simp
    ·rw[getElem?_append_right (by simp [hz];omega)]
     have e1:i-z.toList.length=i-s:=by simp [hz]
     rw[e1,ih (i-s) (by rw[Nat.add_mul] at hi;omega)]
     congr 1
     exact (Nat.mod_eq_sub_mod (by omega)).symm
  rw[key n i hi,hz]
  have hlt:i % s<z.size:=by rw[hz];exact Nat.mod_lt _ hs
  simp [hlt]
 ·rw[getElem?_eq_none (by simpa using hi)]
  rw[getElem?_eq_none]
  ·rfl
  ·simp [length_flatten,hz];exact hi
theorem repL_zeros{w:World}{D:kV}{zv:List Value}{zd:List jY}(h:eO zv zd)(n:Nat):RepL w D (replicate n zv).flatten (replicate n zd).flatten:=by
 obtain ⟨h1,h2,h3⟩:=bQ (w:=w) (D:=D) h
 induction n with
 |zero=>exact ⟨rfl,by simp,by simp⟩
 |succ n ih=>
  obtain ⟨k1,k2,k3⟩:=ih
  rw[replicate_succ,replicate_succ,flatten_cons,flatten_cons]
  refine ⟨by simp only[length_append];omega,λv hv=>?_,λi v d hv hd=>?_⟩
  ·rcases mem_append.1 hv with hv | hv
   ·exact h2 v hv
   ·exact k2 v hv
  ·by_cases hi:i<zv.length
   ·rw[getElem?_append_left hi] at hv
    rw[getElem?_append_left (by omega)] at hd
    exact h3 i v d hv hd
   ·rw[getElem?_append_right (by omega)] at hv
    rw[getElem?_append_right (by omega),<- h1] at hd
    exact k3 _ v d hv hd
theorem e_buildSlice{T E:TypeId}{s len:Nat}{ps:List (Nat × Operand)}{pd:List (Nat × jY)}{zv:List Value}{zd es:List jY}(ho:o.op=.buildSlice T len ps.toArray)(hT:uU P T=some (E,s))(hz:xH P E=some zv)(hzd:eO zv zd)(hzl:zd.length=s)
  (hps:ps.map (λp=>(p.1,ev S p.2))=pd.map (λp=>(p.1,.d p.2))) (hok:pd.all (λp=>p.2.ok1)=true) (hbig:len*s<=16777216) (hbig':len<=16777216) (qM:es.length=len) (hs:∀ e∈es,e.cells.length=s)
  (hr:aO (λi=>some (i*s,s)) (replicate len zd).flatten (pd.map λp=>(p.1,p.2.cells))=some (qK es)):uP P o S [] (.d (.sl E s es)) :=
 λa w D β Q hop _ hD=>by
  obtain ⟨i,z,z1,z2,z3⟩:=fG hz
  obtain ⟨j,e1,e2,e3⟩:=cL hT
  have hij:i=j:=by rw[z1] at e2;injection e2
  subst hij
  obtain ⟨q1,q2⟩:=aX (a:=a) (w:=w) (D:=D) (β:=β) hps hok (λp hp=>hop p.2 (by
   simp only[ho,Op.operands]
   exact mem_toArray.2 (by simpa using mem_map_of_mem (f:=(·.2)) hp)))
  have hzvl:zv.length=zd.length:=(bQ (w:=w) (D:=D) hzd).1
  have hzs:z.cells.size=s:=by rw[z3];simp;omega
  have hrz:=dT z.cells s len hzs
  have hzero:RepL w D ((Array.range (len*s)).map (z.cells[· % z.cells.size]!)).toList (replicate len zd).flatten:=by
   rw[hrz,z3]
   exact repL_zeros hzd len
  obtain ⟨cs',f1,f2⟩:=bW (λi=>some (i*s,s)) _ _ _ _ _ q1 q2 hzero hr
  have hpp:(ps.toArray.map λp=>(p.1,a.eval p.2)).toList=ps.map λp=>(p.1,a.eval p.2):=by simp
  have hrun:(execOp a.eval o).run P w=.ok (.value (.slice (some ⟨w.heap.size,0,none⟩) len len)) (w.alloc (.cells cs' E)):=by
   by_cases h0:len*s=0
   ·rw[h0] at f1
    simp only[Array.range_zero',Array.map_empty] at f1
    simp only[execOp,ho,Instr.buildSlice,Sem.run_bind,run_underlying e1,Result.andThen_ok,xM e2,e3,h0,if_true,Array.range_zero',Array.map_empty,hpp,Sem.run_pure]
    rw[if_neg (by omega)]
    simp only[Sem.run_bind,Sem.run_pure,Result.andThen_ok,f1,newRow,run_newObj]
    rfl
   ·simp only[execOp,ho,Instr.buildSlice,Sem.run_bind,run_underlying e1,Result.andThen_ok,xM e2,e3,h0,if_false,hpp]
    rw[if_neg (by omega)]
    simp only[Sem.run_bind,Sem.run_pure,Result.andThen_ok,run_zero z1 z2,f1,newRow,run_newObj]
    rfl
  refine cF hrun ⟨_,_,rfl,(Below.refl _ _).alloc (Nat.le_refl _) _,dup_new,?_⟩
  have:=rep_new (E:=E) f2 hs (by unfold maxLen;omega) hD
  rw[qM] at this
  exact this
end
def callB(P:Program)(f:FuncId):Bool :=
 match P.funcs[f]? with
 | some fn => !(fn.name == "runtime.NumGoroutine") && fn.body.isSome
 |none=>false
def Args(w:World)(D:kV)(vs:List Value)(ds:List jY):Prop:=vs.length=ds.length/\∀ (i:Nat) v d,vs[i]?=some v->ds[i]?=some d->uS w D v d
def FPost(w:World)(D:kV)(r:jY)(e:Ending)(w':World):Prop:=∃ v D',e=.returned v/\Below w.heap.size w w'/\aJ D D' w w'/\uS w' D' v r
structure jP (P:Program) (f:FuncId) (ds:List jY) (r:jY):Prop where
 may:callB P f=true
 run:∀ (w:World) (D:kV) (vs:List Value),iU D w->Args w D vs ds->Calls P f vs.toArray w (FPost w D r)
section
variable {P:Program} {o:Oper} {S:Nat->SV}
theorem xJ{f:FuncId}(h:callB P f=true)(args:Array Value)(w:World):(callFunc f args).run P w=.ok (.enter f args) w:=by
 unfold callB at h
 split at h
 ·rename_i fn hfn
  simp only[Bool.and_eq_true,Bool.not_eq_true'] at h
  obtain ⟨b,hb⟩:=Option.isSome_iff_exists.1 h.2
  have hne : ¬ fn.name = "runtime.NumGoroutine" := beq_eq_false_iff_ne.1 h.1
  simp [callFunc,hfn,hne,hb]
 ·cases h
theorem e_call{y:Operand}{xs:List Operand}{ats:Array TypeId}{f:FuncId}{ds:List jY}{r:jY}(ho:o.op=.call { callee:=.value y,args:=xs.toArray,argTypes:=ats })(hy:ev S y=.d (.val (.func (.func f) #[] #[])))
  (hx:xs.map (ev S)=ds.map .d) (hf:jP P f ds r):uP P o S [] (.d r) :=
 λa w D β Q hop _ hD=>by
  have hyv:=hop y (by simp [ho,Op.operands,Call.operands])
  rw[hy] at hyv
  have hyv':=vA hyv
  have hargs:Args w D (xs.map a.eval) ds:=by
   have hl:xs.length=ds.length:=by simpa using congrArg List.length hx
   refine ⟨by simpa using hl,λi v d hv hd=>?_⟩
   rw[getElem?_map,Option.map_eq_some_iff] at hv
   obtain ⟨x,hxi,rfl⟩:=hv
   have hm:=hop x (by simp [ho,Op.operands,Call.operands,mem_of_getElem? hxi])
   have hi:=congrArg (λl:List SV=>l[i]?) hx
   simp only[getElem?_map,hxi,hd,Option.map_some,Option.some.injEq] at hi
   rw[hi] at hm
   exact hm
  have hrun:(execOp a.eval o).run P w=.ok (.enter f (xs.map a.eval).toArray) w:=by
   simp only[execOp,ho,resolve,Deferred.ofValue,hyv',Sem.run_bind,Sem.run_pure,Result.andThen_ok,invoke,Array.empty_append,Array.append_empty]
   rw[xJ hf.may]
   simp
  refine dG hrun ((hf.run w D _ hD hargs).mono λe w' h=>?_)
  obtain ⟨v,D',he,h1,h2,h3⟩:=h
  exact ⟨v,he,v,D',rfl,h1,h2,h3⟩
def optInt(S:Nat->SV)(y:Option Operand)(k:IntKind)(dflt n:Nat):Prop:=match y with
 |none=>n=dflt
 |some z=>ev S z=.d (.val (.int k (n:Int)))
theorem rep_slice{w:World}{D:kV}{a:Option Addr}{n cap:Nat}{t:TypeId}{s l h:Nat}{es:List jY}(hr:uS w D (.slice a n cap) (.sl t s es))(h1:l<=h)(h2:h<=es.length) :
  uS w D (.slice (if cap=l then a else a.map (·.add (l*s))) (h-l) (cap-l)) (.sl t s ((es.take h).drop l)):=by
 cases hr with
 |sl g off u hn hc hm hs ha hD hu h1' hr=>
  have hs':∀ e∈(es.take h).drop l,e.cells.length=s:=λe he=>hs e (mem_of_mem_take (mem_of_mem_drop he))
  have hfl:=vQ hs
  have hfl':(qK ((es.take h).drop l)).length=(h-l)*s:=by
   rw[vQ hs'];simp only[length_drop,length_take];congr 1;omega
  have hb:∀ i,i<(qK ((es.take h).drop l)).length->l*s+i<(qK es).length:=λi hi=>by
   rw[hfl'] at hi
   rw[hfl]
   have:(h-l)*s+l*s<=es.length*s:=by rw[<- Nat.add_mul];exact Nat.mul_le_mul_right s (by omega)
   omega
  have hget:∀ (i:Nat) d,(qK ((es.take h).drop l))[i]?=some d->(qK es)[l*s+i]?=some d:=λi d hd=>by
   have e1:qK es=qK (es.take l)++(qK ((es.take h).drop l)++qK (es.drop h)):=by
    rw[<- bA,<- bA]
    congr 1
    have e2:es.take l=(es.take h).take l:=by rw[take_take];congr 1;omega
    rw[e2,<- append_assoc,take_append_drop,take_append_drop]
   have e3:(qK (es.take l)).length=l*s:=by
    rw[vQ (s:=s) (λe he=>hs e (mem_of_mem_take he))];simp only[length_take];congr 1;omega
   have hi:=(List.getElem?_eq_some_iff.1 hd).1
   rw[e1,getElem?_append_right (by omega),e3,getElem?_append_left (by omega)]
   rw[<- hd];congr 1;omega
  refine .sl g (off+l*s) (λi=>u (l*s+i)) (by simp only[length_drop,length_take];omega) (by omega) (by omega) hs' (λh0=>?_) (λi hi=>?_) (λi hi=>?_) (λi hi=>h1' _ (hb i hi)) (λi d hd=>hr _ _ (hget i d hd))
  ·rw[if_neg (by omega),ha (by omega)]
   simp [Addr.add_lit]
  ·rw[Nat.add_assoc];exact hD _ (hb i hi)
  ·rw[Nat.add_assoc];exact hu _ (hb i hi)
theorem run_sliceBound{k:IntKind}{i y:Nat}{code:BoundsCode}(h:i<=y)(w:World):(Instr.sliceBound (.int k (i:Int)) y code).run P w=.ok i w:=by
 have h1:(0:Int)<=(i:Int)/\(i:Int)<=(y:Int):=by omega
 simp only[Instr.sliceBound,asIntOf,Sem.run_bind,Sem.run_pure,Result.andThen_ok,h1,and_self,if_true,Int.toNat_natCast]
theorem e_slice{T E t:TypeId}{x:Operand}{lo hi:Option Operand}{s l h:Nat}{kl kh:IntKind}{es:List jY}(ho:o.op=.slice T x lo hi none)(hT:uU P T=some (E,s))(hx:ev S x=.d (.sl t s es))(hlo:optInt S lo kl 0 l)(hhi:optInt S hi kh es.length h)
  (h1:l<=h) (h2:h<=es.length):uP P o S [] (.d (.sl t s ((es.take h).drop l))) :=
 uP.same λa w D β hop _=>by
  have hp:=hop x (by simp [ho,Op.operands])
  rw[hx] at hp
  obtain ⟨i,e1,e2,e3⟩:=cL hT
  generalize hvv:a.eval x=v at hp
  cases v with
  |slice q n cap=>
   have hrs:=rep_slice hp h1 h2
   cases hp with
   |sl g off u hn hc hm hs ha hD hu h1' hr=>
   refine ⟨_,?_,hrs⟩
   have hl:lo.map a.eval=none/\l=0\/lo.map a.eval=some (.int kl (l:Int)):=by
    cases lo with
    |none=>exact .inl ⟨rfl,hlo⟩
    |some z=>
     have:=hop z (by simp [ho,Op.operands])
     rw[show ev S z=_ from hlo] at this
     exact .inr (by rw[Option.map_some,vA this])
   have hh:hi.map a.eval=none/\h=es.length\/hi.map a.eval=some (.int kh (h:Int)):=by
    cases hi with
    |none=>exact .inl ⟨rfl,hhi⟩
    |some z=>
     have:=hop z (by simp [ho,Op.operands])
     rw[show ev S z=_ from hhi] at this
     exact .inr (by rw[Option.map_some,vA this])
   have hb:(Instr.sliceBounds true n cap (lo.map a.eval) (hi.map a.eval) none).run P w=.ok (l,h,cap) w:=by
    have b1:∀ c:BoundsCode,(Instr.sliceBound (.int kh (h:Int)) cap c).run P w=.ok h w:=λ_=>run_sliceBound (by omega) w
    have b2:∀ c:BoundsCode,(Instr.sliceBound (.int kl (l:Int)) h c).run P w=.ok l w:=λ_=>run_sliceBound h1 w
    rcases hl with ⟨hl,rfl⟩ | hl<;>rcases hh with ⟨hh,hhe⟩ | hh
    ·subst hhe;subst hn;simp [Instr.sliceBounds,hl,hh]
    ·simp [Instr.sliceBounds,hl,hh,b1]
    ·subst hhe;subst hn;simp [Instr.sliceBounds,hl,hh,b2]
    ·simp [Instr.sliceBounds,hl,hh,b1,b2]
   simp [execOp,ho,hvv,Instr.sliceAt,run_underlying e1,Instr.slice,hb,xM e2,e3]
  |_=>cases hp
theorem blk_new{w:World}{D:kV}{β:kX}{k:Nat}{T:TypeId}{vs:Array Value}{ds:List jY}(hD:iU D w)(h:RepL w D vs.toList ds) :
  uE (w.alloc (.cells vs T)) D (β.set k w.heap.size) k (ds.map .d):=by
 obtain ⟨h1,h2,h3⟩:=h
 refine .inr ⟨w.heap.size,vs,T,by simp [kX.set],heap_alloc_new w _,by simp at h1 ⊢;omega,λi x hx=>?_,λt o hd=>Nat.lt_irrefl _ (hD.lt t _ o hd)⟩
 rw[getElem?_map,Option.map_eq_some_iff] at hx
 obtain ⟨d,hd,rfl⟩:=hx
 have hi:i<vs.size:=by
  have:=(List.getElem?_eq_some_iff.1 hd).1
  simp at h1;omega
 refine ⟨vs[i],by simp [hi],h2 _ (by simp),?_⟩
 exact (h3 i vs[i] d (by simp [hi]) hd).mono λt g p hd=>⟨hd,World.cell?_alloc_lt w _ ⟨g,p,none⟩ (hD.lt t g p hd)⟩
theorem npost_new{a:Act}{w:World}{D:kV}{β:kX}{k:Nat}{T:TypeId}{vs:Array Value}{ds:List jY}(hD:iU D w)(h:RepL w D vs.toList ds){Q:Exit->Act->World->Prop}{v:Value}{x:SV}
  (hrun:(execOp a.eval o).run P w=.ok (.value v) (w.alloc (.cells vs T))) (hx:kZ (w.alloc (.cells vs T)) D (β.set k w.heap.size) v x):o.wp P a w (NPost a w D β o.dst k (ds.map .d) x) Q :=
 cF hrun ⟨v,D,w.heap.size,rfl,(Below.refl _ _).alloc (Nat.le_refl _) _,aJ.of_same D,Nat.le_refl _,by simp,λt o hd=>Nat.lt_irrefl _ (hD.lt t _ o hd),blk_new hD h,hx⟩
theorem n_box{T:TypeId}{x:Operand}{d:jY}(k:Nat)(ho:o.op=.box T x)(hx:ev S x=.d d)(h1:d.ok1=true):NOk P o S k (d.cells.map .d) (.ref k 0) :=
 λa w D β Q hop hD=>by
  have hp:=hop x (by simp [ho,Op.operands])
  rw[hx] at hp
  obtain ⟨vs,e1,e2⟩:=lW hp h1
  refine npost_new (vs:=vs.toArray) (T:=T) (v:=.pointer (some ⟨w.heap.size,0,none⟩)) hD (by rw[toList_toArray];exact e2) ?_ ⟨w.heap.size,by simp [kX.set],rfl⟩
  simp only[execOp,ho,Instr.box,newVar,newRow,e1,Sem.run_bind,run_newObj,Result.andThen_ok,Sem.run_pure]
  rfl
theorem n_alloc{T:TypeId}{zv:List Value}{zd:List jY}(k:Nat)(ho:o.op=.alloc T)(hz:xH P T=some zv)(hzd:eO zv zd):NOk P o S k (zd.map .d) (.ref k 0) :=
 λa w D β Q _ hD=>by
  obtain ⟨i,z,z1,z2,z3⟩:=fG hz
  refine npost_new (vs:=zv.toArray) (T:=T) (v:=.pointer (some ⟨w.heap.size,0,none⟩)) hD (repL_zero hzd) ?_ ⟨w.heap.size,by simp [kX.set],rfl⟩
  simp only[execOp,ho,Instr.alloc,newVar,newRow,Sem.run_bind,run_zero z1 z2,z3,run_newObj,Result.andThen_ok,Sem.run_pure]
  rfl
def zJ(P:Program)(T:TypeId):Option Nat:=(P.info? T).map (·.bytes)
theorem n_makeSlice{T E:TypeId}{l c:Operand}{s n m bytes:Nat}{kl kc:IntKind}{zv:List Value}{zd:List jY}(k:Nat)(ho:o.op=.makeSlice T l c)(hT:uU P T=some (E,s))(hz:xH P E=some zv)(hzd:eO zv zd)(hzl:zd.length=s)(hby:zJ P E=some bytes)
  (hl:ev S l=.d (.val (.int kl (n:Int)))) (hc:ev S c=.d (.val (.int kc (m:Int)))) (hnm:n<=m) (hb:bytes*m<=281474976710656) (hm:m<=maxLen):NOk P o S k ((replicate m zd).flatten.map .d) (.own k E s n) :=
 λa w D β Q hop hD=>by
  have h1:=hop l (by simp [ho,Op.operands])
  have h2:=hop c (by simp [ho,Op.operands])
  rw[hl] at h1
  rw[hc] at h2
  have e1:=vA h1
  have e2:=vA h2
  obtain ⟨i,z,z1,z2,z3⟩:=fG hz
  obtain ⟨j,f1,f2,f3⟩:=cL hT
  have hij:i=j:=by rw[z1] at f2;injection f2
  subst hij
  have hbi:i.bytes=bytes:=by
   unfold zJ at hby
   rw[z1] at hby
   simpa using hby
  have hmm:(m:Int)<=9223372036854775807:=by
   unfold maxLen at hm
   omega
  have hbb:(i.bytes:Int)*(m:Int)<=281474976710656:=by
   rw[hbi]
   omega
  have hr:=run_make (P:=P) w T E i z f1 z1 z2 kl kc (n:Int) (m:Int) (by omega) (by omega) hbb hmm
  have hzvl:zv.length=zd.length:=(bQ (w:=w) (D:=D) hzd).1
  have hzs:z.cells.size=s:=by rw[z3];simp;omega
  simp only[Int.toNat_natCast,f3] at hr
  refine npost_new (vs:=madeCells z.cells (m*s)) (T:=E) (v:=.slice (some ⟨w.heap.size,0,none⟩) n m) hD ?_ ?_ ?_
  ·show RepL w D ((Array.range (m*s)).map (z.cells[· % z.cells.size]!)).toList _
   rw[dT z.cells s m hzs,z3]
   exact repL_zeros hzd m
  ·simp only[execOp,ho,e1,e2,Sem.run_bind,hr,Result.andThen_ok,Sem.run_pure]
  ·exact .inr ⟨w.heap.size,m,madeCells z.cells (m*s),by simp [kX.set],rfl,heap_alloc_new w _,size_madeCells _ _,hnm,hm⟩
theorem sv_cells{w:World}{D:kV}{β:kX}{v:Value}{x:SV}{l:List SV}(h:kZ w D β v x)(hl:(∃ d:jY,x=.d d/\d.ok1=true/\l=d.cells.map .d)\/((∃ k t s n,x=.own k t s n)/\l=[x])) :
  ∃ vs:List Value,v.cells=vs.toArray/\vs.length=l.length/\(∀ v∈vs,v.oneCell'=true)/\∀ (i:Nat) v y,vs[i]?=some v->l[i]?=some y->kZ w D β v y:=by
 rcases hl with ⟨d,rfl,h1,rfl⟩ | ⟨⟨k,t,s,n,rfl⟩,rfl⟩
 ·obtain ⟨vs,e1,e2,e3,e4⟩:=lW h h1
  refine ⟨vs,e1,by simpa using e2,e3,λi v y hv hy=>?_⟩
  rw[getElem?_map,Option.map_eq_some_iff] at hy
  obtain ⟨d',hd,rfl⟩:=hy
  exact e4 i v d' hv hd
 ·have hv1:∃ p q c,v=.slice p q c:=by
   rcases h with ⟨_,_,h3⟩ | ⟨c,cap,vs,_,h4,_⟩
   ·exact ⟨_,_,_,h3⟩
   ·exact ⟨_,_,_,h4⟩
  obtain ⟨p,q,c,rfl⟩:=hv1
  exact ⟨[.slice p q c],rfl,rfl,by simp [Value.oneCell'],λi v y hv hy=>by
   cases i with
   |zero=>simp at hv hy;subst hv;subst hy;exact h
   |succ i=>simp at hv⟩
theorem lG(w:World)(b:Nat)(cs:Array Value)(hs:∀ vs T f,w.heap[b]?=some (.cells vs T f)->cs.size=vs.size):Wrote b w (w.setRow b cs) :=
 ⟨rfl,rfl,rfl,by simp,λk hk=>setRow_other w b k cs hk,λvs T f h=>⟨cs,setRow_heap w b vs cs T f h,hs vs T f h⟩⟩
theorem t_store{T:TypeId}{x y:Operand}{k off sz:Nat}{agg:Bool}{old l:List SV}{z:SV}(ho:o.op=.store T x y)(hx:ev S x=.ref k off)(hy:ev S y=z)(hs:qD P T=some (agg,sz))
  (hl:(∃ d:jY,z=.d d/\d.ok1=true/\l=d.cells.map .d)\/((∃ k t s n,z=.own k t s n)/\l=[z])) (qM:l.length=sz) (hle:off+sz<=old.length) (hm:yC old=false):TOk P o S k old (patch old off l) :=
 λa w D β Q hop hb hD=>by
  have hp:=hop x (by simp [ho,Op.operands])
  have hq:=hop y (by simp [ho,Op.operands])
  rw[hx] at hp
  rw[hy] at hq
  obtain ⟨b,hb1,hv⟩:=hp
  obtain ⟨us,e1,e2,e3,e4⟩:=sv_cells hq hl
  rcases hb with hb | ⟨b',vs,T',hb2,h2,h3,h4,h5⟩
  ·have hb2:=(hb.cells hm).1;rw[hb1] at hb2;cases hb2
  ·obtain rfl:b'=b:=by rw[hb1] at hb2;injection hb2 with h;exact h.symm
   obtain ⟨d,i,s1,s2,s3,s4⟩:=shape_of hs
   have hst:=run_storeCells_at P b' off T' us 0 vs w h2 (by omega) e3
   have hrun:(execOp a.eval o).run P w=.ok .skip (w.setRow b' (patch vs.toList off us).toArray):=by
    have hsz:us.toArray.size=i.size:=by simp;omega
    simp only[execOp,ho,hv,Instr.storeAt,Instr.sureAddr,storeVar,e1,Sem.run_bind,Sem.run_pure,Result.andThen_ok,xM s2,ne_eq,hsz,not_true_eq_false,if_false,hst]
    simp [patch]
   have hw:=lG w b' (patch vs.toList off us).toArray (λvs' T f h=>by
    rw[h2] at h
    injection h with h
    injection h with h
    subst h
    have:=nS (l:=vs.toList) (off:=off) (new:=us) (by simp;omega)
    simpa using this)
   refine wp_skip_ hrun ⟨rfl,b',hb1,hw,h5,?_⟩
   refine .inr ⟨b',_,T',hb1,setRow_heap w b' vs _ T' _ h2,?_,λj x hx=>?_,h5⟩
   ·have p1:=nS (l:=vs.toList) (off:=off) (new:=us) (by simp;omega)
    have p2:=nS (l:=old) (off:=off) (new:=l) (by omega)
    simp only[size_toArray]
    simp only[Array.length_toList] at p1
    omega
   ·rw[mB (by omega)] at hx
    have hg:(patch vs.toList off us).toArray[j]?=if j<off then vs.toList[j]? else if j<off+us.length then us[j-off]? else vs.toList[j]?:=by
     rw[getElem?_toArray]
     exact mB (by simp;omega) j
    rw[hg]
    by_cases c1:j<off
    ·rw[if_pos c1] at hx ⊢
     obtain ⟨u,g1,g2,g3⟩:=h4 j x hx
     exact ⟨u,by simpa using g1,g2,hw.repS h5 g3⟩
    ·rw[if_neg c1] at hx ⊢
     rw[e2]
     by_cases c2:j<off+l.length
     ·rw[if_pos c2] at hx ⊢
      have hj:j-off<us.length:=by omega
      exact ⟨us[j-off],getElem?_eq_getElem hj,e3 _ (getElem_mem hj),hw.repS h5 (e4 _ _ _ (getElem?_eq_getElem hj) hx)⟩
     ·rw[if_neg c2] at hx ⊢
      obtain ⟨u,g1,g2,g3⟩:=h4 j x hx
      exact ⟨u,by simpa using g1,g2,hw.repS h5 g3⟩
end
structure PS where
 sl:SL
 bs:BS
structure Fr where
 lo:Nat
 hi:Nat
 rd:Option Nat
structure Ctx where
 w0:World
 D0:kV
 w1:World
 tm:Array Value
 n:Fr
 mine:Nat->Prop
def Ctx.own(C:Ctx)(g:Nat):Prop:=C.w0.heap.size<=g\/C.mine g
structure dV (mine:Nat->Prop) (B:Nat) (w w':World):Prop where
 os:w'.os=w.os
 tape:w'.tape=w.tape
 output:w'.output=w.output
 size:w.heap.size<=w'.heap.size
 block:∀ k,k<B->¬ mine k->w'.heap[k]?=w.heap[k]?
 shape:∀ (k:Nat),k<B->∀ vs T f,w.heap[k]?=some (.cells vs T f)->∃ vs',w'.heap[k]?=some (.cells vs' T f)/\vs'.size=vs.size
theorem dV.of{mine:Nat->Prop}{B:Nat}{w w':World}(h:Below B w w'):dV mine B w w':=⟨h.os,h.tape,h.output,h.size,λk hk _=>h.block k hk,λk hk vs T f h1=>⟨vs,(h.block k hk).trans h1,rfl⟩⟩
theorem dV.plain{B:Nat}{w w':World}(h:dV (λ_=>False) B w w'):Below B w w':=⟨h.os,h.tape,h.output,h.size,λk hk=>h.block k hk (λf=>f)⟩
theorem dV.up{mine:Nat->Prop}{B:Nat}{w0 w w':World}(h:dV mine B w0 w)(hb:Below w.heap.size w w')(hB:B<=w.heap.size):dV mine B w0 w' :=
 ⟨hb.os.trans h.os,hb.tape.trans h.tape,hb.output.trans h.output,Nat.le_trans h.size hb.size,λk hk hm=>(hb.block k (by omega)).trans (h.block k hk hm),λk hk vs T f h1=>by
  obtain ⟨us,e1,e2⟩:=h.shape k hk vs T f h1
  exact ⟨us,(hb.block k (by omega)).trans e1,e2⟩⟩
inductive DfOk (B:Nat) (w:World):List Deferred->Prop
 |nil:DfOk B w []
 |cons {q:Nat} {ds:List Deferred} (h1:B<=q) (h2:w.heap[q]?=some (Obj.deferred (some []))) (h3:∀ d∈ds,d.target≠.collected q) (h:DfOk B w ds):DfOk B w ({ target:=.collected q,args:=#[] }::ds)
theorem DfOk.keep{B:Nat}{w w':World}{ds:List Deferred}(h:DfOk B w ds)(hk:∀ q:Nat,w.heap[q]?=some (Obj.deferred (some []))->(∃ d∈ds,d.target=.collected q)->w'.heap[q]?=some (Obj.deferred (some []))):DfOk B w' ds:=by
 induction h with
 |nil=>exact .nil
 |cons h1 h2 h3 h ih=>exact .cons h1 (hk _ h2 ⟨_,mem_cons_self,rfl⟩) h3 (ih λq hq ⟨d,hd,e⟩=>hk q hq ⟨d,mem_cons_of_mem _ hd,e⟩)
structure bE (C:Ctx) (a:Act) (w:World) (D:kV):Prop where
 defers:DfOk C.w0.heap.size w a.defers
 size:a.tmps.size=C.n.hi
 keep:∀ t g o,C.D0 t g o->w.cell? ⟨g,o,none⟩=C.w1.cell? ⟨g,o,none⟩
 oth:∀ (k:Nat) (o:Obj),C.w1.heap[k]?=some o->o.isCells=false->(Obj.isMp o=true->¬ C.own k)->w.heap[k]?=some o
 pin:∀ t,t<C.n.lo->a.tmps.getD t undef=C.tm.getD t undef
 below:dV C.mine C.w0.heap.size C.w0 w
 dmono:∀ t g o,C.D0 t g o->D t g o
 dnew:∀ t g o,D t g o->C.D0 t g o\/C.own g
 dok:iU D w
theorem bE.fresh{C:Ctx}{a:Act}{w:World}{D:kV}(h:bE C a w D){b:Nat}(hb:w.heap.size<=b):C.own b:=.inl (Nat.le_trans h.below.size hb)
structure iJ (C:Ctx) (a:Act) (w:World) (st:PS) (D:kV) (β:kX):Prop where
 base:bE C a w D
 mem:Mem w D β st.bs
 high:∀ k c,kC st.bs k=some c->∀ b,β k=some b->C.own b
 slots:∀ t,kZ w D β (a.tmps.getD t undef) (kD st.sl t)
def dQ(C:Ctx)(a:Act)(w:World)(st:PS):Prop:=∃ D β,iJ C a w st D β
def bD(dst:Option Tmp)(x:SV)(sl:SL):SL:=match dst with
 |some d=>(d,x)::sl
 |none=>sl
def nE(n:Fr)(dst:Option Tmp):Bool:=match dst with
 |some d=>Nat.ble n.lo d&&Nat.blt d n.hi
 |none=>true
def gN(k:Nat)(st:PS):Bool :=
 (st.sl.all λp=>!p.2.names k)&&(st.bs.all λp=>(!(Nat.beq p.1 k))&&match p.2 with
  |some cs=>!(qI k cs)
  |none=>true)
def zL(ops:Array Oper)(sl:SL)(o:Oper):Option Bool:=match o.guard with
 |none=>some true
 |some (j,want)=>match (ops[j]?).bind (·.dst) with
  |some d=>match kD sl d with
   |.d (.val (.bool b))=>some (b == want)
   |.d (.tup [])=>some false
   |_=>none
  |none=>none
theorem vO{a:Act}{dst:Option Tmp}{v:Value}{n:Fr}{t:Nat}(hs:a.tmps.size=n.hi)(hd:nE n dst=true):(a.put dst v).tmps.getD t undef=if dst=some t then v else a.tmps.getD t undef:=by
 cases dst with
 |none=>simp [Act.put]
 |some d=>
  have hlt:d<a.tmps.size:=by
   simp only[nE,Bool.and_eq_true] at hd
   rw[hs];exact Nat.le_of_ble_eq_true hd.2
  simp only[Act.put,Array.getD_eq_getD_getElem?,Array.getElem?_setIfInBounds,Option.some.injEq]
  by_cases h:d=t
  ·subst h;simp [hlt]
  ·simp [h]
theorem put_size{a:Act}{dst:Option Tmp}{v:Value}:(a.put dst v).tmps.size=a.tmps.size:=by
 cases dst<;>simp [Act.put]
theorem put_defers{a:Act}{dst:Option Tmp}{v:Value}:(a.put dst v).defers=a.defers:=by
 cases dst<;>rfl
theorem vC(dst:Option Tmp)(x:SV)(sl:SL)(t:Tmp):kD (bD dst x sl) t=if dst=some t then x else kD sl t:=by
 cases dst with
 |none=>simp [bD]
 |some d=>simp only[bD,qQ,Option.some.injEq]
theorem bE.put{C:Ctx}{a:Act}{w:World}{D:kV}(h:bE C a w D){dst:Option Tmp}(hd:nE C.n dst=true)(v:Value):bE C (a.put dst v) w D :=
 ⟨put_defers.symm▸h.defers,put_size.trans h.size,h.keep,h.oth,λt ht=>by
  rw[vO h.size hd,if_neg (λe=>by subst e;simp only[nE,Bool.and_eq_true] at hd;have:=Nat.le_of_ble_eq_true hd.1;omega)]
  exact h.pin t ht,h.below,h.dmono,h.dnew,h.dok⟩
theorem bE.up{C:Ctx}{a:Act}{w w':World}{D D':kV}(h:bE C a w D)(hb:Below w.heap.size w w')(hu:aJ D D' w w'):bE C a w' D' :=
 ⟨DfOk.keep h.defers (λq hq _=>(hb.block q (qW hq)).trans hq),h.size,λt g o hd=>(xW hb (h.dok.lt t g o (h.dmono _ _ _ hd))).trans (h.keep t g o hd),λk o hk ho hm=>(hb.block k (qW (h.oth k o hk ho hm))).trans (h.oth k o hk ho hm),h.pin,
  h.below.up hb h.below.size,λt g o hd=>hu.up _ _ _ (h.dmono _ _ _ hd),λt g o hd=>by
  rcases hu.new t g o hd with h1 | h1
  ·exact h.dnew t g o h1
  ·exact .inr (h.fresh h1.1),hu.ok h.dok hb⟩
theorem bE.wrote{C:Ctx}{a:Act}{w w':World}{D:kV}{b:Nat}(h:bE C a w D)(hw:Wrote b w w')(hb:C.own b)(hc:(∃ vs T f,w.heap[b]?=some (.cells vs T f))\/∃ ob,w.heap[b]?=some ob/\Obj.isMp ob=true)(hp:∀ t o,¬ D t b o):bE C a w' D:=by
 refine ⟨DfOk.keep h.defers (λq hq _=>?_),h.size,λt g o hd=>?_,λk o hk ho hm=>?_,h.pin,⟨hw.os.trans h.below.os,hw.tape.trans h.below.tape,hw.output.trans h.below.output,by have:=h.below.size;have:=hw.size;omega,λk hk hm=>(hw.block k (λe=>by subst e;rcases hb with hb | hb;omega;exact hm hb)).trans (h.below.block k hk hm),λk hk vs T f h1=>by
  obtain ⟨us,e1,e2⟩:=h.below.shape k hk vs T f h1
  by_cases hkb:k=b
  ·subst hkb;obtain ⟨us',g1,g2⟩:=hw.own _ _ _ e1;exact ⟨us',g1,g2.trans e2⟩
  ·exact ⟨us,(hw.block k hkb).trans e1,e2⟩⟩,h.dmono,h.dnew,h.dok.kept (Nat.le_of_eq hw.size.symm) λt g o hd=>World.cell?_of_block (hw.block g λe=>hp t o (e▸hd))⟩
 ·have hne:q≠b:=λe=>by
   subst e
   rcases hc with ⟨vs,T,f,hc⟩ | ⟨ob,hc,h2⟩
   ·rw[hc] at hq;cases hq
   ·rw[hc] at hq;injection hq with hq;subst hq;cases h2
  exact (hw.block q hne).trans hq
 ·have hne:g≠b:=λe=>hp t o (e▸h.dmono _ _ _ hd)
  exact (World.cell?_of_block (hw.block g hne)).trans (h.keep t g o hd)
 ·have h1:=h.oth k o hk ho hm
  have hne:k≠b:=λe=>by
   subst e
   rcases hc with ⟨vs,T,f,hc⟩ | ⟨ob,hc,h2⟩
   ·rw[hc] at h1;injection h1 with h1;subst h1;cases ho
   ·rw[hc] at h1;injection h1 with h1;subst h1;exact hm h2 hb
  exact (hw.block k hne).trans h1
theorem bE.draw{C:Ctx}{a:Act}{w:World}{D:kV}(h:bE C a w D):bE C a { w with drawn:=w.drawn+1 } D:=⟨h.defers.keep (λ_ hq _=>hq),h.size,h.keep,h.oth,h.pin,⟨h.below.os,h.below.tape,h.below.output,h.below.size,h.below.block,h.below.shape⟩,h.dmono,h.dnew,h.dok.kept (Nat.le_refl _) λ_ _ _ _=>rfl⟩
theorem blk_heap{w:World}{D:kV}{β:kX}{k b:Nat}{cs:List SV}(h:uE w D β k cs)(hk:β k=some b):(∃ vs T f,w.heap[b]?=some (.cells vs T f))\/∃ ob,w.heap[b]?=some ob/\Obj.isMp ob=true:=by
 rcases h with (⟨h1,_⟩ | ⟨b',ob,h1,h2,h3,_⟩) | ⟨b',vs,T,h1,h2,_⟩
 ·rw[hk] at h1;cases h1
 ·rw[hk] at h1;injection h1 with h1;subst h1;exact .inr ⟨ob,h2,h3⟩
 ·rw[hk] at h1;injection h1 with h1;subst h1;exact .inl ⟨vs,T,_,h2⟩
theorem below_draw(w:World):Below w.heap.size w { w with drawn:=w.drawn+1 }:=⟨rfl,rfl,rfl,Nat.le_refl _,λ_ _=>rfl⟩
theorem rep_tup0{w:World}{D:kV}{v:Value}(h:uS w D v (.tup [])):v=.tuple #[]:=by
 cases h with
 |tup vs hl hr=>rw[eq_nil_of_length_eq_zero hl]
theorem rep_undef(w:World)(D:kV):uS w D undef (.tup []):=uS.tup [] rfl (by simp)
theorem wanted_of{ops:Array Oper}{sl:SL}{o:Oper}{a:Act}{w:World}{D:kV}{β:kX}{bv:Bool}(hg:zL ops sl o=some bv)
  (hs:∀ j want d,o.guard=some (j,want)->(ops[j]?).bind (·.dst)=some d->kZ w D β (a.tmps.getD d undef) (kD sl d)):Region.wanted o (yielded ops a.tmps)=bv:=by
 unfold zL at hg
 unfold Region.wanted
 cases h:o.guard with
 |none=>simp [h] at hg;simp [hg]
 |some p=>
  obtain ⟨j,want⟩:=p
  simp only[h] at hg
  cases hj:(ops[j]?).bind (·.dst) with
  |none=>simp [hj] at hg
  |some d=>
   have hr:=hs j want d h hj
   simp only[hj] at hg
   split at hg
   ·rename_i b hb
    rw[hb] at hr
    have hv:=rep_bool hr
    have hx:a.tmps[d]?=some (.bool b):=by
     rw[Array.getD_eq_getD_getElem?] at hv
     cases hq:a.tmps[d]? with
     |none=>simp [hq,undef] at hv
     |some u=>simp [hq] at hv;rw[hv]
    injection hg with hg
    subst hg
    simp [yielded,hj,hx]
   ·rename_i hb
    rw[hb] at hr
    have hv:a.tmps.getD d undef=.tuple #[]:=rep_tup0 hr
    injection hg with hg
    subst hg
    have hx:yielded ops a.tmps j=none:=by
     unfold yielded
     rw[hj]
     rw[Array.getD_eq_getD_getElem?] at hv
     cases hq:a.tmps[d]? with
     |none=>simp [hq]
     |some u=>simp [hq] at hv;simp [hq,hv]
    simp [hx]
   ·cases hg
inductive Step (P:Program) (n:Fr) (ops:Array Oper) (st:PS) (o:Oper):PS->Prop
 |e {rd:List (Nat × List SV)} {x:SV} (h:uP P o (kD st.sl) rd x) (hg:zL ops st.sl o=some true) (hd:nE n o.dst=true) (hrd:∀ p∈rd,kC st.bs p.1=some p.2):Step P n ops st o ⟨bD o.dst x st.sl,st.bs⟩
 |n {k:Nat} {cs:List SV} {x:SV} (h:NOk P o (kD st.sl) k cs x) (hg:zL ops st.sl o=some true) (hd:nE n o.dst=true) (hf:gN k st=true):Step P n ops st o ⟨bD o.dst x st.sl,(k,some cs)::st.bs⟩
 |t {k:Nat} {old cs:List SV} (h:TOk P o (kD st.sl) k old cs) (hg:zL ops st.sl o=some true) (hd:nE n o.dst=true) (hb:kC st.bs k=some old):Step P n ops st o ⟨bD o.dst .junk st.sl,(k,some cs)::st.bs⟩
 |skip (hg:zL ops st.sl o=some false) (hd:nE n o.dst=true):Step P n ops st o ⟨bD o.dst (.d (.tup [])) st.sl,st.bs⟩
 |sem {st':PS} (h:∀ (C:Ctx) (a:Act) (w:World) (Q:Exit->Act->World->Prop),C.n=n->dQ C a w st->o.wp P a w (λa' w'=>dQ C a' w' st') Q) (hg:zL ops st.sl o=some true):Step P n ops st o st'
inductive Steps (P:Program) (n:Fr) (ops:Array Oper):PS->List Oper->PS->Prop
 |nil {st:PS}:Steps P n ops st [] st
 |cons {st st1 st2:PS} {o:Oper} {l:List Oper} (h:Step P n ops st o st1) (hr:Steps P n ops st1 l st2):Steps P n ops st (o::l) st2
theorem lL{k:Nat}{st:PS}(h:gN k st=true)(t:Nat):(kD st.sl t).names k=false:=by
 simp only[gN,Bool.and_eq_true,all_eq_true] at h
 have:∀ (l:SL),(∀ p∈l,(!p.2.names k)=true)->(kD l t).names k=false:=by
  intro l
  induction l with
  |nil=>intro _;rfl
  |cons p l ih=>
   intro hl
   obtain ⟨j,x⟩:=p
   rw[qQ]
   split
   ·simpa using hl (j,x) (by simp)
   ·exact ih λq hq=>hl q (by simp [hq])
 exact this st.sl h.1
theorem aA{bs:BS}{k:Nat}{c:List SV}(h:kC bs k=some c):(k,some c)∈bs:=by
 induction bs with
 |nil=>simp [kC] at h
 |cons p bs ih=>
  obtain ⟨j,x⟩:=p
  rw[jI] at h
  split at h
  ·rename_i e;subst e;subst h;simp
  ·exact mem_cons_of_mem _ (ih h)
theorem bP{k:Nat}{st:PS}(h:gN k st=true){j:Nat}{c:List SV}(hj:kC st.bs j=some c):j≠k/\qI k c=false:=by
 simp only[gN,Bool.and_eq_true,all_eq_true] at h
 have:=h.2 _ (aA hj)
 simp only[Bool.not_eq_true'] at this
 refine ⟨fH this.1,this.2⟩
theorem Mem.new{w w':World}{D D':kV}{β:kX}{bs:BS}{k b:Nat}{cs:List SV}(h:Mem w D β bs)(hb:Below w.heap.size w w')(hu:aJ D D' w w')(hD:iU D w)(hge:w.heap.size<=b)
  (hn:∀ j c,kC bs j=some c->j≠k/\qI k c=false) (hk:uE w' D' (β.set k b) k cs):Mem w' D' (β.set k b) ((k,some cs)::bs):=by
 have hβ:∀ j,j≠k->(β.set k b) j=β j:=λj hj=>by simp [kX.set,hj]
 have hlt:∀ j c,kC bs j=some c->∀ b',β j=some b'->b'<w.heap.size\/c=[]:=λj c hj b' hb'=>by
  rcases h.ok j c hj with (⟨h1,_⟩ | ⟨b2,ob,h1,h2,_⟩) | ⟨b2,vs,T,h1,h2,_⟩
  ·rw[h1] at hb';cases hb'
  ·rw[h1] at hb';injection hb' with e;subst e;exact .inl (qW h2)
  ·rw[h1] at hb';injection hb' with e;subst e;exact .inl (qW h2)
 have hlt':∀ j c,kC bs j=some c->∀ b',β j=some b'->b'<w.heap.size:=λj c hj b' hb'=>by
  rcases h.ok j c hj with (⟨h1,_⟩ | ⟨b2,ob,h1,h2,_⟩) | ⟨b2,vs,T,h1,h2,_⟩
  ·rw[h1] at hb';cases hb'
  ·rw[h1] at hb';injection hb' with e;subst e;exact qW h2
  ·rw[h1] at hb';injection hb' with e;subst e;exact qW h2
 refine ⟨λj c hj=>?_,λj1 j2 c1 c2 h1 h2 b' e1 e2=>?_⟩
 ·rw[jI] at hj
  split at hj
  ·rename_i e;subst e;injection hj with hj;subst hj;exact hk
  ·obtain ⟨hne,hna⟩:=hn j c hj
   exact ((h.ok j c hj).up hb hu hD).frame hβ hne hna
 ·rw[jI] at h1 h2
  by_cases c1':k=j1<;>by_cases c2':k=j2
  ·omega
  ·rw[if_neg c2'] at h2
   subst c1'
   rw[hβ j2 (λe=>c2' e.symm)] at e2
   have:=hlt' j2 _ h2 b' e2
   simp [kX.set] at e1
   omega
  ·rw[if_neg c1'] at h1
   subst c2'
   rw[hβ j1 (λe=>c1' e.symm)] at e1
   have:=hlt' j1 _ h1 b' e1
   simp [kX.set] at e2
   omega
  ·rw[if_neg c1'] at h1
   rw[if_neg c2'] at h2
   rw[hβ j1 (λe=>c1' e.symm)] at e1
   rw[hβ j2 (λe=>c2' e.symm)] at e2
   exact h.inj j1 j2 _ _ h1 h2 b' e1 e2
theorem Mem.write{w w':World}{D:kV}{β:kX}{bs:BS}{k b:Nat}{old cs:List SV}(h:Mem w D β bs)(hw:Wrote b w w')(hp:∀ t o,¬ D t b o)(hkb:β k=some b)(oE:kC bs k=some old)(hk:uE w' D β k cs):Mem w' D β ((k,some cs)::bs):=by
 refine ⟨λj c hj=>?_,λj1 j2 c1 c2 h1 h2 b' e1 e2=>?_⟩
 ·rw[jI] at hj
  split at hj
  ·rename_i e;subst e;injection hj with hj;subst hj;exact hk
  ·rename_i hne
   exact hw.blk hp (λe=>hne (h.inj k j _ _ oE hj b hkb e)) (h.ok j c hj)
 ·have g:∀ j c,kC ((k,some cs)::bs) j=some c->∃ c',kC bs j=some c':=λj c hj=>by
   rw[jI] at hj
   split at hj
   ·rename_i e;subst e;exact ⟨_,oE⟩
   ·exact ⟨_,hj⟩
  obtain ⟨d1,g1⟩:=g j1 c1 h1
  obtain ⟨d2,g2⟩:=g j2 c2 h2
  exact h.inj j1 j2 d1 d2 g1 g2 b' e1 e2
section
variable {P:Program} {n:Fr} {ops:Array Oper} {C:Ctx}
theorem step_sound{st st':PS}{o:Oper}(h:Step P n ops st o st')(hn:C.n=n){a:Act}{w:World}(hs:dQ C a w st){Q:Exit->Act->World->Prop}{K:Act->World->Prop}(hk:∀ a' w',dQ C a' w' st'->K a' w') :
  if Region.wanted o (yielded ops a.tmps) then o.wp P a w K Q else K (a.put o.dst undef) w:=by
 have hsim:=hs
 obtain ⟨D,β,hs⟩:=hs
 have hop:Opnds w D β a o (kD st.sl):=λy _=>by
  cases y with
  |tmp t=>exact hs.slots t
  |const v=>exact uS.val v
  |func f=>exact uS.val _
  |global g=>trivial
 have hwant:∀ bv,zL ops st.sl o=some bv->Region.wanted o (yielded ops a.tmps)=bv:=λbv hg=>wanted_of hg λj want d _ _=>hs.slots d
 subst hn
 cases h with
 |e h hg hd hrd=>
  rename_i rd x
  rw[hwant true hg,if_pos rfl]
  refine Oper.wp_mono (λa' w' hp=>hk a' w' ?_) (h a w D β Q hop (λp hp=>hs.mem.ok _ _ (hrd p hp)) hs.base.dok)
  obtain ⟨v,D',rfl,h1,h2,h3⟩:=hp
  refine ⟨D',β,(hs.base.up h1 h2).put hd _,hs.mem.up h1 h2 hs.base.dok,hs.high,λt=>?_⟩
  rw[vO hs.base.size hd,vC]
  split
  ·exact h3
  ·exact (hs.slots t).up h1 h2 hs.base.dok
 |n h hg hd hf=>
  rename_i k cs x
  rw[hwant true hg,if_pos rfl]
  refine Oper.wp_mono (λa' w' hp=>hk a' w' ?_) (h a w D β Q hop hs.base.dok)
  obtain ⟨v,D',b,rfl,h1,h2,h3,h4,h5,h6,h7⟩:=hp
  have hβ:∀ j,j≠k->(β.set k b) j=β j:=λj hj=>by simp [kX.set,hj]
  refine ⟨D',β.set k b,(hs.base.up h1 h2).put hd _,hs.mem.new h1 h2 hs.base.dok h3 (λj c hj=>bP hf hj) h6,λj c hj b' hb'=>?_,λt=>?_⟩
  ·rw[jI] at hj
   split at hj
   ·rename_i e;subst e
    simp [kX.set] at hb'
    subst hb'
    exact hs.base.fresh h3
   ·rename_i hne
    rw[hβ j (λe=>hne e.symm)] at hb'
    exact hs.high j c hj b' hb'
  ·rw[vO hs.base.size hd,vC]
   split
   ·exact h7
   ·exact ((hs.slots t).up h1 h2 hs.base.dok).frame hβ (lL hf t)
 |t h hg hd hb=>
  rename_i k old cs
  rw[hwant true hg,if_pos rfl]
  refine Oper.wp_mono (λa' w' hp=>hk a' w' ?_) (h a w D β Q hop (hs.mem.ok _ _ hb) hs.base.dok)
  obtain ⟨rfl,b,h1,h2,h3,h4⟩:=hp
  refine ⟨D,β,(hs.base.wrote h2 (hs.high k _ hb b h1) (blk_heap (hs.mem.ok _ _ hb) h1) h3).put hd _,hs.mem.write h2 h3 h1 hb h4,λj c hj b' hb'=>?_,λt=>?_⟩
  ·rw[jI] at hj
   split at hj
   ·rename_i e;subst e;exact hs.high k _ hb b' hb'
   ·exact hs.high j c hj b' hb'
  ·rw[vO hs.base.size hd,vC]
   split
   ·trivial
   ·exact h2.repS h3 (hs.slots t)
 |skip hg hd=>
  rw[hwant false hg]
  refine hk _ _ ⟨D,β,hs.base.put hd _,hs.mem,hs.high,λt=>?_⟩
  rw[vO hs.base.size hd,vC]
  split
  ·exact rep_undef _ _
  ·exact hs.slots t
 |sem h hg=>
  rw[hwant true hg,if_pos rfl]
  exact Oper.wp_mono (λa' w' hp=>hk a' w' hp) (h C a w Q rfl hsim)
def fen(n:Fr):Fence:={ Fence.wide with round:=n.rd }
def yZ(o:Oper):Bool:=match o.op with
 |.defer _=>false
 |_=>true
theorem oD{N:Nat}{o:Oper}{a:Act}{w:World}{K:Act->World->Prop}{Q:Exit->Act->World->Prop}(hp:yZ o=true)(h:o.wp P a w K Q):o.wpIn (fen n) N P a w K Q:=by
 have hne:∀ c,o.op≠.defer c:=λc e=>by simp [yZ,e] at hp
 refine ⟨λ_ _=>trivial,?_⟩
 rw[Oper.semAt_eq _ _ _ hne]
 unfold Oper.wp at h
 generalize (execOp a.eval o).run P w=r at h
 cases r with
 |ok x w'=>
  cases x<;>simp only[Oper.upon] at h
  case value v=>exact h
  case skip=>exact h
  case defer d=>exact h
  case enter f args=>exact ⟨λe=>by simp [fen,Fence.wide] at e,callsIn_wide.2 h⟩
  case row row args=>
   refine ⟨λe=>by simp [fen,Fence.wide] at e,λc cs _=>?_⟩
   obtain ⟨v,w'',h1,h2⟩:=h c cs
   exact ⟨v,w'',h1,stepsIn_wide.2 h2⟩
 |halt x w'=>cases x<;>simp only[Oper.upon] at h;exact h
theorem steps_sound{st st':PS}{l:List Oper}(h:Steps P n ops st l st')(hp:l.all yZ=true)(hn:C.n=n){N:Nat}{Q:Exit->Act->World->Prop}(hk:∀ a' w',dQ C a' w' st'->Q .normal a' w'):∀ {a:Act} {w:World},dQ C a w st->wpListIn (fen n) N P ops Q l a w:=by
 induction h with
 |nil=>intro a w hs;exact wpListIn_nil (hk a w hs)
 |cons h hr ih=>
  intro a w hs
  simp only[all_cons,Bool.and_eq_true] at hp
  refine wpListIn_step λK hK=>?_
  have h1:=step_sound h hn hs (Q:=Q) λa' w' hs'=>hK a' w' (ih hp.2 hk hs')
  split
  ·rename_i e;rw[if_pos e] at h1;exact oD hp.1 h1
  ·rename_i e;rw[if_neg e] at h1;exact ⟨λ_ _=>trivial,h1⟩
end
end Go.Fid
