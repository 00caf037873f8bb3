/- Part 2 of a proof: rules, plain facts, and functions walked. -/
import Derived.Test.YtciingpdmjepgabGreatDoorM1
set_option linter.all false
namespace Go.Fid
open Go.RowKit (Below)
section
variable {P:Program} {o:Oper} {S:Nat->SV}
def uL(P:Program)(T:TypeId)(f:Nat):Option Nat :=
 match P.underlying T with
 |some (.struct fs)=>match fs[f]? with
  |some fl=>match P.info? fl.type with
   |some i=>if i.size=0 then none else some fl.offset
   |none=>none
  |none=>none
 |_=>none
def uB(P:Program)(T:TypeId):Option (TypeId × Nat) :=
 match P.underlying T with
 |some (.slice E)=>(P.info? E).map fun i=>(E,i.size)
 |_=>none
def intB(P:Program)(T:TypeId):Option IntKind :=
 match P.underlying T with
 |some (.int k)=>some k
 |_=>none
theorem field_of{T:TypeId}{f off:Nat}(h:uL P T f=some off):∃ fs fl i,P.underlying T=some (.struct fs)/\fs[f]?=some fl/\P.info? fl.type=some i/\i.size≠0/\fl.offset=off:=by
 unfold uL at h
 split at h
 ·rename_i fs hfs
  split at h
  ·rename_i fl hfl
   split at h
   ·rename_i i hi
    split at h
    ·cases h
    ·rename_i hne
     injection h with h
     exact ⟨fs,fl,i,hfs,hfl,hi,hne,h⟩
   ·cases h
  ·cases h
 ·cases h
theorem gQ{T E:TypeId}{s:Nat}(h:uB P T=some (E,s)):∃ i,P.underlying T=some (.slice E)/\P.info? E=some i/\i.size=s:=by
 unfold uB at h
 split at h
 ·rename_i E' hE
  rw[Option.map_eq_some_iff] at h
  obtain ⟨i,h1,h2⟩:=h
  simp only[Prod.mk.injEq] at h2
  obtain ⟨rfl,rfl⟩:=h2
  exact ⟨i,hE,h1,rfl⟩
 ·cases h
theorem int_of{T:TypeId}{k:IntKind}(h:intB P T=some k):P.underlying T=some (.int k):=by
 unfold intB at h
 split at h
 ·rename_i k' hk
  injection h with h
  rw[hk,h]
 ·cases h
theorem run_fieldAt{T:TypeId}{f off:Nat}(h:uL P T f=some off)(w:World)(a:Addr):(Instr.fieldAt T (.pointer (some a)) f).run P w=.ok (.pointer (some (a.add off))) w:=by
 obtain ⟨fs,fl,i,h1,h2,h3,h4,h5⟩:=field_of h
 simp [Instr.fieldAt,run_underlying h1,h2,Instr.sureAddr,fieldPlace,vX h3,h4,h5]
theorem e_fieldAddr_ref{T:TypeId}{x:Operand}{f off k p:Nat}(ho:o.op=.fieldAddr T x f)(hx:ev S x=.ref k p)(hf:uL P T f=some off):uC P o S [] (.ref k (p+off)) :=
 uC.same fun a w D β hop _=>by
  have hp:=hop x (by simp [ho,Op.operands])
  rw[hx] at hp
  obtain ⟨b,hb,hv⟩:=hp
  exact ⟨.pointer (some ⟨b,p+off,none⟩),by simp [execOp,ho,hv,run_fieldAt hf,Addr.add_lit],b,hb,rfl⟩
theorem e_fieldAddr_cptr{T t:TypeId}{x:Operand}{f off p:Nat}{cs:List jT}(ho:o.op=.fieldAddr T x f)(hx:ev S x=.d (.cptr t cs p))(hf:uL P T f=some off):uC P o S [] (.d (.cptr t cs (p+off))) :=
 uC.same fun a w D β hop _=>by
  have hp:=hop x (by simp [ho,Op.operands])
  rw[hx] at hp
  generalize hvv:a.eval x=v at hp
  cases hp with
  |cptr g q u hD hu h1 hr=>
   exact ⟨.pointer (some ⟨g,q+(p+off),none⟩),by simp [execOp,ho,hvv,run_fieldAt hf,Addr.add_lit,Nat.add_assoc],uN.cptr g q u hD hu h1 hr⟩
theorem run_indexAt_sl{T E:TypeId}{s:Nat}(h:uB P T=some (E,s))(w:World)(a:Addr)(n cap:Nat)(k:IntKind)(i:Int)(h0:0<=i)(h1:i<n) :
  (Instr.indexAt T (.slice (some a) n cap) (.int k i)).run P w=.ok (.pointer (some (a.add (i.toNat*s)))) w:=by
 obtain ⟨j,e1,e2,e3⟩:=gQ h
 simp [Instr.indexAt,run_underlying e1,asIntOf,h0,h1,vX e2,e3]
theorem e_index_sl{T E t:TypeId}{x ix:Operand}{s:Nat}{es:List jT}{k:IntKind}{i:Int}{e:jT}(ho:o.op=.indexAddr T x ix)(hT:uB P T=some (E,s))(hx:ev S x=.d (.sl t s es))(hi:ev S ix=.d (.val (.int k i)))
  (h0:0<=i) (he:es[i.toNat]?=some e):uC P o S [] (.d (.cptr t e.cells 0)) :=
 uC.same fun a w D β hop _=>by
  have hp:=hop x (by simp [ho,Op.operands])
  have hq:=hop ix (by simp [ho,Op.operands])
  rw[hx] at hp
  rw[hi] at hq
  have hiv:=uO hq
  have hlt:i.toNat<es.length:=(List.getElem?_eq_some_iff.1 he).1
  generalize hvv:a.eval x=v at hp
  cases hp with
  |sl g off u hn hc hm hs ha hD hu h1 hr=>
   rename_i ad n cap
   have hse:=hs e (List.mem_of_getElem? he)
   have had:=ha (by omega)
   subst had
   have hfl:=uQ hs
   have hle:i.toNat*s+s<=(kR es).length:=by
    rw[hfl]
    have:=Nat.mul_le_mul_right s (show i.toNat+1<=es.length by omega)
    rw[Nat.add_mul] at this;omega
   refine ⟨.pointer (some ⟨g,(off+i.toNat*s)+0,none⟩),?_,uN.cptr (cs:=e.cells) g (off+i.toNat*s) (fun j=>u (i.toNat*s+j)) (fun j hj=>?_) (fun j hj=>?_) (fun j hj=>?_) (fun j d hd=>?_)⟩
   ·simp [execOp,ho,hvv,hiv,run_indexAt_sl hT w ⟨g,off,none⟩ n cap k i h0 (by omega),Addr.add_lit]
   ·rw[Nat.add_assoc];exact hD _ (by omega)
   ·rw[Nat.add_assoc];exact hu _ (by omega)
   ·exact h1 _ (by omega)
   ·have hj:j<s:=by have:=(List.getElem?_eq_some_iff.1 hd).1;omega
    exact hr _ _ ((flat_get hs he hj).trans hd)
theorem e_index_own{T E t:TypeId}{x ix:Operand}{s b n:Nat}{k:IntKind}{i:Int}(ho:o.op=.indexAddr T x ix)(hT:uB P T=some (E,s))(hx:ev S x=.own b t s n)(hi:ev S ix=.d (.val (.int k i)))
  (h0:0<=i) (h1:i<n):uC P o S [] (.ref b (i.toNat*s)) :=
 uC.same fun a w D β hop _=>by
  have hp:=hop x (by simp [ho,Op.operands])
  have hq:=hop ix (by simp [ho,Op.operands])
  rw[hx] at hp
  rw[hi] at hq
  have hiv:=uO hq
  rcases hp with ⟨_,h3,_⟩ | ⟨c,cap,vs,e1,e2,_⟩
  ·omega
  ·exact ⟨.pointer (some ⟨c,i.toNat*s,none⟩),by simp [execOp,ho,e2,hiv,run_indexAt_sl hT w ⟨c,0,none⟩ n cap k i h0 h1,Addr.add_lit],c,e1,rfl⟩
theorem e_len_sl{T E t:TypeId}{x:Operand}{s:Nat}{es:List jT}(ho:o.op=.call { callee:=.builtin .len,args:=#[x],argTypes:=#[T] })(hT:uB P T=some (E,s))(hx:ev S x=.d (.sl t s es)):uC P o S [] (.d (.val (.int .i64 es.length))) :=
 uC.same fun a w D β hop _=>by
  have hp:=hop x (by simp [ho,Op.operands,Call.operands])
  rw[hx] at hp
  obtain ⟨i,e1,e2,e3⟩:=gQ hT
  generalize hvv:a.eval x=v at hp
  cases hp with
  |sl g off u hn hc hm hs ha hD hu h1 hr=>
   subst hn
   exact ⟨.int .i64 es.length,by simp [execOp,ho,resolve,invoke,builtin,hvv,Builtin.len_,run_underlying e1,goInt],.val _⟩
theorem e_len_own{T E t:TypeId}{x:Operand}{s k n:Nat}(ho:o.op=.call { callee:=.builtin .len,args:=#[x],argTypes:=#[T] })(hT:uB P T=some (E,s))(hx:ev S x=.own k t s n):uC P o S [] (.d (.val (.int .i64 n))) :=
 uC.same fun a w D β hop _=>by
  have hp:=hop x (by simp [ho,Op.operands,Call.operands])
  rw[hx] at hp
  obtain ⟨i,e1,e2,e3⟩:=gQ hT
  have:∃ q cap,a.eval x=.slice q n cap:=by
   rcases hp with ⟨_,h3,h4⟩ | ⟨c,cap,vs,_,h4,_⟩
   ·subst h3;exact ⟨_,_,h4⟩
   ·exact ⟨_,_,h4⟩
  obtain ⟨q,cap,hv⟩:=this
  exact ⟨.int .i64 n,by simp [execOp,ho,resolve,invoke,builtin,hv,Builtin.len_,run_underlying e1,goInt],.val _⟩
theorem e_not{T:TypeId}{x:Operand}{b:Bool}(ho:o.op=.unOp .not T x)(hx:ev S x=.d (.val (.bool b))):uC P o S [] (.d (.val (.bool !b))) :=
 uC.same fun a w D β hop _=>by
  have hp:=hop x (by simp [ho,Op.operands])
  rw[hx] at hp
  have hv:=uO hp
  exact ⟨.bool !b,by simp [execOp,ho,hv,Op.unary],.val _⟩
theorem e_neg{T:TypeId}{x:Operand}{k:IntKind}{n r:Int}(ho:o.op=.unOp .neg T x)(hx:ev S x=.d (.val (.int k n)))(hr:k.wrap (0-n)=r):uC P o S [] (.d (.val (.int k r))) :=
 uC.same fun a w D β hop _=>by
  have hp:=hop x (by simp [ho,Op.operands])
  rw[hx] at hp
  have hv:=uO hp
  exact ⟨.int k r,by simp only[execOp,ho,hv,Op.unary,Op.intArith];rw[hr];rfl,.val _⟩
theorem ints2{a:Act}{w:World}{D:kV}{β:kY}{x y:Operand}{op:BinOp}{T T':TypeId}{u v:Value}(ho:o.op=.binOp op T x y T')(hop:Opnds w D β a o S)(hx:ev S x=.d (.val u))(hy:ev S y=.d (.val v)):a.eval x=u/\a.eval y=v:=by
 have h1:=hop x (by simp [ho,Op.operands])
 have h2:=hop y (by simp [ho,Op.operands])
 rw[hx] at h1
 rw[hy] at h2
 exact ⟨uO h1,uO h2⟩
theorem eE{op:BinOp}{T T':TypeId}{x y:Operand}{u v r:Value}(ho:o.op=.binOp op T x y T')(hx:ev S x=.d (.val u))(hy:ev S y=.d (.val v))(hg:eqGuard op T x y u v=pure ())(hr:∀ w,(binOp op T u v).run P w=.ok r w):uC P o S [] (.d (.val r)) :=
 uC.same fun a w D β hop _=>by
  obtain ⟨h1,h2⟩:=ints2 ho hop hx hy
  exact ⟨r,by simp [execOp,ho,h1,h2,hg,hr],.val _⟩
section ints
variable {T T':TypeId} {x y:Operand} {k:IntKind} {m n r:Int}
theorem e_add(ho:o.op=.binOp .add T x y T')(hx:ev S x=.d (.val (.int k m)))(hy:ev S y=.d (.val (.int k n)))(hr:k.wrap (m+n)=r):uC P o S [] (.d (.val (.int k r))) :=
 eE ho hx hy rfl fun w=>by subst hr;simp [binOp,Op.intArith]
theorem e_sub(ho:o.op=.binOp .sub T x y T')(hx:ev S x=.d (.val (.int k m)))(hy:ev S y=.d (.val (.int k n)))(hr:k.wrap (m-n)=r):uC P o S [] (.d (.val (.int k r))) :=
 eE ho hx hy rfl fun w=>by subst hr;simp [binOp,Op.intArith]
theorem e_mul(ho:o.op=.binOp .mul T x y T')(hx:ev S x=.d (.val (.int k m)))(hy:ev S y=.d (.val (.int k n)))(hr:k.wrap (m*n)=r):uC P o S [] (.d (.val (.int k r))) :=
 eE ho hx hy rfl fun w=>by subst hr;simp [binOp,Op.intArith]
theorem e_quo(ho:o.op=.binOp .quo T x y T')(hx:ev S x=.d (.val (.int k m)))(hy:ev S y=.d (.val (.int k n)))(h0:n≠0)(hr:k.wrap (m.tdiv n)=r):uC P o S [] (.d (.val (.int k r))) :=
 eE ho hx hy rfl fun w=>by subst hr;simp [binOp,Op.intDiv,h0]
theorem e_rem(ho:o.op=.binOp .rem T x y T')(hx:ev S x=.d (.val (.int k m)))(hy:ev S y=.d (.val (.int k n)))(h0:n≠0)(hr:m.tmod n=r):uC P o S [] (.d (.val (.int k r))) :=
 eE ho hx hy rfl fun w=>by subst hr;simp [binOp,Op.intDiv,h0]
theorem e_eql(ho:o.op=.binOp .eql T x y T')(hx:ev S x=.d (.val (.int k m)))(hy:ev S y=.d (.val (.int k n))):uC P o S [] (.d (.val (.bool (m == n)))) :=
 eE ho hx hy (by simp [eqGuard]) fun w=>by simp [binOp,Op.intCmp]
theorem e_neq(ho:o.op=.binOp .neq T x y T')(hx:ev S x=.d (.val (.int k m)))(hy:ev S y=.d (.val (.int k n))):uC P o S [] (.d (.val (.bool (m != n)))) :=
 eE ho hx hy (by simp [eqGuard]) fun w=>by simp [binOp,Op.intCmp]
theorem e_lss(ho:o.op=.binOp .lss T x y T')(hx:ev S x=.d (.val (.int k m)))(hy:ev S y=.d (.val (.int k n))):uC P o S [] (.d (.val (.bool (decide (m<n))))) :=
 eE ho hx hy rfl fun w=>by simp [binOp,Op.intCmp]
theorem e_leq(ho:o.op=.binOp .leq T x y T')(hx:ev S x=.d (.val (.int k m)))(hy:ev S y=.d (.val (.int k n))):uC P o S [] (.d (.val (.bool (decide (m<=n))))) :=
 eE ho hx hy rfl fun w=>by simp [binOp,Op.intCmp]
theorem e_gtr(ho:o.op=.binOp .gtr T x y T')(hx:ev S x=.d (.val (.int k m)))(hy:ev S y=.d (.val (.int k n))):uC P o S [] (.d (.val (.bool (decide (n<m))))) :=
 eE ho hx hy rfl fun w=>by simp [binOp,Op.intCmp]
theorem e_geq(ho:o.op=.binOp .geq T x y T')(hx:ev S x=.d (.val (.int k m)))(hy:ev S y=.d (.val (.int k n))):uC P o S [] (.d (.val (.bool (decide (n<=m))))) :=
 eE ho hx hy rfl fun w=>by simp [binOp,Op.intCmp]
end ints
def boolB(P:Program)(T:TypeId):Bool :=
 match P.underlying T with
 |some .bool=>true
 |_=>false
theorem bool_of{T:TypeId}(h:boolB P T=true):P.underlying T=some .bool:=by
 unfold boolB at h
 split at h
 ·assumption
 ·cases h
theorem run_equal_bool{T:TypeId}(hT:boolB P T=true)(p q:Bool)(w:World):(Op.equal T (.bool p) (.bool q)).run P w=.ok (p == q) w:=by
 have hd:=bool_of hT
 have:∀ d:Nat,(Op.equalIn (d+1) T (.bool p) (.bool q)).run P w=.ok (p == q) w:=fun d=>by
  simp [Op.equalIn,run_underlying hd]
 exact this 9999
theorem e_eqlb{T T':TypeId}{x y:Operand}{p q:Bool}(ho:o.op=.binOp .eql T x y T')(hT:boolB P T=true)(hx:ev S x=.d (.val (.bool p)))(hy:ev S y=.d (.val (.bool q))):uC P o S [] (.d (.val (.bool (p == q)))) :=
 eE ho hx hy (by simp [eqGuard]) fun w=>by simp [binOp,run_equal_bool hT]
theorem e_neqb{T T':TypeId}{x y:Operand}{p q:Bool}(ho:o.op=.binOp .neq T x y T')(hT:boolB P T=true)(hx:ev S x=.d (.val (.bool p)))(hy:ev S y=.d (.val (.bool q))):uC P o S [] (.d (.val (.bool (!(p == q))))) :=
 eE ho hx hy (by simp [eqGuard]) fun w=>by simp [binOp,run_equal_bool hT]
theorem e_conv{src dst:TypeId}{x:Operand}{k l:IntKind}{n r:Int}(ho:o.op=.convert src dst x)(hs:(P.underlying src).isSome=true)(hd:intB P dst=some l)(hx:ev S x=.d (.val (.int k n)))(hr:l.wrap n=r):uC P o S [] (.d (.val (.int l r))) :=
 uC.same fun a w D β hop _=>by
  have hp:=hop x (by simp [ho,Op.operands])
  rw[hx] at hp
  have hv:=uO hp
  obtain ⟨d,hd'⟩:=Option.isSome_iff_exists.mp hs
  refine ⟨.int l r,?_,.val _⟩
  subst hr
  simp [execOp,ho,hv,convert,run_underlying hd',run_underlying (int_of hd),Conv.intToInt]
theorem e_max{T T':TypeId}{x y:Operand}{k:IntKind}{m n:Int}(ho:o.op=.call { callee:=.builtin .max,args:=#[x,y],argTypes:=#[T,T'] })(hx:ev S x=.d (.val (.int k m)))(hy:ev S y=.d (.val (.int k n))):uC P o S [] (.d (.val (.int k (if m<n then n else m)))) :=
 uC.same fun a w D β hop _=>by
  have h1:=hop x (by simp [ho,Op.operands,Call.operands])
  have h2:=hop y (by simp [ho,Op.operands,Call.operands])
  rw[hx] at h1
  rw[hy] at h2
  have e1:=uO h1
  have e2:=uO h2
  exact ⟨_,by simp [execOp,ho,resolve,invoke,builtin,e1,e2,Builtin.max_,Builtin.max2],.val _⟩
theorem rep_agg{w:World}{D:kV}{v:Value}{cs:List jT}(h:uN w D v (.agg cs)) :
  ∃ vs:List Value,v=.agg vs.toArray/\vs.length=cs.length/\(∀ v∈vs,v.oneCell'=true)/\∀ (i:Nat) v d,vs[i]?=some v->cs[i]?=some d->uN w D v d:=by
 cases h with
 |agg vs hl h1 hr=>exact ⟨vs,rfl,hl,h1,hr⟩
theorem rep_tup{w:World}{D:kV}{v:Value}{cs:List jT}(h:uN w D v (.tup cs)) :
  ∃ vs:List Value,v=.tuple vs.toArray/\vs.length=cs.length/\∀ (i:Nat) v d,vs[i]?=some v->cs[i]?=some d->uN w D v d:=by
 cases h with
 |tup vs hl hr=>exact ⟨vs,rfl,hl,hr⟩
theorem e_extract{x:Operand}{i:Nat}{ds:List jT}{d:jT}(ho:o.op=.extract x i)(hx:ev S x=.d (.tup ds))(hd:ds[i]?=some d):uC P o S [] (.d d) :=
 uC.same fun a w D β hop _=>by
  have hp:=hop x (by simp [ho,Op.operands])
  rw[hx] at hp
  obtain ⟨vs,hv,hl,hr⟩:=rep_tup hp
  have hi:i<vs.length:=by rw[hl];exact (List.getElem?_eq_some_iff.1 hd).1
  exact ⟨vs[i],by simp [execOp,ho,hv,Instr.extract,List.getElem?_eq_getElem hi],hr i _ _ (List.getElem?_eq_getElem hi) hd⟩
theorem run_part{t:TypeId}{agg:Bool}{sz:Nat}(hs:qD P t=some (agg,sz))(h1:agg=false->sz=1)(w:World)(D:kV){β:kY}(vs:List Value)(cs:List jT)(off:Nat)(hl:vs.length=cs.length)(eO:∀ v∈vs,v.oneCell'=true)
  (hr:∀ (i:Nat) v d,vs[i]?=some v->cs[i]?=some d->uN w D v d) (hle:off+sz<=cs.length):∃ v,(part t vs.toArray off).run P w=.ok v w/\qC w D β v (yD agg (((cs.drop off).take sz).map .d)):=by
 obtain ⟨d,i,e1,e2,e3,e4⟩:=shape_of hs
 cases agg with
 |true=>
  refine ⟨.agg ((vs.drop off).take sz).toArray,?_,repS_agg (by simp;omega) (fun v hv=>eO v (List.mem_of_mem_drop (List.mem_of_mem_take hv))) (fun j v y hv hy=>?_)⟩
  ·simp only[part,Sem.run_bind,run_isAgg e1,e3,Result.andThen_ok,if_true,vX e2,e4,Sem.run_pure]
   congr 2
   simp [List.extract_eq_take_drop]
  ·have hj:j<sz:=by
    have:=(List.getElem?_eq_some_iff.1 hv).1
    simp at this;omega
   rw[List.getElem?_map,Option.map_eq_some_iff] at hy
   obtain ⟨z,hz,rfl⟩:=hy
   rw[List.getElem?_take_of_lt hj,List.getElem?_drop] at hv hz
   exact hr _ _ _ hv hz
 |false=>
  obtain rfl:=h1 rfl
  have hlt:off<cs.length:=by omega
  have hlt':off<vs.length:=by omega
  refine ⟨vs[off],by simp [part,run_isAgg e1,e3,List.getElem?_eq_getElem hlt'],?_⟩
  have:((cs.drop off).take 1).map SV.d=[.d cs[off]]:=by
   rw[List.drop_eq_getElem_cons hlt];rfl
  rw[this]
  exact hr _ _ _ (List.getElem?_eq_getElem hlt') (List.getElem?_eq_getElem hlt)
def aP(P:Program)(T:TypeId)(f:Nat):Option (Nat × TypeId) :=
 match P.underlying T with
 |some (.struct fs)=>(fs[f]?).map fun fl=>(fl.offset,fl.type)
 |_=>none
theorem fieldT_of{T t:TypeId}{f off:Nat}(h:aP P T f=some (off,t)):∃ fs fl,P.underlying T=some (.struct fs)/\fs[f]?=some fl/\fl.offset=off/\fl.type=t:=by
 unfold aP at h
 split at h
 ·rename_i fs hfs
  rw[Option.map_eq_some_iff] at h
  obtain ⟨fl,h1,h2⟩:=h
  simp only[Prod.mk.injEq] at h2
  exact ⟨fs,fl,hfs,h1,h2.1,h2.2⟩
 ·cases h
theorem e_field{T t:TypeId}{x:Operand}{f off sz:Nat}{agg:Bool}{cs:List jT}(ho:o.op=.field T x f)(hx:ev S x=.d (.agg cs))(hf:aP P T f=some (off,t))(hs:qD P t=some (agg,sz))(h1:agg=false->sz=1)(hle:off+sz<=cs.length) :
  uC P o S [] (yD agg (((cs.drop off).take sz).map .d)) :=
 uC.same fun a w D β hop _=>by
  have hp:=hop x (by simp [ho,Op.operands])
  rw[hx] at hp
  obtain ⟨vs,hv,hl,eO,hr⟩:=rep_agg hp
  obtain ⟨fs,fl,e1,e2,e3,e4⟩:=fieldT_of hf
  subst e3;subst e4
  obtain ⟨v,h2,h3⟩:=run_part (β:=β) hs h1 w D vs cs fl.offset hl eO hr hle
  exact ⟨v,by simp [execOp,ho,hv,Instr.field,run_underlying e1,e2,asAgg,h2],h3⟩
end
section
variable {P:Program} {o:Oper} {S:Nat->SV}
def jT.ok1:jT->Bool
 |.val u=>u.oneCell'
 |.tup _=>false
 |_=>true
theorem cells_one{v:Value}(h:v.oneCell'=true):v.cells=#[v]:=by cases v<;>first | rfl | (simp [Value.oneCell'] at h)
theorem aW{w:World}{D:kV}{v:Value}{d:jT}(h:uN w D v d)(h1:d.ok1=true) :
  ∃ vs:List Value,v.cells=vs.toArray/\vs.length=d.cells.length/\(∀ v∈vs,v.oneCell'=true)/\∀ (i:Nat) v y,vs[i]?=some v->d.cells[i]?=some y->uN w D v y:=by
 have one:v.oneCell'=true->d.cells=[d]->_:=fun ho hc=>(⟨[v],by simp [cells_one ho],by simp [hc],by simpa using ho,fun i u y hu hy=>by
  rw[hc] at hy
  cases i with
  |zero=>simp at hu hy;subst hu;subst hy;exact h
  |succ i=>simp at hu⟩:∃ vs:List Value,v.cells=vs.toArray/\vs.length=d.cells.length/\(∀ v∈vs,v.oneCell'=true)/\∀ (i:Nat) v y,vs[i]?=some v->d.cells[i]?=some y->uN w D v y)
 cases h with
 |val v=>exact one h1 rfl
 |sl g off u hn hc hm hs ha hD hu h1' hr=>exact one rfl rfl
 |agg vs hl h1' hr=>exact ⟨vs,rfl,hl,h1',hr⟩
 |tup vs hl hr=>simp [jT.ok1] at h1
 |cptr g p u hD hu h1' hr=>exact one rfl rfl
 |clo vs hl hr=>exact one rfl rfl
def dV:List Value->List jT->Prop
 |[],[]=>True
 |v::vs,d::ds=>((d=.val v/\v.oneCell'=true)\/(v=.slice none 0 0/\∃ t s,d=.sl t s []))/\dV vs ds
 |_,_=>False
theorem fT{w:World}{D:kV}:∀ {vs:List Value} {ds:List jT},dV vs ds->vs.length=ds.length/\(∀ v∈vs,v.oneCell'=true)/\∀ (i:Nat) v d,vs[i]?=some v->ds[i]?=some d->uN w D v d
 |[],[],_=>⟨rfl,by simp,by simp⟩
 |v::vs,d::ds,⟨h,hr⟩=>by
  obtain ⟨h1,h2,h3⟩:=fT (w:=w) (D:=D) hr
  refine ⟨by simp [h1],fun u hu=>?_,fun i u e hu he=>?_⟩
  ·rcases List.mem_cons.1 hu with rfl | hu
   ·rcases h with ⟨_,h⟩ | ⟨rfl,_⟩
    ·exact h
    ·rfl
   ·exact h2 u hu
  ·cases i with
   |zero=>
    simp at hu he
    subst hu;subst he
    rcases h with ⟨rfl,_⟩ | ⟨rfl,t,s,rfl⟩
    ·exact .val _
    ·exact eX w D t s
   |succ i=>exact h3 i u e (by simpa using hu) (by simpa using he)
 |[],_::_,h=>h.elim
 |_::_,[],h=>h.elim
def vP(P:Program)(T:TypeId):Option (List Value) :=
 match P.info? T with
 |some i=>i.zero.map fun z=>z.cells.toList
 |none=>none
theorem eZ{T:TypeId}{vs:List Value}(h:vP P T=some vs):∃ i z,P.info? T=some i/\i.zero=some z/\z.cells=vs.toArray:=by
 unfold vP at h
 split at h
 ·rename_i i hi
  rw[Option.map_eq_some_iff] at h
  obtain ⟨z,h1,h2⟩:=h
  exact ⟨i,z,hi,h1,by rw[<- h2]⟩
 ·cases h
theorem run_zero{T:TypeId}{i:TypeInfo}{z:Value}(h:P.info? T=some i)(hz:i.zero=some z)(w:World):(zeroValue T).run P w=.ok z w:=by
 simp [zeroValue,typeInfo,h,hz]
def patch{α:Type}(l:List α)(off:Nat)(new:List α):List α:=l.take off++new++l.drop (off+new.length)
theorem yN{α:Type}{l:List α}{off:Nat}{new:List α}(h:off+new.length<=l.length):(patch l off new).length=l.length:=by
 simp [patch];omega
theorem yS{α:Type}{l:List α}{off:Nat}{new:List α}(h:off+new.length<=l.length)(i:Nat):(patch l off new)[i]?=if i<off then l[i]? else if i<off+new.length then new[i-off]? else l[i]?:=by
 unfold patch
 rw[List.append_assoc]
 by_cases h1:i<off
 ·rw[if_pos h1,List.getElem?_append_left (by simp;omega),List.getElem?_take_of_lt h1]
 ·rw[if_neg h1,List.getElem?_append_right (by simp;omega)]
  have e1:i-(l.take off).length=i-off:=by simp;omega
  rw[e1]
  by_cases h2:i<off+new.length
  ·rw[if_pos h2,List.getElem?_append_left (by omega)]
  ·rw[if_neg h2,List.getElem?_append_right (by omega),List.getElem?_drop]
   congr 1;omega
theorem foldl_set(off:Nat):∀ (new:List Value) (j:Nat) (cs:Array Value),off+j+new.length<=cs.size->((new.zipIdx j).foldl (fun cs (c,j)=>cs.setIfInBounds (off+j) c) cs).toList=patch cs.toList (off+j) new
 |[],j,cs,_=>by simp [patch]
 |c::new,j,cs,h=>by
  simp only[List.length_cons] at h
  rw[List.zipIdx_cons,List.foldl_cons,foldl_set off new (j+1) _ (by simp;omega)]
  apply List.ext_getElem?
  intro i
  rw[yS (by simp;omega),yS (by simp;omega)]
  simp only[Array.toList_setIfInBounds,List.length_cons]
  by_cases h1:i<off+j
  ·rw[if_pos (by omega),if_pos h1,List.getElem?_set_ne (by omega)]
  ·rw[if_neg h1]
   by_cases h2:i=off+j
   ·subst h2
    rw[if_pos (by omega),if_pos (by omega),List.getElem?_set_self (by simp;omega)]
    simp
   ·by_cases h3:i<off+j+(new.length+1)
    ·rw[if_neg (by omega),if_pos (by omega),if_pos h3]
     obtain ⟨q,hq⟩:∃ q,i-(off+j)=q+1:=⟨i-(off+j)-1,by omega⟩
     rw[hq,List.getElem?_cons_succ]
     congr 1;omega
    ·rw[if_neg (by omega),if_neg (by omega),if_neg h3,List.getElem?_set_ne (by omega)]
def fU{α:Type}(place:Nat->Option (Nat × Nat))(cells:List α):List (Nat × List α)->Option (List α)
 |[]=>some cells
 |(i,l)::vH=>
  match place i with
  |none=>none
  |some (off,size)=>bif Nat.beq l.length size&&Nat.ble (off+l.length) cells.length then fU place (patch cells off l) vH else none
def RepL(w:World)(D:kV)(vs:List Value)(ds:List jT):Prop:=vs.length=ds.length/\(∀ v∈vs,v.oneCell'=true)/\∀ (i:Nat) v d,vs[i]?=some v->ds[i]?=some d->uN w D v d
theorem repL_zero{w:World}{D:kV}{zv:List Value}{zd:List jT}(h:dV zv zd):RepL w D zv.toArray.toList zd:=by
 rw[List.toList_toArray]
 exact fT h
theorem RepL.patch{w:World}{D:kV}{vs us:List Value}{ds es:List jT}{off:Nat}(h:RepL w D vs ds)(k:RepL w D us es)(hle:off+es.length<=ds.length):RepL w D (patch vs off us) (patch ds off es):=by
 obtain ⟨h1,h2,h3⟩:=h
 obtain ⟨k1,k2,k3⟩:=k
 refine ⟨?_,fun v hv=>?_,fun i v d hv hd=>?_⟩
 ·rw[yN (by omega),yN hle,h1]
 ·simp only[Fid.patch,List.append_assoc,List.mem_append] at hv
  rcases hv with hv | hv | hv
  ·exact h2 v (List.mem_of_mem_take hv)
  ·exact k2 v hv
  ·exact h2 v (List.mem_of_mem_drop hv)
 ·rw[yS (by omega)] at hv
  rw[yS hle] at hd
  by_cases c1:i<off
  ·rw[if_pos c1] at hv hd;exact h3 i v d hv hd
  ·rw[if_neg c1] at hv hd
   rw[k1] at hv
   by_cases c2:i<off+es.length
   ·rw[if_pos c2] at hv hd;exact k3 _ v d hv hd
   ·rw[if_neg c2] at hv hd;exact h3 i v d hv hd
theorem fill_spec{w:World}{D:kV}(place:Nat->Option (Nat × Nat)):∀ (ps:List (Nat × Value)) (pd:List (Nat × List jT)) (cs:Array Value) (ds r:List jT),
  ps.map (·.1)=pd.map (·.1)->(∀ (i:Nat) p q,ps[i]?=some p->pd[i]?=some q->∃ vs:List Value,p.2.cells=vs.toArray/\RepL w D vs q.2)->RepL w D cs.toList ds->fU place ds pd=some r ->
  ∃ cs',Instr.fill place cs ps=some cs'/\RepL w D cs'.toList r
 |[],[],cs,ds,r,_,_,h,hf=>by simp [fU] at hf;subst hf;exact ⟨cs,rfl,h⟩
 |[],_::_,_,_,_,hm,_,_,_=>by simp at hm
 |_::_,[],_,_,_,hm,_,_,_=>by simp at hm
 |(i,v)::ps,(j,l)::pd,cs,ds,r,hm,hp,h,hf=>by
  simp only[List.map_cons,List.cons.injEq] at hm
  obtain ⟨rfl,hm⟩:=hm
  obtain ⟨vs,e1,e2⟩:=hp 0 (i,v) (i,l) rfl rfl
  simp only[fU] at hf
  cases hpl:place i with
  |none=>simp [hpl] at hf
  |some os=>
   obtain ⟨off,size⟩:=os
   simp only[hpl] at hf
   cases hc:(Nat.beq l.length size&&Nat.ble (off+l.length) ds.length) with
   |false=>simp [hc] at hf
   |true=>
    simp only[hc,cond_true] at hf
    simp only[Bool.and_eq_true] at hc
    have hs:l.length=size:=Nat.eq_of_beq_eq_true hc.1
    have hle:off+l.length<=ds.length:=Nat.le_of_ble_eq_true hc.2
    have e1':v.cells=vs.toArray:=e1
    have hvl:vs.length=l.length:=e2.1
    have hcl:cs.size=ds.length:=by have:=h.1;simpa using this
    have hfold:=foldl_set off vs 0 cs (by omega)
    have hnew:RepL w D ((vs.zipIdx 0).foldl (fun cs (c,j)=>cs.setIfInBounds (off+j) c) cs).toList (Fid.patch ds off l):=by
     rw[hfold,Nat.add_zero]
     exact h.patch e2 hle
    obtain ⟨cs',f1,f2⟩:=fill_spec place ps pd _ (Fid.patch ds off l) r hm (fun i p q a b=>hp (i+1) p q (by simpa using a) (by simpa using b)) hnew hf
    refine ⟨cs',?_,f2⟩
    simp only[Instr.fill,hpl,e1']
    rw[if_neg (by simp;omega)]
    have:(vs.toArray.zipIdx.foldl (fun cs (c,j)=>cs.setIfInBounds (off+j) c) cs)=((vs.zipIdx 0).foldl (fun cs (c,j)=>cs.setIfInBounds (off+j) c) cs):=by
     rw[<- Array.foldl_toList];simp
    rw[this]
    exact f1
def mP(P:Program)(T:TypeId):Option (List (Nat × Nat)) :=
 match P.underlying T with
 |some (.struct fs)=>fs.toList.mapM fun f=>(P.info? f.type).map fun i=>(f.offset,i.size)
 |_=>none
theorem run_places(fs:List Field):∀ {l:List (Nat × Nat)},(fs.mapM fun f=>(P.info? f.type).map fun i=>(f.offset,i.size))=some l->∀ w,(fs.mapM (fun f=>do pure (f.offset,<- sizeOf f.type):Field->Sem (Nat × Nat))).run P w=.ok l w:=by
 induction fs with
 |nil=>intro l h w;simp at h;subst h;simp
 |cons f fs ih=>
  intro l h w
  simp only[List.mapM_cons,Option.bind_eq_bind,Option.bind_eq_some_iff,Option.map_eq_some_iff,Option.pure_def,Option.some.injEq] at h
  obtain ⟨x,⟨i,h1,rfl⟩,l',h2,rfl⟩:=h
  simp only[List.mapM_cons,Sem.run_bind,vX h1,Result.andThen_ok,Sem.run_pure,ih h2]
theorem opnds_parts{a:Act}{w:World}{D:kV}{ps:List (Nat × Operand)}{pd:List (Nat × jT)}(hps:ps.map (fun p=>(p.1,ev S p.2))=pd.map (fun p=>(p.1,.d p.2)))(hok:pd.all (fun p=>p.2.ok1)=true)
  {β:kY} (hop:∀ p∈ps,qC w D β (a.eval p.2) (ev S p.2)):(ps.map fun p=>(p.1,a.eval p.2)).map (·.1)=(pd.map fun p=>(p.1,p.2.cells)).map (·.1) /\
   ∀ (i:Nat) p q,(ps.map fun p=>(p.1,a.eval p.2))[i]?=some p->(pd.map fun p=>(p.1,p.2.cells))[i]?=some q->∃ vs:List Value,p.2.cells=vs.toArray/\RepL w D vs q.2:=by
 constructor
 ·have:=congrArg (List.map (fun x:Nat × SV=>x.1)) hps
  simpa [List.map_map,Function.comp_def] using this
 ·intro i p q hp hq
  rw[List.getElem?_map,Option.map_eq_some_iff] at hp hq
  obtain ⟨p',hp',rfl⟩:=hp
  obtain ⟨q',hq',rfl⟩:=hq
  have hi:=congrArg (fun l:List (Nat × SV)=>l[i]?) hps
  simp only[List.getElem?_map,hp',hq',Option.map_some,Option.some.injEq,Prod.mk.injEq] at hi
  have hr:=hop p' (List.mem_of_getElem? hp')
  rw[hi.2] at hr
  have h1:q'.2.ok1=true:=by
   rw[List.all_eq_true] at hok
   exact hok q' (List.mem_of_getElem? hq')
  obtain ⟨vs,e1,e2,e3,e4⟩:=aW hr h1
  exact ⟨vs,e1,e2,e3,e4⟩
theorem repL_agg{w:World}{D:kV}{β:kY}{vs:Array Value}{ds:List jT}(h:RepL w D vs.toList ds):qC w D β (.agg vs) (.d (.agg ds)) :=
 (uN.agg vs.toList h.1 h.2.1 h.2.2:uN w D (.agg vs.toList.toArray) (.agg ds))
theorem e_build{T:TypeId}{ps:List (Nat × Operand)}{pd:List (Nat × jT)}{pl:List (Nat × Nat)}{zv:List Value}{zd r:List jT}(ho:o.op=.build T ps.toArray)(hT:mP P T=some pl)(hz:vP P T=some zv)(hzd:dV zv zd)
  (hps:ps.map (fun p=>(p.1,ev S p.2))=pd.map (fun p=>(p.1,.d p.2))) (hok:pd.all (fun p=>p.2.ok1)=true) (hr:fU (fun i=>pl[i]?) zd (pd.map fun p=>(p.1,p.2.cells))=some r):uC P o S [] (.d (.agg r)) :=
 uC.same fun a w D β hop _=>by
  obtain ⟨i,z,z1,z2,z3⟩:=eZ hz
  unfold mP at hT
  split at hT
  case h_2=>cases hT
  rename_i fs hfs
  have hpl:=run_places (P:=P) fs.toList hT w
  obtain ⟨q1,q2⟩:=opnds_parts (a:=a) (w:=w) (D:=D) (β:=β) hps hok (fun p hp=>hop p.2 (by
   simp only[ho,Op.operands]
   exact List.mem_toArray.2 (by simpa using List.mem_map_of_mem (f:=(·.2)) hp)))
  obtain ⟨cs',f1,f2⟩:=fill_spec (fun i=>pl[i]?) _ _ zv.toArray zd r q1 q2 (repL_zero hzd) hr
  refine ⟨.agg cs',?_,repL_agg f2⟩
  have hm:(fs.mapM (fun f=>do pure (f.offset,<- sizeOf f.type):Field->Sem (Nat × Nat))).run P w=.ok pl.toArray w:=by
   rw[Array.mapM_eq_mapM_toList,Sem.run_map,hpl]
   rfl
  have hpp:(ps.toArray.map fun p=>(p.1,a.eval p.2)).toList=ps.map fun p=>(p.1,a.eval p.2):=by simp
  simp only[execOp,ho,Instr.build,Sem.run_bind,run_zero z1 z2,Result.andThen_ok,run_underlying hfs,hm,z3]
  have hf':Instr.fill (fun x=>pl.toArray[x]?) zv.toArray ((ps.toArray.map fun p=>(p.1,a.eval p.2)).toList)=some cs':=by
   rw[hpp]
   simpa using f1
  rw[hf']
  rfl
theorem rep_new{w:World}{D:kV}{E:TypeId}{s:Nat}{es:List jT}{cs:Array Value}(h:RepL w D cs.toList (kR es))(hs:∀ e∈es,e.cells.length=s)(hm:es.length<=maxLen)(hD:DOk D w) :
  uN (w.alloc (.cells cs E)) (fun t g p=>D t g p\/g=w.heap.size) (.slice (some ⟨w.heap.size,0,none⟩) es.length es.length) (.sl E s es):=by
 obtain ⟨h1,h2,h3⟩:=h
 have hcl:∀ i,i<(kR es).length->i<cs.size:=fun i hi=>by
  have:cs.size=(kR es).length:=by simpa using h1
  omega
 have hc:∀ i,i<(kR es).length->(w.alloc (.cells cs E)).cell? ⟨w.heap.size,i,none⟩=cs[i]?:=fun i _=>World.cell?_alloc_new w cs E i
 refine .sl w.heap.size 0 (fun i=>cs.getD i undef) rfl (Nat.le_refl _) hm hs (fun _=>rfl) (fun i _=>.inr rfl) (fun i hi=>?_) (fun i hi=>?_) (fun i d hd=>?_)
 ·rw[Nat.zero_add,hc i hi];simp [hcl i hi]
 ·have:cs.getD i undef=cs[i]'(hcl i hi):=by simp [hcl i hi]
  rw[this]
  exact h2 _ (by simp)
 ·have hi:i<(kR es).length:=(List.getElem?_eq_some_iff.1 hd).1
  refine (h3 i (cs.getD i undef) d (by simp [hcl i hi]) hd).mono fun t g p hd=>⟨.inl hd,?_⟩
  have:=hD.lt t g p hd
  exact World.cell?_alloc_lt w _ ⟨g,p,none⟩ this
theorem dup_new{D:kV}{w:World}{o:Obj}:aF D (fun t g p=>D t g p\/g=w.heap.size) w (w.alloc o) :=
 ⟨fun _ _ _ h=>.inl h,fun _ _ _ h=>h.imp id fun e=>by subst e;simp⟩
theorem cG(z:Array Value)(s n:Nat)(hz:z.size=s):((Array.range (n*s)).map (z[· % z.size]!)).toList=(List.replicate n z.toList).flatten:=by
 apply List.ext_getElem?
 intro i
 simp only[Array.toList_map,Array.toList_range,List.getElem?_map]
 rcases Nat.lt_or_ge i (n*s) with hi | hi
 ·rw[List.getElem?_range hi]
  have hs:0<s:=by
   rcases Nat.eq_zero_or_pos s with h | h
   ·subst h;simp at hi
   ·exact h
  have key:∀ (n i:Nat),i<n*s->((List.replicate n z.toList).flatten)[i]?=z[i % s]?:=by
   intro n
   induction n with
   |zero=>intro i hi;simp at hi
   |succ n ih=>
    intro i hi
    rw[List.replicate_succ,List.flatten_cons]
    by_cases h:i<s
    ·rw[List.getElem?_append_left (by simpa [hz] using h),Nat.mod_eq_of_lt h];simp
    ·rw[List.getElem?_append_right (by simp [hz];omega)]
     have e1:i-z.toList.length=i-s:=by simp [hz]
     rw[e1,ih (i-s) (by rw[Nat.add_mul] at hi;omega)]
     congr 1
     exact (Nat.mod_eq_sub_mod (by omega)).symm
  rw[key n i hi,hz]
  have hlt:i % s<z.size:=by rw[hz];exact Nat.mod_lt _ hs
  simp [hlt]
 ·rw[List.getElem?_eq_none (by simpa using hi)]
  rw[List.getElem?_eq_none]
  ·rfl
  ·simp [List.length_flatten,hz];exact hi
theorem repL_zeros{w:World}{D:kV}{zv:List Value}{zd:List jT}(h:dV zv zd)(n:Nat):RepL w D (List.replicate n zv).flatten (List.replicate n zd).flatten:=by
 obtain ⟨h1,h2,h3⟩:=fT (w:=w) (D:=D) h
 induction n with
 |zero=>exact ⟨rfl,by simp,by simp⟩
 |succ n ih=>
  obtain ⟨k1,k2,k3⟩:=ih
  rw[List.replicate_succ,List.replicate_succ,List.flatten_cons,List.flatten_cons]
  refine ⟨by simp only[List.length_append];omega,fun v hv=>?_,fun i v d hv hd=>?_⟩
  ·rcases List.mem_append.1 hv with hv | hv
   ·exact h2 v hv
   ·exact k2 v hv
  ·by_cases hi:i<zv.length
   ·rw[List.getElem?_append_left hi] at hv
    rw[List.getElem?_append_left (by omega)] at hd
    exact h3 i v d hv hd
   ·rw[List.getElem?_append_right (by omega)] at hv
    rw[List.getElem?_append_right (by omega),<- h1] at hd
    exact k3 _ v d hv hd
theorem e_buildSlice{T E:TypeId}{s len:Nat}{ps:List (Nat × Operand)}{pd:List (Nat × jT)}{zv:List Value}{zd es:List jT}(ho:o.op=.buildSlice T len ps.toArray)(hT:uB P T=some (E,s))(hz:vP P E=some zv)(hzd:dV zv zd)(hzl:zd.length=s)
  (hps:ps.map (fun p=>(p.1,ev S p.2))=pd.map (fun p=>(p.1,.d p.2))) (hok:pd.all (fun p=>p.2.ok1)=true) (hbig:len*s<=16777216) (hbig':len<=16777216) (qL:es.length=len) (hs:∀ e∈es,e.cells.length=s)
  (hr:fU (fun i=>some (i*s,s)) (List.replicate len zd).flatten (pd.map fun p=>(p.1,p.2.cells))=some (kR es)):uC P o S [] (.d (.sl E s es)) :=
 fun a w D β Q hop _ hD=>by
  obtain ⟨i,z,z1,z2,z3⟩:=eZ hz
  obtain ⟨j,e1,e2,e3⟩:=gQ hT
  have hij:i=j:=by rw[z1] at e2;injection e2
  subst hij
  obtain ⟨q1,q2⟩:=opnds_parts (a:=a) (w:=w) (D:=D) (β:=β) hps hok (fun p hp=>hop p.2 (by
   simp only[ho,Op.operands]
   exact List.mem_toArray.2 (by simpa using List.mem_map_of_mem (f:=(·.2)) hp)))
  have hzvl:zv.length=zd.length:=(fT (w:=w) (D:=D) hzd).1
  have hzs:z.cells.size=s:=by rw[z3];simp;omega
  have hrz:=cG z.cells s len hzs
  have hzero:RepL w D ((Array.range (len*s)).map (z.cells[· % z.cells.size]!)).toList (List.replicate len zd).flatten:=by
   rw[hrz,z3]
   exact repL_zeros hzd len
  obtain ⟨cs',f1,f2⟩:=fill_spec (fun i=>some (i*s,s)) _ _ _ _ _ q1 q2 hzero hr
  have hpp:(ps.toArray.map fun p=>(p.1,a.eval p.2)).toList=ps.map fun p=>(p.1,a.eval p.2):=by simp
  have hrun:(execOp a.eval o).run P w=.ok (.value (.slice (some ⟨w.heap.size,0,none⟩) len len)) (w.alloc (.cells cs' E)):=by
   by_cases h0:len*s=0
   ·rw[h0] at f1
    simp only[Array.range_zero',Array.map_empty] at f1
    simp only[execOp,ho,Instr.buildSlice,Sem.run_bind,run_underlying e1,Result.andThen_ok,vX e2,e3,h0,if_true,Array.range_zero',Array.map_empty,hpp,Sem.run_pure]
    rw[if_neg (by omega)]
    simp only[Sem.run_bind,Sem.run_pure,Result.andThen_ok,f1,newRow,run_newObj]
    rfl
   ·simp only[execOp,ho,Instr.buildSlice,Sem.run_bind,run_underlying e1,Result.andThen_ok,vX e2,e3,h0,if_false,hpp]
    rw[if_neg (by omega)]
    simp only[Sem.run_bind,Sem.run_pure,Result.andThen_ok,run_zero z1 z2,f1,newRow,run_newObj]
    rfl
  refine mF hrun ⟨_,_,rfl,(Below.refl _ _).alloc (Nat.le_refl _) _,dup_new,?_⟩
  have:=rep_new (E:=E) f2 hs (by unfold maxLen;omega) hD
  rw[qL] at this
  exact this
end
end Go.Fid
