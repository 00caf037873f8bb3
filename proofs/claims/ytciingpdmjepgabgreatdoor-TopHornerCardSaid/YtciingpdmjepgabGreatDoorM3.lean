/- Part 3 of a proof: rules, plain facts, and functions walked. -/
import Derived.Test.YtciingpdmjepgabGreatDoorM2
set_option linter.all false
namespace Go.Fid
open Go.RowKit (Below)
def callB(P:Program)(f:FuncId):Bool :=
 match P.funcs[f]? with
 | some fn => !(fn.name == "runtime.NumGoroutine") && fn.body.isSome
 |none=>false
def Args(w:World)(D:kV)(vs:List Value)(ds:List jT):Prop:=vs.length=ds.length/\∀ (i:Nat) v d,vs[i]?=some v->ds[i]?=some d->uN w D v d
def FPost(w:World)(D:kV)(r:jT)(e:Ending)(w':World):Prop:=∃ v D',e=.returned v/\Below w.heap.size w w'/\aF D D' w w'/\uN w' D' v r
structure jW (P:Program) (f:FuncId) (ds:List jT) (r:jT):Prop where
 may:callB P f=true
 run:∀ (w:World) (D:kV) (vs:List Value),DOk D w->Args w D vs ds->Calls P f vs.toArray w (FPost w D r)
section
variable {P:Program} {o:Oper} {S:Nat->SV}
theorem uY{f:FuncId}(h:callB P f=true)(args:Array Value)(w:World):(callFunc f args).run P w=.ok (.enter f args) w:=by
 unfold callB at h
 split at h
 ·rename_i fn hfn
  simp only[Bool.and_eq_true,Bool.not_eq_true'] at h
  obtain ⟨b,hb⟩:=Option.isSome_iff_exists.1 h.2
  have hne : ¬ fn.name = "runtime.NumGoroutine" := beq_eq_false_iff_ne.1 h.1
  simp [callFunc,hfn,hne,hb]
 ·cases h
theorem e_call{y:Operand}{xs:List Operand}{ats:Array TypeId}{f:FuncId}{ds:List jT}{r:jT}(ho:o.op=.call { callee:=.value y,args:=xs.toArray,argTypes:=ats })(hy:ev S y=.d (.val (.func (.func f) #[] #[])))
  (hx:xs.map (ev S)=ds.map .d) (hf:jW P f ds r):uC P o S [] (.d r) :=
 fun a w D β Q hop _ hD=>by
  have hyv:=hop y (by simp [ho,Op.operands,Call.operands])
  rw[hy] at hyv
  have hyv':=uO hyv
  have hargs:Args w D (xs.map a.eval) ds:=by
   have hl:xs.length=ds.length:=by simpa using congrArg List.length hx
   refine ⟨by simpa using hl,fun i v d hv hd=>?_⟩
   rw[List.getElem?_map,Option.map_eq_some_iff] at hv
   obtain ⟨x,hxi,rfl⟩:=hv
   have hm:=hop x (by simp [ho,Op.operands,Call.operands,List.mem_of_getElem? hxi])
   have hi:=congrArg (fun l:List SV=>l[i]?) hx
   simp only[List.getElem?_map,hxi,hd,Option.map_some,Option.some.injEq] at hi
   rw[hi] at hm
   exact hm
  have hrun:(execOp a.eval o).run P w=.ok (.enter f (xs.map a.eval).toArray) w:=by
   simp only[execOp,ho,resolve,Deferred.ofValue,hyv',Sem.run_bind,Sem.run_pure,Result.andThen_ok,invoke,Array.empty_append,Array.append_empty]
   rw[uY hf.may]
   simp
  refine cW hrun ((hf.run w D _ hD hargs).mono fun e w' h=>?_)
  obtain ⟨v,D',he,h1,h2,h3⟩:=h
  exact ⟨v,he,v,D',rfl,h1,h2,h3⟩
def optInt(S:Nat->SV)(y:Option Operand)(k:IntKind)(dflt n:Nat):Prop:=match y with
 |none=>n=dflt
 |some z=>ev S z=.d (.val (.int k (n:Int)))
theorem rep_slice{w:World}{D:kV}{a:Option Addr}{n cap:Nat}{t:TypeId}{s l h:Nat}{es:List jT}(hr:uN w D (.slice a n cap) (.sl t s es))(h1:l<=h)(h2:h<=es.length) :
  uN w D (.slice (if cap=l then a else a.map (·.add (l*s))) (h-l) (cap-l)) (.sl t s ((es.take h).drop l)):=by
 cases hr with
 |sl g off u hn hc hm hs ha hD hu h1' hr=>
  have hs':∀ e∈(es.take h).drop l,e.cells.length=s:=fun e he=>hs e (List.mem_of_mem_take (List.mem_of_mem_drop he))
  have hfl:=uQ hs
  have hfl':(kR ((es.take h).drop l)).length=(h-l)*s:=by
   rw[uQ hs'];simp only[List.length_drop,List.length_take];congr 1;omega
  have hb:∀ i,i<(kR ((es.take h).drop l)).length->l*s+i<(kR es).length:=fun i hi=>by
   rw[hfl'] at hi
   rw[hfl]
   have:(h-l)*s+l*s<=es.length*s:=by rw[<- Nat.add_mul];exact Nat.mul_le_mul_right s (by omega)
   omega
  have hget:∀ (i:Nat) d,(kR ((es.take h).drop l))[i]?=some d->(kR es)[l*s+i]?=some d:=fun i d hd=>by
   have e1:kR es=kR (es.take l)++(kR ((es.take h).drop l)++kR (es.drop h)):=by
    rw[<- eR,<- eR]
    congr 1
    have e2:es.take l=(es.take h).take l:=by rw[List.take_take];congr 1;omega
    rw[e2,<- List.append_assoc,List.take_append_drop,List.take_append_drop]
   have e3:(kR (es.take l)).length=l*s:=by
    rw[uQ (s:=s) (fun e he=>hs e (List.mem_of_mem_take he))];simp only[List.length_take];congr 1;omega
   have hi:=(List.getElem?_eq_some_iff.1 hd).1
   rw[e1,List.getElem?_append_right (by omega),e3,List.getElem?_append_left (by omega)]
   rw[<- hd];congr 1;omega
  refine .sl g (off+l*s) (fun i=>u (l*s+i)) (by simp only[List.length_drop,List.length_take];omega) (by omega) (by omega) hs' (fun h0=>?_) (fun i hi=>?_) (fun i hi=>?_) (fun i hi=>h1' _ (hb i hi)) (fun i d hd=>hr _ _ (hget i d hd))
  ·rw[if_neg (by omega),ha (by omega)]
   simp [Addr.add_lit]
  ·rw[Nat.add_assoc];exact hD _ (hb i hi)
  ·rw[Nat.add_assoc];exact hu _ (hb i hi)
theorem gF{k:IntKind}{i y:Nat}{code:BoundsCode}(h:i<=y)(w:World):(Instr.sliceBound (.int k (i:Int)) y code).run P w=.ok i w:=by
 have h1:(0:Int)<=(i:Int)/\(i:Int)<=(y:Int):=by omega
 simp only[Instr.sliceBound,asIntOf,Sem.run_bind,Sem.run_pure,Result.andThen_ok,h1,and_self,if_true,Int.toNat_natCast]
theorem e_slice{T E t:TypeId}{x:Operand}{lo hi:Option Operand}{s l h:Nat}{kl kh:IntKind}{es:List jT}(ho:o.op=.slice T x lo hi none)(hT:uB P T=some (E,s))(hx:ev S x=.d (.sl t s es))(hlo:optInt S lo kl 0 l)(hhi:optInt S hi kh es.length h)
  (h1:l<=h) (h2:h<=es.length):uC P o S [] (.d (.sl t s ((es.take h).drop l))) :=
 uC.same fun a w D β hop _=>by
  have hp:=hop x (by simp [ho,Op.operands])
  rw[hx] at hp
  obtain ⟨i,e1,e2,e3⟩:=gQ hT
  generalize hvv:a.eval x=v at hp
  cases v with
  |slice q n cap=>
   have hrs:=rep_slice hp h1 h2
   cases hp with
   |sl g off u hn hc hm hs ha hD hu h1' hr=>
   refine ⟨_,?_,hrs⟩
   have hl:lo.map a.eval=none/\l=0\/lo.map a.eval=some (.int kl (l:Int)):=by
    cases lo with
    |none=>exact .inl ⟨rfl,hlo⟩
    |some z=>
     have:=hop z (by simp [ho,Op.operands])
     rw[show ev S z=_ from hlo] at this
     exact .inr (by rw[Option.map_some,uO this])
   have hh:hi.map a.eval=none/\h=es.length\/hi.map a.eval=some (.int kh (h:Int)):=by
    cases hi with
    |none=>exact .inl ⟨rfl,hhi⟩
    |some z=>
     have:=hop z (by simp [ho,Op.operands])
     rw[show ev S z=_ from hhi] at this
     exact .inr (by rw[Option.map_some,uO this])
   have hb:(Instr.sliceBounds true n cap (lo.map a.eval) (hi.map a.eval) none).run P w=.ok (l,h,cap) w:=by
    have b1:∀ c:BoundsCode,(Instr.sliceBound (.int kh (h:Int)) cap c).run P w=.ok h w:=fun _=>gF (by omega) w
    have b2:∀ c:BoundsCode,(Instr.sliceBound (.int kl (l:Int)) h c).run P w=.ok l w:=fun _=>gF h1 w
    rcases hl with ⟨hl,rfl⟩ | hl<;>rcases hh with ⟨hh,hhe⟩ | hh
    ·subst hhe;subst hn;simp [Instr.sliceBounds,hl,hh]
    ·simp [Instr.sliceBounds,hl,hh,b1]
    ·subst hhe;subst hn;simp [Instr.sliceBounds,hl,hh,b2]
    ·simp [Instr.sliceBounds,hl,hh,b1,b2]
   simp [execOp,ho,hvv,Instr.sliceAt,run_underlying e1,Instr.slice,hb,vX e2,e3]
  |_=>cases hp
theorem blk_new{w:World}{D:kV}{β:kY}{k:Nat}{T:TypeId}{vs:Array Value}{ds:List jT}(hD:DOk D w)(h:RepL w D vs.toList ds) :
  uA (w.alloc (.cells vs T)) D (β.set k w.heap.size) k (ds.map .d):=by
 obtain ⟨h1,h2,h3⟩:=h
 refine .inr ⟨w.heap.size,vs,T,by simp [kY.set],heap_alloc_new w _,by simp at h1 ⊢;omega,fun i x hx=>?_,fun t o hd=>Nat.lt_irrefl _ (hD.lt t _ o hd)⟩
 rw[List.getElem?_map,Option.map_eq_some_iff] at hx
 obtain ⟨d,hd,rfl⟩:=hx
 have hi:i<vs.size:=by
  have:=(List.getElem?_eq_some_iff.1 hd).1
  simp at h1;omega
 refine ⟨vs[i],by simp [hi],h2 _ (by simp),?_⟩
 exact (h3 i vs[i] d (by simp [hi]) hd).mono fun t g p hd=>⟨hd,World.cell?_alloc_lt w _ ⟨g,p,none⟩ (hD.lt t g p hd)⟩
theorem npost_new{a:Act}{w:World}{D:kV}{β:kY}{k:Nat}{T:TypeId}{vs:Array Value}{ds:List jT}(hD:DOk D w)(h:RepL w D vs.toList ds){Q:Exit->Act->World->Prop}{v:Value}{x:SV}
  (hrun:(execOp a.eval o).run P w=.ok (.value v) (w.alloc (.cells vs T))) (hx:qC (w.alloc (.cells vs T)) D (β.set k w.heap.size) v x):o.wp P a w (NPost a w D β o.dst k (ds.map .d) x) Q :=
 mF hrun ⟨v,D,w.heap.size,rfl,(Below.refl _ _).alloc (Nat.le_refl _) _,aF.of_same D,Nat.le_refl _,by simp,fun t o hd=>Nat.lt_irrefl _ (hD.lt t _ o hd),blk_new hD h,hx⟩
theorem n_box{T:TypeId}{x:Operand}{d:jT}(k:Nat)(ho:o.op=.box T x)(hx:ev S x=.d d)(h1:d.ok1=true):NOk P o S k (d.cells.map .d) (.ref k 0) :=
 fun a w D β Q hop hD=>by
  have hp:=hop x (by simp [ho,Op.operands])
  rw[hx] at hp
  obtain ⟨vs,e1,e2⟩:=aW hp h1
  refine npost_new (vs:=vs.toArray) (T:=T) (v:=.pointer (some ⟨w.heap.size,0,none⟩)) hD (by rw[List.toList_toArray];exact e2) ?_ ⟨w.heap.size,by simp [kY.set],rfl⟩
  simp only[execOp,ho,Instr.box,newVar,newRow,e1,Sem.run_bind,run_newObj,Result.andThen_ok,Sem.run_pure]
  rfl
theorem n_alloc{T:TypeId}{zv:List Value}{zd:List jT}(k:Nat)(ho:o.op=.alloc T)(hz:vP P T=some zv)(hzd:dV zv zd):NOk P o S k (zd.map .d) (.ref k 0) :=
 fun a w D β Q _ hD=>by
  obtain ⟨i,z,z1,z2,z3⟩:=eZ hz
  refine npost_new (vs:=zv.toArray) (T:=T) (v:=.pointer (some ⟨w.heap.size,0,none⟩)) hD (repL_zero hzd) ?_ ⟨w.heap.size,by simp [kY.set],rfl⟩
  simp only[execOp,ho,Instr.alloc,newVar,newRow,Sem.run_bind,run_zero z1 z2,z3,run_newObj,Result.andThen_ok,Sem.run_pure]
  rfl
def vJ(P:Program)(T:TypeId):Option Nat:=(P.info? T).map (·.bytes)
theorem n_makeSlice{T E:TypeId}{l c:Operand}{s n m bytes:Nat}{kl kc:IntKind}{zv:List Value}{zd:List jT}(k:Nat)(ho:o.op=.makeSlice T l c)(hT:uB P T=some (E,s))(hz:vP P E=some zv)(hzd:dV zv zd)(hzl:zd.length=s)(hby:vJ P E=some bytes)
  (hl:ev S l=.d (.val (.int kl (n:Int)))) (hc:ev S c=.d (.val (.int kc (m:Int)))) (hnm:n<=m) (hb:bytes*m<=281474976710656) (hm:m<=maxLen):NOk P o S k ((List.replicate m zd).flatten.map .d) (.own k E s n) :=
 fun a w D β Q hop hD=>by
  have h1:=hop l (by simp [ho,Op.operands])
  have h2:=hop c (by simp [ho,Op.operands])
  rw[hl] at h1
  rw[hc] at h2
  have e1:=uO h1
  have e2:=uO h2
  obtain ⟨i,z,z1,z2,z3⟩:=eZ hz
  obtain ⟨j,f1,f2,f3⟩:=gQ hT
  have hij:i=j:=by rw[z1] at f2;injection f2
  subst hij
  have hbi:i.bytes=bytes:=by
   unfold vJ at hby
   rw[z1] at hby
   simpa using hby
  have hmm:(m:Int)<=9223372036854775807:=by
   unfold maxLen at hm
   omega
  have hbb:(i.bytes:Int)*(m:Int)<=281474976710656:=by
   rw[hbi]
   omega
  have hr:=run_make (P:=P) w T E i z f1 z1 z2 kl kc (n:Int) (m:Int) (by omega) (by omega) hbb hmm
  have hzvl:zv.length=zd.length:=(fT (w:=w) (D:=D) hzd).1
  have hzs:z.cells.size=s:=by rw[z3];simp;omega
  simp only[Int.toNat_natCast,f3] at hr
  refine npost_new (vs:=madeCells z.cells (m*s)) (T:=E) (v:=.slice (some ⟨w.heap.size,0,none⟩) n m) hD ?_ ?_ ?_
  ·show RepL w D ((Array.range (m*s)).map (z.cells[· % z.cells.size]!)).toList _
   rw[cG z.cells s m hzs,z3]
   exact repL_zeros hzd m
  ·simp only[execOp,ho,e1,e2,Sem.run_bind,hr,Result.andThen_ok,Sem.run_pure]
  ·exact .inr ⟨w.heap.size,m,madeCells z.cells (m*s),by simp [kY.set],rfl,heap_alloc_new w _,size_madeCells _ _,hnm,hm⟩
theorem sv_cells{w:World}{D:kV}{β:kY}{v:Value}{x:SV}{l:List SV}(h:qC w D β v x)(hl:(∃ d:jT,x=.d d/\d.ok1=true/\l=d.cells.map .d)\/((∃ k t s n,x=.own k t s n)/\l=[x])) :
  ∃ vs:List Value,v.cells=vs.toArray/\vs.length=l.length/\(∀ v∈vs,v.oneCell'=true)/\∀ (i:Nat) v y,vs[i]?=some v->l[i]?=some y->qC w D β v y:=by
 rcases hl with ⟨d,rfl,h1,rfl⟩ | ⟨⟨k,t,s,n,rfl⟩,rfl⟩
 ·obtain ⟨vs,e1,e2,e3,e4⟩:=aW h h1
  refine ⟨vs,e1,by simpa using e2,e3,fun i v y hv hy=>?_⟩
  rw[List.getElem?_map,Option.map_eq_some_iff] at hy
  obtain ⟨d',hd,rfl⟩:=hy
  exact e4 i v d' hv hd
 ·have hv1:∃ p q c,v=.slice p q c:=by
   rcases h with ⟨_,_,h3⟩ | ⟨c,cap,vs,_,h4,_⟩
   ·exact ⟨_,_,_,h3⟩
   ·exact ⟨_,_,_,h4⟩
  obtain ⟨p,q,c,rfl⟩:=hv1
  exact ⟨[.slice p q c],rfl,rfl,by simp [Value.oneCell'],fun i v y hv hy=>by
   cases i with
   |zero=>simp at hv hy;subst hv;subst hy;exact h
   |succ i=>simp at hv⟩
theorem aT(w:World)(b:Nat)(cs:Array Value)(hs:∀ vs T f,w.heap[b]?=some (.cells vs T f)->cs.size=vs.size):Wrote b w (w.setRow b cs) :=
 ⟨rfl,rfl,rfl,by simp,fun k hk=>setRow_other w b k cs hk,fun vs T f h=>⟨cs,setRow_heap w b vs cs T f h,hs vs T f h⟩⟩
theorem t_store{T:TypeId}{x y:Operand}{k off sz:Nat}{agg:Bool}{old l:List SV}{z:SV}(ho:o.op=.store T x y)(hx:ev S x=.ref k off)(hy:ev S y=z)(hs:qD P T=some (agg,sz))
  (hl:(∃ d:jT,z=.d d/\d.ok1=true/\l=d.cells.map .d)\/((∃ k t s n,z=.own k t s n)/\l=[z])) (qL:l.length=sz) (hle:off+sz<=old.length) (hm:yQ old=false):TOk P o S k old (patch old off l) :=
 fun a w D β Q hop hb hD=>by
  have hp:=hop x (by simp [ho,Op.operands])
  have hq:=hop y (by simp [ho,Op.operands])
  rw[hx] at hp
  rw[hy] at hq
  obtain ⟨b,hb1,hv⟩:=hp
  obtain ⟨us,e1,e2,e3,e4⟩:=sv_cells hq hl
  rcases hb with hb | ⟨b',vs,T',hb2,h2,h3,h4,h5⟩
  ·have hb2:=(hb.cells hm).1;rw[hb1] at hb2;cases hb2
  ·obtain rfl:b'=b:=by rw[hb1] at hb2;injection hb2 with h;exact h.symm
   obtain ⟨d,i,s1,s2,s3,s4⟩:=shape_of hs
   have hst:=run_storeCells_at P b' off T' us 0 vs w h2 (by omega) e3
   have hrun:(execOp a.eval o).run P w=.ok .skip (w.setRow b' (patch vs.toList off us).toArray):=by
    have hsz:us.toArray.size=i.size:=by simp;omega
    simp only[execOp,ho,hv,Instr.storeAt,Instr.sureAddr,storeVar,e1,Sem.run_bind,Sem.run_pure,Result.andThen_ok,vX s2,ne_eq,hsz,not_true_eq_false,if_false,hst]
    simp [patch]
   have hw:=aT w b' (patch vs.toList off us).toArray (fun vs' T f h=>by
    rw[h2] at h
    injection h with h
    injection h with h
    subst h
    have:=yN (l:=vs.toList) (off:=off) (new:=us) (by simp;omega)
    simpa using this)
   refine wp_skip_ hrun ⟨rfl,b',hb1,hw,h5,?_⟩
   refine .inr ⟨b',_,T',hb1,setRow_heap w b' vs _ T' _ h2,?_,fun j x hx=>?_,h5⟩
   ·have p1:=yN (l:=vs.toList) (off:=off) (new:=us) (by simp;omega)
    have p2:=yN (l:=old) (off:=off) (new:=l) (by omega)
    simp only[List.size_toArray]
    simp only[Array.length_toList] at p1
    omega
   ·rw[yS (by omega)] at hx
    have hg:(patch vs.toList off us).toArray[j]?=if j<off then vs.toList[j]? else if j<off+us.length then us[j-off]? else vs.toList[j]?:=by
     rw[List.getElem?_toArray]
     exact yS (by simp;omega) j
    rw[hg]
    by_cases c1:j<off
    ·rw[if_pos c1] at hx ⊢
     obtain ⟨u,g1,g2,g3⟩:=h4 j x hx
     exact ⟨u,by simpa using g1,g2,hw.repS h5 g3⟩
    ·rw[if_neg c1] at hx ⊢
     rw[e2]
     by_cases c2:j<off+l.length
     ·rw[if_pos c2] at hx ⊢
      have hj:j-off<us.length:=by omega
      exact ⟨us[j-off],List.getElem?_eq_getElem hj,e3 _ (List.getElem_mem hj),hw.repS h5 (e4 _ _ _ (List.getElem?_eq_getElem hj) hx)⟩
     ·rw[if_neg c2] at hx ⊢
      obtain ⟨u,g1,g2,g3⟩:=h4 j x hx
      exact ⟨u,by simpa using g1,g2,hw.repS h5 g3⟩
end
structure PS where
 sl:SL
 bs:BS
structure Fr where
 lo:Nat
 hi:Nat
 rd:Option Nat
structure Ctx where
 w0:World
 D0:kV
 w1:World
 tm:Array Value
 n:Fr
 mine:Nat->Prop
def Ctx.own(C:Ctx)(g:Nat):Prop:=C.w0.heap.size<=g\/C.mine g
structure cF (mine:Nat->Prop) (B:Nat) (w w':World):Prop where
 os:w'.os=w.os
 tape:w'.tape=w.tape
 output:w'.output=w.output
 size:w.heap.size<=w'.heap.size
 block:∀ k,k<B->¬ mine k->w'.heap[k]?=w.heap[k]?
 shape:∀ (k:Nat),k<B->∀ vs T f,w.heap[k]?=some (.cells vs T f)->∃ vs',w'.heap[k]?=some (.cells vs' T f)/\vs'.size=vs.size
theorem cF.of{mine:Nat->Prop}{B:Nat}{w w':World}(h:Below B w w'):cF mine B w w':=⟨h.os,h.tape,h.output,h.size,fun k hk _=>h.block k hk,fun k hk vs T f h1=>⟨vs,(h.block k hk).trans h1,rfl⟩⟩
theorem cF.plain{B:Nat}{w w':World}(h:cF (fun _=>False) B w w'):Below B w w':=⟨h.os,h.tape,h.output,h.size,fun k hk=>h.block k hk (fun f=>f)⟩
theorem cF.up{mine:Nat->Prop}{B:Nat}{w0 w w':World}(h:cF mine B w0 w)(hb:Below w.heap.size w w')(hB:B<=w.heap.size):cF mine B w0 w' :=
 ⟨hb.os.trans h.os,hb.tape.trans h.tape,hb.output.trans h.output,Nat.le_trans h.size hb.size,fun k hk hm=>(hb.block k (by omega)).trans (h.block k hk hm),fun k hk vs T f h1=>by
  obtain ⟨us,e1,e2⟩:=h.shape k hk vs T f h1
  exact ⟨us,(hb.block k (by omega)).trans e1,e2⟩⟩
inductive DfOk (B:Nat) (w:World):List Deferred->Prop
 |nil:DfOk B w []
 |cons {q:Nat} {ds:List Deferred} (h1:B<=q) (h2:w.heap[q]?=some (Obj.deferred (some []))) (h3:∀ d∈ds,d.target≠.collected q) (h:DfOk B w ds):DfOk B w ({ target:=.collected q,args:=#[] }::ds)
theorem DfOk.keep{B:Nat}{w w':World}{ds:List Deferred}(h:DfOk B w ds)(hk:∀ q:Nat,w.heap[q]?=some (Obj.deferred (some []))->(∃ d∈ds,d.target=.collected q)->w'.heap[q]?=some (Obj.deferred (some []))):DfOk B w' ds:=by
 induction h with
 |nil=>exact .nil
 |cons h1 h2 h3 h ih=>exact .cons h1 (hk _ h2 ⟨_,List.mem_cons_self,rfl⟩) h3 (ih fun q hq ⟨d,hd,e⟩=>hk q hq ⟨d,List.mem_cons_of_mem _ hd,e⟩)
structure fJ (C:Ctx) (a:Act) (w:World) (D:kV):Prop where
 defers:DfOk C.w0.heap.size w a.defers
 size:a.tmps.size=C.n.hi
 keep:∀ t g o,C.D0 t g o->w.cell? ⟨g,o,none⟩=C.w1.cell? ⟨g,o,none⟩
 oth:∀ (k:Nat) (o:Obj),C.w1.heap[k]?=some o->o.isCells=false->(Obj.isMp o=true->¬ C.own k)->w.heap[k]?=some o
 pin:∀ t,t<C.n.lo->a.tmps.getD t undef=C.tm.getD t undef
 below:cF C.mine C.w0.heap.size C.w0 w
 dmono:∀ t g o,C.D0 t g o->D t g o
 dnew:∀ t g o,D t g o->C.D0 t g o\/C.own g
 dok:DOk D w
theorem fJ.fresh{C:Ctx}{a:Act}{w:World}{D:kV}(h:fJ C a w D){b:Nat}(hb:w.heap.size<=b):C.own b:=.inl (Nat.le_trans h.below.size hb)
structure fQ (C:Ctx) (a:Act) (w:World) (st:PS) (D:kV) (β:kY):Prop where
 base:fJ C a w D
 mem:Mem w D β st.bs
 high:∀ k c,jY st.bs k=some c->∀ b,β k=some b->C.own b
 slots:∀ t,qC w D β (a.tmps.getD t undef) (kA st.sl t)
def cI(C:Ctx)(a:Act)(w:World)(st:PS):Prop:=∃ D β,fQ C a w st D β
def fF(dst:Option Tmp)(x:SV)(sl:SL):SL:=match dst with
 |some d=>(d,x)::sl
 |none=>sl
def yH(n:Fr)(dst:Option Tmp):Bool:=match dst with
 |some d=>Nat.ble n.lo d&&Nat.blt d n.hi
 |none=>true
def zU(k:Nat)(st:PS):Bool :=
 (st.sl.all fun p=>!p.2.names k)&&(st.bs.all fun p=>(!(Nat.beq p.1 k))&&match p.2 with
  |some cs=>!(kZ k cs)
  |none=>true)
def vR(ops:Array Oper)(sl:SL)(o:Oper):Option Bool:=match o.guard with
 |none=>some true
 |some (j,want)=>match (ops[j]?).bind (·.dst) with
  |some d=>match kA sl d with
   |.d (.val (.bool b))=>some (b == want)
   |.d (.tup [])=>some false
   |_=>none
  |none=>none
theorem uP{a:Act}{dst:Option Tmp}{v:Value}{n:Fr}{t:Nat}(hs:a.tmps.size=n.hi)(hd:yH n dst=true):(a.put dst v).tmps.getD t undef=if dst=some t then v else a.tmps.getD t undef:=by
 cases dst with
 |none=>simp [Act.put]
 |some d=>
  have hlt:d<a.tmps.size:=by
   simp only[yH,Bool.and_eq_true] at hd
   rw[hs];exact Nat.le_of_ble_eq_true hd.2
  simp only[Act.put,Array.getD_eq_getD_getElem?,Array.getElem?_setIfInBounds,Option.some.injEq]
  by_cases h:d=t
  ·subst h;simp [hlt]
  ·simp [h]
theorem put_size{a:Act}{dst:Option Tmp}{v:Value}:(a.put dst v).tmps.size=a.tmps.size:=by
 cases dst<;>simp [Act.put]
theorem put_defers{a:Act}{dst:Option Tmp}{v:Value}:(a.put dst v).defers=a.defers:=by
 cases dst<;>rfl
theorem uH(dst:Option Tmp)(x:SV)(sl:SL)(t:Tmp):kA (fF dst x sl) t=if dst=some t then x else kA sl t:=by
 cases dst with
 |none=>simp [fF]
 |some d=>simp only[fF,qM,Option.some.injEq]
theorem fJ.put{C:Ctx}{a:Act}{w:World}{D:kV}(h:fJ C a w D){dst:Option Tmp}(hd:yH C.n dst=true)(v:Value):fJ C (a.put dst v) w D :=
 ⟨put_defers.symm▸h.defers,put_size.trans h.size,h.keep,h.oth,fun t ht=>by
  rw[uP h.size hd,if_neg (fun e=>by subst e;simp only[yH,Bool.and_eq_true] at hd;have:=Nat.le_of_ble_eq_true hd.1;omega)]
  exact h.pin t ht,h.below,h.dmono,h.dnew,h.dok⟩
theorem fJ.up{C:Ctx}{a:Act}{w w':World}{D D':kV}(h:fJ C a w D)(hb:Below w.heap.size w w')(hu:aF D D' w w'):fJ C a w' D' :=
 ⟨DfOk.keep h.defers (fun q hq _=>(hb.block q (qV hq)).trans hq),h.size,fun t g o hd=>(nK hb (h.dok.lt t g o (h.dmono _ _ _ hd))).trans (h.keep t g o hd),fun k o hk ho hm=>(hb.block k (qV (h.oth k o hk ho hm))).trans (h.oth k o hk ho hm),h.pin,
  h.below.up hb h.below.size,fun t g o hd=>hu.up _ _ _ (h.dmono _ _ _ hd),fun t g o hd=>by
  rcases hu.new t g o hd with h1 | h1
  ·exact h.dnew t g o h1
  ·exact .inr (h.fresh h1.1),hu.ok h.dok hb⟩
theorem fJ.wrote{C:Ctx}{a:Act}{w w':World}{D:kV}{b:Nat}(h:fJ C a w D)(hw:Wrote b w w')(hb:C.own b)(hc:(∃ vs T f,w.heap[b]?=some (.cells vs T f))\/∃ ob,w.heap[b]?=some ob/\Obj.isMp ob=true)(hp:∀ t o,¬ D t b o):fJ C a w' D:=by
 refine ⟨DfOk.keep h.defers (fun q hq _=>?_),h.size,fun t g o hd=>?_,fun k o hk ho hm=>?_,h.pin,⟨hw.os.trans h.below.os,hw.tape.trans h.below.tape,hw.output.trans h.below.output,by have:=h.below.size;have:=hw.size;omega,fun k hk hm=>(hw.block k (fun e=>by subst e;rcases hb with hb | hb;omega;exact hm hb)).trans (h.below.block k hk hm),fun k hk vs T f h1=>by
  obtain ⟨us,e1,e2⟩:=h.below.shape k hk vs T f h1
  by_cases hkb:k=b
  ·subst hkb;obtain ⟨us',g1,g2⟩:=hw.own _ _ _ e1;exact ⟨us',g1,g2.trans e2⟩
  ·exact ⟨us,(hw.block k hkb).trans e1,e2⟩⟩,h.dmono,h.dnew,h.dok.kept (Nat.le_of_eq hw.size.symm) fun t g o hd=>World.cell?_of_block (hw.block g fun e=>hp t o (e▸hd))⟩
 ·have hne:q≠b:=fun e=>by
   subst e
   rcases hc with ⟨vs,T,f,hc⟩ | ⟨ob,hc,h2⟩
   ·rw[hc] at hq;cases hq
   ·rw[hc] at hq;injection hq with hq;subst hq;cases h2
  exact (hw.block q hne).trans hq
 ·have hne:g≠b:=fun e=>hp t o (e▸h.dmono _ _ _ hd)
  exact (World.cell?_of_block (hw.block g hne)).trans (h.keep t g o hd)
 ·have h1:=h.oth k o hk ho hm
  have hne:k≠b:=fun e=>by
   subst e
   rcases hc with ⟨vs,T,f,hc⟩ | ⟨ob,hc,h2⟩
   ·rw[hc] at h1;injection h1 with h1;subst h1;cases ho
   ·rw[hc] at h1;injection h1 with h1;subst h1;exact hm h2 hb
  exact (hw.block k hne).trans h1
theorem fJ.draw{C:Ctx}{a:Act}{w:World}{D:kV}(h:fJ C a w D):fJ C a { w with drawn:=w.drawn+1 } D:=⟨h.defers.keep (fun _ hq _=>hq),h.size,h.keep,h.oth,h.pin,⟨h.below.os,h.below.tape,h.below.output,h.below.size,h.below.block,h.below.shape⟩,h.dmono,h.dnew,h.dok.kept (Nat.le_refl _) fun _ _ _ _=>rfl⟩
theorem blk_heap{w:World}{D:kV}{β:kY}{k b:Nat}{cs:List SV}(h:uA w D β k cs)(hk:β k=some b):(∃ vs T f,w.heap[b]?=some (.cells vs T f))\/∃ ob,w.heap[b]?=some ob/\Obj.isMp ob=true:=by
 rcases h with (⟨h1,_⟩ | ⟨b',ob,h1,h2,h3,_⟩) | ⟨b',vs,T,h1,h2,_⟩
 ·rw[hk] at h1;cases h1
 ·rw[hk] at h1;injection h1 with h1;subst h1;exact .inr ⟨ob,h2,h3⟩
 ·rw[hk] at h1;injection h1 with h1;subst h1;exact .inl ⟨vs,T,_,h2⟩
theorem below_draw(w:World):Below w.heap.size w { w with drawn:=w.drawn+1 }:=⟨rfl,rfl,rfl,Nat.le_refl _,fun _ _=>rfl⟩
theorem rep_tup0{w:World}{D:kV}{v:Value}(h:uN w D v (.tup [])):v=.tuple #[]:=by
 cases h with
 |tup vs hl hr=>rw[List.eq_nil_of_length_eq_zero hl]
theorem rep_undef(w:World)(D:kV):uN w D undef (.tup []):=uN.tup [] rfl (by simp)
theorem wanted_of{ops:Array Oper}{sl:SL}{o:Oper}{a:Act}{w:World}{D:kV}{β:kY}{bv:Bool}(hg:vR ops sl o=some bv)
  (hs:∀ j want d,o.guard=some (j,want)->(ops[j]?).bind (·.dst)=some d->qC w D β (a.tmps.getD d undef) (kA sl d)):Region.wanted o (yielded ops a.tmps)=bv:=by
 unfold vR at hg
 unfold Region.wanted
 cases h:o.guard with
 |none=>simp [h] at hg;simp [hg]
 |some p=>
  obtain ⟨j,want⟩:=p
  simp only[h] at hg
  cases hj:(ops[j]?).bind (·.dst) with
  |none=>simp [hj] at hg
  |some d=>
   have hr:=hs j want d h hj
   simp only[hj] at hg
   split at hg
   ·rename_i b hb
    rw[hb] at hr
    have hv:=rep_bool hr
    have hx:a.tmps[d]?=some (.bool b):=by
     rw[Array.getD_eq_getD_getElem?] at hv
     cases hq:a.tmps[d]? with
     |none=>simp [hq,undef] at hv
     |some u=>simp [hq] at hv;rw[hv]
    injection hg with hg
    subst hg
    simp [yielded,hj,hx]
   ·rename_i hb
    rw[hb] at hr
    have hv:a.tmps.getD d undef=.tuple #[]:=rep_tup0 hr
    injection hg with hg
    subst hg
    have hx:yielded ops a.tmps j=none:=by
     unfold yielded
     rw[hj]
     rw[Array.getD_eq_getD_getElem?] at hv
     cases hq:a.tmps[d]? with
     |none=>simp [hq]
     |some u=>simp [hq] at hv;simp [hq,hv]
    simp [hx]
   ·cases hg
inductive Step (P:Program) (n:Fr) (ops:Array Oper) (st:PS) (o:Oper):PS->Prop
 |e {rd:List (Nat × List SV)} {x:SV} (h:uC P o (kA st.sl) rd x) (hg:vR ops st.sl o=some true) (hd:yH n o.dst=true) (hrd:∀ p∈rd,jY st.bs p.1=some p.2):Step P n ops st o ⟨fF o.dst x st.sl,st.bs⟩
 |n {k:Nat} {cs:List SV} {x:SV} (h:NOk P o (kA st.sl) k cs x) (hg:vR ops st.sl o=some true) (hd:yH n o.dst=true) (hf:zU k st=true):Step P n ops st o ⟨fF o.dst x st.sl,(k,some cs)::st.bs⟩
 |t {k:Nat} {old cs:List SV} (h:TOk P o (kA st.sl) k old cs) (hg:vR ops st.sl o=some true) (hd:yH n o.dst=true) (hb:jY st.bs k=some old):Step P n ops st o ⟨fF o.dst .junk st.sl,(k,some cs)::st.bs⟩
 |skip (hg:vR ops st.sl o=some false) (hd:yH n o.dst=true):Step P n ops st o ⟨fF o.dst (.d (.tup [])) st.sl,st.bs⟩
 |sem {st':PS} (h:∀ (C:Ctx) (a:Act) (w:World) (Q:Exit->Act->World->Prop),C.n=n->cI C a w st->o.wp P a w (fun a' w'=>cI C a' w' st') Q) (hg:vR ops st.sl o=some true):Step P n ops st o st'
inductive Steps (P:Program) (n:Fr) (ops:Array Oper):PS->List Oper->PS->Prop
 |nil {st:PS}:Steps P n ops st [] st
 |cons {st st1 st2:PS} {o:Oper} {l:List Oper} (h:Step P n ops st o st1) (hr:Steps P n ops st1 l st2):Steps P n ops st (o::l) st2
theorem bI{k:Nat}{st:PS}(h:zU k st=true)(t:Nat):(kA st.sl t).names k=false:=by
 simp only[zU,Bool.and_eq_true,List.all_eq_true] at h
 have:∀ (l:SL),(∀ p∈l,(!p.2.names k)=true)->(kA l t).names k=false:=by
  intro l
  induction l with
  |nil=>intro _;rfl
  |cons p l ih=>
   intro hl
   obtain ⟨j,x⟩:=p
   rw[qM]
   split
   ·simpa using hl (j,x) (by simp)
   ·exact ih fun q hq=>hl q (by simp [hq])
 exact this st.sl h.1
theorem eI{bs:BS}{k:Nat}{c:List SV}(h:jY bs k=some c):(k,some c)∈bs:=by
 induction bs with
 |nil=>simp [jY] at h
 |cons p bs ih=>
  obtain ⟨j,x⟩:=p
  rw[jI] at h
  split at h
  ·rename_i e;subst e;subst h;simp
  ·exact List.mem_cons_of_mem _ (ih h)
theorem fZ{k:Nat}{st:PS}(h:zU k st=true){j:Nat}{c:List SV}(hj:jY st.bs j=some c):j≠k/\kZ k c=false:=by
 simp only[zU,Bool.and_eq_true,List.all_eq_true] at h
 have:=h.2 _ (eI hj)
 simp only[Bool.not_eq_true'] at this
 refine ⟨dL this.1,this.2⟩
theorem Mem.new{w w':World}{D D':kV}{β:kY}{bs:BS}{k b:Nat}{cs:List SV}(h:Mem w D β bs)(hb:Below w.heap.size w w')(hu:aF D D' w w')(hD:DOk D w)(hge:w.heap.size<=b)
  (hn:∀ j c,jY bs j=some c->j≠k/\kZ k c=false) (hk:uA w' D' (β.set k b) k cs):Mem w' D' (β.set k b) ((k,some cs)::bs):=by
 have hβ:∀ j,j≠k->(β.set k b) j=β j:=fun j hj=>by simp [kY.set,hj]
 have hlt:∀ j c,jY bs j=some c->∀ b',β j=some b'->b'<w.heap.size\/c=[]:=fun j c hj b' hb'=>by
  rcases h.ok j c hj with (⟨h1,_⟩ | ⟨b2,ob,h1,h2,_⟩) | ⟨b2,vs,T,h1,h2,_⟩
  ·rw[h1] at hb';cases hb'
  ·rw[h1] at hb';injection hb' with e;subst e;exact .inl (qV h2)
  ·rw[h1] at hb';injection hb' with e;subst e;exact .inl (qV h2)
 have hlt':∀ j c,jY bs j=some c->∀ b',β j=some b'->b'<w.heap.size:=fun j c hj b' hb'=>by
  rcases h.ok j c hj with (⟨h1,_⟩ | ⟨b2,ob,h1,h2,_⟩) | ⟨b2,vs,T,h1,h2,_⟩
  ·rw[h1] at hb';cases hb'
  ·rw[h1] at hb';injection hb' with e;subst e;exact qV h2
  ·rw[h1] at hb';injection hb' with e;subst e;exact qV h2
 refine ⟨fun j c hj=>?_,fun j1 j2 c1 c2 h1 h2 b' e1 e2=>?_⟩
 ·rw[jI] at hj
  split at hj
  ·rename_i e;subst e;injection hj with hj;subst hj;exact hk
  ·obtain ⟨hne,hna⟩:=hn j c hj
   exact ((h.ok j c hj).up hb hu hD).frame hβ hne hna
 ·rw[jI] at h1 h2
  by_cases c1':k=j1<;>by_cases c2':k=j2
  ·omega
  ·rw[if_neg c2'] at h2
   subst c1'
   rw[hβ j2 (fun e=>c2' e.symm)] at e2
   have:=hlt' j2 _ h2 b' e2
   simp [kY.set] at e1
   omega
  ·rw[if_neg c1'] at h1
   subst c2'
   rw[hβ j1 (fun e=>c1' e.symm)] at e1
   have:=hlt' j1 _ h1 b' e1
   simp [kY.set] at e2
   omega
  ·rw[if_neg c1'] at h1
   rw[if_neg c2'] at h2
   rw[hβ j1 (fun e=>c1' e.symm)] at e1
   rw[hβ j2 (fun e=>c2' e.symm)] at e2
   exact h.inj j1 j2 _ _ h1 h2 b' e1 e2
theorem Mem.write{w w':World}{D:kV}{β:kY}{bs:BS}{k b:Nat}{old cs:List SV}(h:Mem w D β bs)(hw:Wrote b w w')(hp:∀ t o,¬ D t b o)(hkb:β k=some b)(bQ:jY bs k=some old)(hk:uA w' D β k cs):Mem w' D β ((k,some cs)::bs):=by
 refine ⟨fun j c hj=>?_,fun j1 j2 c1 c2 h1 h2 b' e1 e2=>?_⟩
 ·rw[jI] at hj
  split at hj
  ·rename_i e;subst e;injection hj with hj;subst hj;exact hk
  ·rename_i hne
   exact hw.blk hp (fun e=>hne (h.inj k j _ _ bQ hj b hkb e)) (h.ok j c hj)
 ·have g:∀ j c,jY ((k,some cs)::bs) j=some c->∃ c',jY bs j=some c':=fun j c hj=>by
   rw[jI] at hj
   split at hj
   ·rename_i e;subst e;exact ⟨_,bQ⟩
   ·exact ⟨_,hj⟩
  obtain ⟨d1,g1⟩:=g j1 c1 h1
  obtain ⟨d2,g2⟩:=g j2 c2 h2
  exact h.inj j1 j2 d1 d2 g1 g2 b' e1 e2
section
variable {P:Program} {n:Fr} {ops:Array Oper} {C:Ctx}
theorem step_sound{st st':PS}{o:Oper}(h:Step P n ops st o st')(hn:C.n=n){a:Act}{w:World}(hs:cI C a w st){Q:Exit->Act->World->Prop}{K:Act->World->Prop}(hk:∀ a' w',cI C a' w' st'->K a' w') :
  if Region.wanted o (yielded ops a.tmps) then o.wp P a w K Q else K (a.put o.dst undef) w:=by
 have hsim:=hs
 obtain ⟨D,β,hs⟩:=hs
 have hop:Opnds w D β a o (kA st.sl):=fun y _=>by
  cases y with
  |tmp t=>exact hs.slots t
  |const v=>exact uN.val v
  |func f=>exact uN.val _
  |global g=>trivial
 have hwant:∀ bv,vR ops st.sl o=some bv->Region.wanted o (yielded ops a.tmps)=bv:=fun bv hg=>wanted_of hg fun j want d _ _=>hs.slots d
 subst hn
 cases h with
 |e h hg hd hrd=>
  rename_i rd x
  rw[hwant true hg,if_pos rfl]
  refine Oper.wp_mono (fun a' w' hp=>hk a' w' ?_) (h a w D β Q hop (fun p hp=>hs.mem.ok _ _ (hrd p hp)) hs.base.dok)
  obtain ⟨v,D',rfl,h1,h2,h3⟩:=hp
  refine ⟨D',β,(hs.base.up h1 h2).put hd _,hs.mem.up h1 h2 hs.base.dok,hs.high,fun t=>?_⟩
  rw[uP hs.base.size hd,uH]
  split
  ·exact h3
  ·exact (hs.slots t).up h1 h2 hs.base.dok
 |n h hg hd hf=>
  rename_i k cs x
  rw[hwant true hg,if_pos rfl]
  refine Oper.wp_mono (fun a' w' hp=>hk a' w' ?_) (h a w D β Q hop hs.base.dok)
  obtain ⟨v,D',b,rfl,h1,h2,h3,h4,h5,h6,h7⟩:=hp
  have hβ:∀ j,j≠k->(β.set k b) j=β j:=fun j hj=>by simp [kY.set,hj]
  refine ⟨D',β.set k b,(hs.base.up h1 h2).put hd _,hs.mem.new h1 h2 hs.base.dok h3 (fun j c hj=>fZ hf hj) h6,fun j c hj b' hb'=>?_,fun t=>?_⟩
  ·rw[jI] at hj
   split at hj
   ·rename_i e;subst e
    simp [kY.set] at hb'
    subst hb'
    exact hs.base.fresh h3
   ·rename_i hne
    rw[hβ j (fun e=>hne e.symm)] at hb'
    exact hs.high j c hj b' hb'
  ·rw[uP hs.base.size hd,uH]
   split
   ·exact h7
   ·exact ((hs.slots t).up h1 h2 hs.base.dok).frame hβ (bI hf t)
 |t h hg hd hb=>
  rename_i k old cs
  rw[hwant true hg,if_pos rfl]
  refine Oper.wp_mono (fun a' w' hp=>hk a' w' ?_) (h a w D β Q hop (hs.mem.ok _ _ hb) hs.base.dok)
  obtain ⟨rfl,b,h1,h2,h3,h4⟩:=hp
  refine ⟨D,β,(hs.base.wrote h2 (hs.high k _ hb b h1) (blk_heap (hs.mem.ok _ _ hb) h1) h3).put hd _,hs.mem.write h2 h3 h1 hb h4,fun j c hj b' hb'=>?_,fun t=>?_⟩
  ·rw[jI] at hj
   split at hj
   ·rename_i e;subst e;exact hs.high k _ hb b' hb'
   ·exact hs.high j c hj b' hb'
  ·rw[uP hs.base.size hd,uH]
   split
   ·trivial
   ·exact h2.repS h3 (hs.slots t)
 |skip hg hd=>
  rw[hwant false hg]
  refine hk _ _ ⟨D,β,hs.base.put hd _,hs.mem,hs.high,fun t=>?_⟩
  rw[uP hs.base.size hd,uH]
  split
  ·exact rep_undef _ _
  ·exact hs.slots t
 |sem h hg=>
  rw[hwant true hg,if_pos rfl]
  exact Oper.wp_mono (fun a' w' hp=>hk a' w' hp) (h C a w Q rfl hsim)
def fen(n:Fr):Fence:={ Fence.wide with round:=n.rd }
def yU(o:Oper):Bool:=match o.op with
 |.defer _=>false
 |_=>true
theorem op_lift{N:Nat}{o:Oper}{a:Act}{w:World}{K:Act->World->Prop}{Q:Exit->Act->World->Prop}(hp:yU o=true)(h:o.wp P a w K Q):o.wpIn (fen n) N P a w K Q:=by
 have hne:∀ c,o.op≠.defer c:=fun c e=>by simp [yU,e] at hp
 refine ⟨fun _ _=>trivial,?_⟩
 rw[Oper.semAt_eq _ _ _ hne]
 unfold Oper.wp at h
 generalize (execOp a.eval o).run P w=r at h
 cases r with
 |ok x w'=>
  cases x<;>simp only[Oper.upon] at h
  case value v=>exact h
  case skip=>exact h
  case defer d=>exact h
  case enter f args=>exact ⟨fun e=>by simp [fen,Fence.wide] at e,callsIn_wide.2 h⟩
  case row row args=>
   refine ⟨fun e=>by simp [fen,Fence.wide] at e,fun c cs _=>?_⟩
   obtain ⟨v,w'',h1,h2⟩:=h c cs
   exact ⟨v,w'',h1,stepsIn_wide.2 h2⟩
 |halt x w'=>cases x<;>simp only[Oper.upon] at h;exact h
theorem steps_sound{st st':PS}{l:List Oper}(h:Steps P n ops st l st')(hp:l.all yU=true)(hn:C.n=n){N:Nat}{Q:Exit->Act->World->Prop}(hk:∀ a' w',cI C a' w' st'->Q .normal a' w'):∀ {a:Act} {w:World},cI C a w st->wpListIn (fen n) N P ops Q l a w:=by
 induction h with
 |nil=>intro a w hs;exact wpListIn_nil (hk a w hs)
 |cons h hr ih=>
  intro a w hs
  simp only[List.all_cons,Bool.and_eq_true] at hp
  refine wpListIn_step fun K hK=>?_
  have h1:=step_sound h hn hs (Q:=Q) fun a' w' hs'=>hK a' w' (ih hp.2 hk hs')
  split
  ·rename_i e;rw[if_pos e] at h1;exact op_lift hp.1 h1
  ·rename_i e;rw[if_neg e] at h1;exact ⟨fun _ _=>trivial,h1⟩
end
end Go.Fid
