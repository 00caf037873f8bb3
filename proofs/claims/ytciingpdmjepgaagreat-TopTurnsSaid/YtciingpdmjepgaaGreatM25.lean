/- Part 25 of a proof: rules, plain facts, and functions walked. -/
import Derived.Test.YtciingpdmjepgaaGreatM24
import Derived.Maps.RangeRun
import Derived.Test.YtciingpdmjepgaaGreatM23
import Derived.Test.YtciingpdmjepgaaGreatM19
import Derived.Test.YtciingpdmjepgaaGreatM21
set_option linter.all false
set_option maxRecDepth 4000
namespace Go.Fid
open Go.RowKit (Below)
def cV(p:List Int):List MapEntry:=(List.range p.length).map fun i=>{ key:=.int .i64 ((i:Nat):Int),val:=.int .i64 (p.getD i 0),born:=i }
def yI(p:List Int):Obj:=.map (cV p).toArray p.length
theorem gX{p:List Int}{i:Nat}(h:i<p.length):(cV p)[i]?=some { key:=.int .i64 ((i:Nat):Int),val:=.int .i64 (p.getD i 0),born:=i }:=by
 simp [cV,List.getElem?_map,List.getElem?_range h]
theorem eC(p:List Int):(cV p).length=p.length:=by simp [cV]
theorem ents_key{p:List Int}{x:MapEntry}(h:x∈cV p):∃ i,i<p.length/\x={ key:=.int .i64 ((i:Nat):Int),val:=.int .i64 (p.getD i 0),born:=i }:=by
 obtain ⟨i,h1,h2⟩:=List.mem_map.1 h
 exact ⟨i,by simpa using h1,h2.symm⟩
theorem ents_isKey(p:List Int):∀ x∈(cV p).toArray.toList,MapKept.IsKey (.int .i64) x.key:=fun x hx=>by
 obtain ⟨i,_,rfl⟩:=ents_key (by simpa using hx);rfl
theorem find_in{p:List Int}{k:Nat}(h:k<p.length):Instr.findNow (.int .i64) (.int .i64 ((k:Nat):Int)) (cV p).toArray.toList 0=some (some (k,.int .i64 (p.getD k 0))):=by
 rcases MapKept.findNow_spec (d:=.int .i64) (k:=.int .i64 ((k:Nat):Int)) rfl (cV p).toArray.toList 0 (ents_isKey p) with ⟨h1,h2⟩ | ⟨j,e,h1,h2,h3⟩
 ·exact absurd rfl (h2 _ (by simpa using List.mem_of_getElem? (gX h)))
 ·rw[List.toList_toArray] at h2
  have hj:j<p.length:=by have:=(List.getElem?_eq_some_iff.1 h2).1;rwa [eC] at this
  rw[gX hj] at h2
  injection h2 with h2
  subst h2
  simp only[Value.int.injEq,true_and] at h3
  obtain rfl:j=k:=by omega
  rw[h1,Nat.zero_add]
theorem find_out{p:List Int}:Instr.findNow (.int .i64) (.int .i64 ((p.length:Nat):Int)) (cV p).toArray.toList 0=some none:=by
 rcases MapKept.findNow_spec (d:=.int .i64) (k:=.int .i64 ((p.length:Nat):Int)) rfl (cV p).toArray.toList 0 (ents_isKey p) with ⟨h1,h2⟩ | ⟨j,e,h1,h2,h3⟩
 ·exact h1
 ·rw[List.toList_toArray] at h2
  have hj:j<p.length:=by have:=(List.getElem?_eq_some_iff.1 h2).1;rwa [eC] at this
  rw[gX hj] at h2
  injection h2 with h2
  subst h2
  simp only[Value.int.injEq,true_and] at h3
  omega
theorem ents_set{p:List Int}{k:Nat}{v:Int}(h:k<p.length):(cV p).toArray.modify k (fun e=>{ e with key:=.int .i64 ((k:Nat):Int),val:=.int .i64 v })=(cV (p.set k v)).toArray:=by
 apply Array.ext_getElem?
 intro i
 rw[Array.getElem?_modify,List.getElem?_toArray,List.getElem?_toArray]
 by_cases hi:i<p.length
 ·rw[gX hi,gX (by simpa using hi)]
  by_cases hk:k=i
  ·subst hk
   simp [List.getD_eq_getElem?_getD,List.getElem?_set,h]
  ·simp [List.getD_eq_getElem?_getD,List.getElem?_set,hk]
 ·rw[List.getElem?_eq_none (by rw[eC];omega),List.getElem?_eq_none (by rw[eC];simp;omega)]
  simp
theorem ents_push(p:List Int)(v:Int):(cV p).toArray.push { key:=.int .i64 ((p.length:Nat):Int),val:=.int .i64 v,born:=p.length }=(cV (p++[v])).toArray:=by
 apply Array.ext_getElem?
 intro i
 rw[Array.getElem?_push,List.getElem?_toArray,List.getElem?_toArray]
 simp only[List.size_toArray,eC]
 by_cases h1:i=p.length
 ·subst h1
  rw[if_pos rfl,gX (by simp)]
  simp [List.getD_eq_getElem?_getD]
 ·rw[if_neg h1]
  by_cases h2:i<p.length
  ·rw[gX h2,gX (by simp;omega)]
   simp [List.getD_eq_getElem?_getD,List.getElem?_append_left h2]
  ·rw[List.getElem?_eq_none (by rw[eC];omega),List.getElem?_eq_none (by rw[eC];simp;omega)]
section
variable {P:Program} {T K E:TypeId} {w:World} {b:Nat} {p:List Int}
def mapB(P:Program)(T:TypeId):Bool:=match P.underlying T with
 |some (.map K E)=>(match P.underlying K,P.underlying E with
  |some (.int .i64),some (.int .i64)=>true
  |_,_=>false)
 |_=>false
theorem map_of(h:mapB P T=true):∃ K E,P.underlying T=some (.map K E)/\P.underlying K=some (.int .i64)/\P.underlying E=some (.int .i64):=by
 unfold mapB at h
 split at h
 ·rename_i K E hT
  split at h
  ·rename_i hK hE;exact ⟨K,E,hT,hK,hE⟩
  ·cases h
 ·cases h
theorem run_look(hT:mapB P T=true)(hb:w.heap[b]?=some (yI p)){k:Nat}(hk:k<p.length):(Instr.lookup T (.map (some b)) (.int .i64 ((k:Nat):Int)) false).run P w=.ok (.int .i64 (p.getD k 0)) w:=by
 obtain ⟨K,E,h1,h2,h3⟩:=map_of hT
 have hck:∀ e,(Instr.checkKey e 10000 K (.int .i64 ((k:Nat):Int))).run P w=.ok () w:=fun e=>MapKept.run_checkKey (k:=.int .i64 ((k:Nat):Int)) h2 rfl e 9999
 simp [Instr.lookup,run_underlying h1,MapKept.run_getObj_map hb,hck,MapKept.run_findKey h2 (find_in hk),Result.andThen]
theorem run_set(hT:mapB P T=true)(hb:w.heap[b]?=some (yI p)){k:Nat}(hk:k<p.length)(v:Int):(Instr.mapUpdate T (.map (some b)) (.int .i64 ((k:Nat):Int)) (.int .i64 v)).run P w=.ok () (w.putObj b (yI (p.set k v))):=by
 obtain ⟨K,E,h1,h2,h3⟩:=map_of hT
 have hck:∀ e,(Instr.checkKey e 10000 K (.int .i64 ((k:Nat):Int))).run P w=.ok () w:=fun e=>MapKept.run_checkKey (k:=.int .i64 ((k:Nat):Int)) h2 rfl e 9999
 have hj:(cV p).toArray[k]?=some { key:=.int .i64 ((k:Nat):Int),val:=.int .i64 (p.getD k 0),born:=k }:=by rw[List.getElem?_toArray,gX hk]
 have hks:(Instr.keyThatStays (.int .i64 ((k:Nat):Int)) (.int .i64 ((k:Nat):Int))).run P w=.ok (.int .i64 ((k:Nat):Int)) w:=MapKept.run_keyThatStays (d:=.int .i64) rfl
 simp only[Instr.mapUpdate,Sem.run_bind,run_underlying h1,MapKept.run_getObj_map hb,hck,MapKept.run_findKey h2 (find_in hk),Result.andThen_ok,hj,Option.map_some,Option.getD_some,hks,MapKept.run_setObj_map _ hb,ents_set hk]
 simp [World.putObj,yI]
theorem run_ins(hT:mapB P T=true)(hb:w.heap[b]?=some (yI p))(v:Int):(Instr.mapUpdate T (.map (some b)) (.int .i64 ((p.length:Nat):Int)) (.int .i64 v)).run P w=.ok () (w.putObj b (yI (p++[v]))):=by
 obtain ⟨K,E,h1,h2,h3⟩:=map_of hT
 have hck:∀ e,(Instr.checkKey e 10000 K (.int .i64 ((p.length:Nat):Int))).run P w=.ok () w:=fun e=>MapKept.run_checkKey (k:=.int .i64 ((p.length:Nat):Int)) h2 rfl e 9999
 simp only[Instr.mapUpdate,Sem.run_bind,run_underlying h1,MapKept.run_getObj_map hb,hck,MapKept.run_findKey h2 find_out,Result.andThen_ok,MapKept.run_setObj_map _ hb,ents_push]
 simp [World.putObj,yI]
end
section
variable {P:Program} {n:Fr} {ops:Array Oper} {o:Oper} {st:PS}
def itO(m since:Nat)(xB:List Nat):Obj:=.mapIter (some m) since xB.toArray since
theorem mem_leftE{p:List Int}{xB:List Nat}{e:MapEntry}(h:e∈(leftOf (cV p).toArray xB.toArray).toList):∃ k,k<p.length/\k∉xB/\e={ key:=.int .i64 ((k:Nat):Int),val:=.int .i64 (p.getD k 0),born:=k }:=by
 unfold leftOf at h
 rw[Array.toList_filter,List.mem_filter] at h
 obtain ⟨i,h1,rfl⟩:=ents_key (by simpa using h.1)
 refine ⟨i,h1,?_,rfl⟩
 have h2:=h.2
 simp only[Bool.not_eq_true',List.contains_toArray] at h2
 intro hm
 rw[<- Bool.not_eq_true] at h2
 exact h2 (by simpa using hm)
theorem left_none{p:List Int}{xB:List Nat}(h:(leftOf (cV p).toArray xB.toArray).size=0):∀ k,k<p.length->k∈xB:=fun k hk=>by
 apply Classical.byContradiction
 intro hn
 have hm:({ key:=.int .i64 ((k:Nat):Int),val:=.int .i64 (p.getD k 0),born:=k }:MapEntry)∈(leftOf (cV p).toArray xB.toArray).toList:=by
  unfold leftOf
  rw[Array.toList_filter,List.mem_filter]
  refine ⟨by simpa using List.mem_of_getElem? (gX hk),?_⟩
  simp only[Bool.not_eq_true',List.contains_toArray]
  rw[<- Bool.not_eq_true]
  simpa using hn
 have h0:(leftOf (cV p).toArray xB.toArray).toList=[]:=by
  apply List.eq_nil_of_length_eq_zero
  simpa using h
 rw[h0] at hm;cases hm
theorem run_nextE{w:World}{ty:TypeId}{m r N:Nat}{p:List Int}{xB:List Nat}(hr:w.heap[r]?=some (itO m p.length xB))(hm:w.heap[m]?=some (yI p)) :
  ((∀ k,k<p.length->k∈xB)/\(Instr.next (.pointer (some ⟨r,0,none⟩)) false ty).run P w=.ok (.tuple #[.bool false]) w) \/
  ∃ k,k<p.length/\k∉xB/\∃ w1:World,(w1=w\/w1=w.drew)/\(Instr.next (.pointer (some ⟨r,0,none⟩)) false ty).run P w=.ok (.tuple #[.bool true,.int .i64 ((k:Nat):Int),.int .i64 (p.getD k 0)]) (w1.putObj r (itO m p.length (xB++[k]))):=by
 rcases run_next_at (P:=P) w ty r m p.length p.length xB.toArray (cV p).toArray p.length hr hm (fun x hx=>by obtain ⟨i,h1,rfl⟩:=ents_key (by simpa using hx);exact h1) (Nat.le_refl _) with ⟨h1,h2⟩ | ⟨e,he,w1,h1,h2⟩
 ·exact .inl ⟨left_none h1,h2⟩
 ·obtain ⟨k,g1,g2,rfl⟩:=mem_leftE he
  refine .inr ⟨k,g1,g2,w1,h1,?_⟩
  rw[h2]
  simp [World.putObj,Go.ChangeMaps.setBlock,itO]
theorem run_entryE{w:World}{m r:Nat}{p:List Int}{xB:List Nat}{k:Nat}(hr:w.heap[r]?=some (itO m p.length (xB++[k])))(hm:w.heap[m]?=some (yI p))(hk:k<p.length):(Instr.entry (.pointer (some ⟨r,0,none⟩))).run P w=.ok (.tuple #[.int .i64 ((k:Nat):Int),.int .i64 (p.getD k 0)]) w:=by
 have h:=run_entry_at (P:=P) w r m p.length xB.toArray (cV p).toArray p.length { key:=.int .i64 ((k:Nat):Int),val:=.int .i64 (p.getD k 0),born:=k } (by rw[hr];simp [itO]) hm (by simpa using List.mem_of_getElem? (gX hk)) (by
  have e:((cV p).toArray.toList.map (·.born))=List.range p.length:=by
   simp [cV,List.map_map,Function.comp_def]
  rw[e];exact List.nodup_range)
 exact h
theorem opndM{C:Ctx}{a:Act}{w:World}{D:kN}{β:kT}(hs:dP C a w st D β)(y:Operand):qF w D β (a.eval y) (ev (jR st.sl) y):=by
 cases y with
 |tmp t=>exact hs.slots t
 |const v=>exact uC.val v
 |func f=>exact uC.val _
 |global g=>trivial
theorem pwp_tellm{Q:Exit->PS->Prop}{c:Code}(t:Nat){k:Nat}(ht:jR st.sl t=.mp k)(h:∀ m,cR P n c Q ⟨(t,.mpx k m)::st.sl,st.bs⟩):cR P n c Q st:=fun C a w N hn ⟨D,β,hs⟩=>by
 have hr:=hs.slots t
 rw[ht] at hr
 obtain ⟨b,e1,e2⟩:=hr
 refine h b C a w N hn ⟨D,β,hs.base,hs.mem,hs.high,fun u=>?_⟩
 show qF w D β _ (jR ((t,_)::st.sl) u)
 rw[qJ]
 split
 ·rename_i e;subst e;exact ⟨e1,e2⟩
 ·exact hs.slots u
end
section
variable {P:Program} {o:Oper} {S:Nat->SV}
theorem e_lookM{T:TypeId}{x y:Operand}{p:List Int}{k m:Nat}{z:Int}(ho:o.op=.lookup T x y false)(hT:mapB P T=true)(hx:ev S x=.mpx k m)(hy:ev S y=.d (.val (.int .i64 z)))(h0:0<=z)(hk:z.toNat<p.length):qU P o S [(k,[.mo (yI p)])] (.d (.val (.int .i64 (p.getD z.toNat 0)))) :=
 qU.same fun a w D β hop hrd=>by
  have h1:=hop x (by simp [ho,Op.operands])
  have h2:=hop y (by simp [ho,Op.operands])
  rw[hx] at h1
  rw[hy] at h2
  obtain ⟨e1,e2⟩:=h1
  have e3:=qH h2
  obtain ⟨g1,_,_⟩:=cB (hrd (k,[.mo (yI p)]) (by simp)) e1
  have e4:a.eval y=.int .i64 ((z.toNat:Nat):Int):=by rw[e3,Int.toNat_of_nonneg h0]
  exact ⟨_,by simp only[execOp,ho,e2,e4,Sem.run_bind,run_look hT g1 hk,Result.andThen_ok];rfl,.val _⟩
theorem t_setM{T:TypeId}{x y z:Operand}{p:List Int}{k m j:Nat}{v:Int}(ho:o.op=.mapUpdate T x y z)(hT:mapB P T=true)(hx:ev S x=.mpx k m)(hy:ev S y=.d (.val (.int .i64 ((j:Nat):Int))))(hz:ev S z=.d (.val (.int .i64 v)))(hj:j<p.length):TOk P o S k [.mo (yI p)] [.mo (yI (p.set j v))]:=fun w0 w D β Q hop hb hD=>by
 have h1:=hop x (by simp [ho,Op.operands])
 have h2:=hop y (by simp [ho,Op.operands])
 have h3:=hop z (by simp [ho,Op.operands])
 rw[hx] at h1
 rw[hy] at h2
 rw[hz] at h3
 obtain ⟨hkb,e1⟩:=h1
 obtain ⟨g1,g2,g3⟩:=cB hb hkb
 have hlt:=qR g1
 have hrun:(execOp w0.eval o).run P w=.ok .skip (w.putObj m (yI (p.set j v))):=by
  simp [execOp,ho,e1,qH h2,qH h3,run_set hT g1 hj]
 refine wp_skip_ hrun ⟨rfl,m,hkb,⟨rfl,rfl,rfl,by simp [World.putObj],fun i hi=>World.putObj_heap_other hi,fun vs T f h=>by rw[g1] at h;injection h with h;cases h⟩,g3,.inl (.inr ⟨m,_,hkb,World.putObj_heap_same hlt,rfl,rfl,g3⟩)⟩
theorem t_insM{T:TypeId}{x y z:Operand}{p:List Int}{k m:Nat}{v:Int}(ho:o.op=.mapUpdate T x y z)(hT:mapB P T=true)(hx:ev S x=.mpx k m)(hy:ev S y=.d (.val (.int .i64 ((p.length:Nat):Int))))(hz:ev S z=.d (.val (.int .i64 v))):TOk P o S k [.mo (yI p)] [.mo (yI (p++[v]))]:=fun w0 w D β Q hop hb hD=>by
 have h1:=hop x (by simp [ho,Op.operands])
 have h2:=hop y (by simp [ho,Op.operands])
 have h3:=hop z (by simp [ho,Op.operands])
 rw[hx] at h1
 rw[hy] at h2
 rw[hz] at h3
 obtain ⟨hkb,e1⟩:=h1
 obtain ⟨g1,g2,g3⟩:=cB hb hkb
 have hlt:=qR g1
 have hrun:(execOp w0.eval o).run P w=.ok .skip (w.putObj m (yI (p++[v]))):=by
  simp [execOp,ho,e1,qH h2,qH h3,run_ins hT g1]
 refine wp_skip_ hrun ⟨rfl,m,hkb,⟨rfl,rfl,rfl,by simp [World.putObj],fun i hi=>World.putObj_heap_other hi,fun vs T f h=>by rw[g1] at h;injection h with h;cases h⟩,g3,.inl (.inr ⟨m,_,hkb,World.putObj_heap_same hlt,rfl,rfl,g3⟩)⟩
theorem n_mapO{T:TypeId}(b:Nat)(ho:o.op=.makeMap T none):NOk P o S b [.mo (yI [])] (.mp b):=fun w0 w D β Q hop hD=>by
 have hrun:(execOp w0.eval o).run P w=.ok (.value (.map (some w.heap.size))) (w.alloc (.map #[] 0)):=by
  simp [execOp,ho,Instr.makeMap]
 have hb:Below w.heap.size w (w.alloc (.map #[] 0)):=(Below.refl _ _).alloc (Nat.le_refl _) _
 have hnd:∀ t o,¬ D t w.heap.size o:=fun t o hd=>Nat.lt_irrefl _ (hD.lt t _ o hd)
 refine zL hrun ⟨_,D,w.heap.size,rfl,hb,fS.of_same D,Nat.le_refl _,by simp,hnd,.inl (.inr ⟨w.heap.size,_,by simp [kT.set],World.alloc_heap_new w _,rfl,rfl,hnd⟩),⟨w.heap.size,by simp [kT.set],rfl⟩⟩
end
section
variable {P:Program} {n:Fr} {ops:Array Oper} {K:SL->BS->Prop} {S:SL} {B:BS} {l:List Oper} {o:Oper} {T:TypeId} {x y z it:Operand} {k m:Nat} {p:List Int}
theorem oLkM(hT:mapB P T=true){v:Int}(h0:0<=v)(hk:v.toNat<p.length)(ho:o.op=.lookup T x y false:=by exact rfl)(hx:ev (jR S) x=.mpx k m:=by exact rfl)(hy:ev (jR S) y=.d (.val (.int .i64 v)):=by exact rfl)(hb:jV B k=some [.mo (yI p)]:=by exact rfl):ROk P o S B k (.d (.val (.int .i64 (p.getD v.toNat 0)))):=⟨_,e_lookM ho hT hx hy h0 hk,hb⟩
theorem oSeM(hT:mapB P T=true){j:Nat}{v:Int}(hj:j<p.length)(ho:o.op=.mapUpdate T x y z:=by exact rfl)(hx:ev (jR S) x=.mpx k m:=by exact rfl)(hy:ev (jR S) y=.d (.val (.int .i64 ((j:Nat):Int))):=by exact rfl)(hz:ev (jR S) z=.d (.val (.int .i64 v)):=by exact rfl)(hb:jV B k=some [.mo (yI p)]:=by exact rfl):TK P o S B k [.mo (yI (p.set j v))]:=⟨_,t_setM ho hT hx hy hz hj,hb⟩
theorem oInM(hT:mapB P T=true){j:Nat}{v:Int}(hj:p.length=j)(ho:o.op=.mapUpdate T x y z:=by exact rfl)(hx:ev (jR S) x=.mpx k m:=by exact rfl)(hy:ev (jR S) y=.d (.val (.int .i64 ((j:Nat):Int))):=by exact rfl)(hz:ev (jR S) z=.d (.val (.int .i64 v)):=by exact rfl)(hb:jV B k=some [.mo (yI p)]:=by exact rfl):TK P o S B k [.mo (yI (p++[v]))]:=⟨_,t_insM ho hT hx (by rw[hy,hj]) hz,hb⟩
theorem oMkM(b:Nat)(ho:o.op=.makeMap T none:=by exact rfl):NOk P o (jR S) b [.mo (yI [])] (.mp b):=n_mapO b ho
theorem zRg(r':Nat)(hT:mapB P T=true)(r:SK P n ops K ((dO o,.ref r' 0)::S) ((r',some [.mo (itO m p.length [])])::B) l)(ho:o.op=.range T x:=by exact rfl)(hx:ev (jR S) x=.mpx k m:=by exact rfl)(hb:jV B k=some [.mo (yI p)]:=by exact rfl)(g:goK n ops S o=true:=by kernel_rfl)(hf:zB r' ⟨S,B⟩=true:=by kernel_rfl):SK P n ops K S B (o::l):=by
 obtain ⟨hd,hg,hbd⟩:=xK g
 refine zX (S1:=(dO o,.ref r' 0)::S) (B1:=(r',some [.mo (itO m p.length [])])::B) (fun C a w Q hn hs=>?_) hg r
 subst hn
 obtain ⟨D,β,hs⟩:=hs
 have e1:=opndM hs x
 dsimp only at e1
 rw[hx] at e1
 obtain ⟨e1,e2⟩:=e1
 obtain ⟨g1,_,_⟩:=cB (hs.mem.ok _ _ hb) e1
 obtain ⟨K',E,h1,h2,h3⟩:=map_of hT
 have hrun:(execOp a.eval o).run P w=.ok (.value (.pointer (some ⟨w.heap.size,0,none⟩))) (w.alloc (itO m p.length [])):=by
  simp [execOp,ho,e2,Instr.range,run_underlying h1,MapKept.run_getObj_map (show w.heap[m]?=some (.map (cV p).toArray p.length) from g1),itO]
 have hbl:Below w.heap.size w (w.alloc (itO m p.length [])):=(Below.refl _ _).alloc (Nat.le_refl _) _
 have hnd:∀ t o,¬ D t w.heap.size o:=fun t o hd=>Nat.lt_irrefl _ (hs.base.dok.lt t _ o hd)
 have hβ:∀ j,j≠r'->(β.set r' w.heap.size) j=β j:=fun j hj=>by simp [kT.set,hj]
 refine zL hrun ⟨D,β.set r' w.heap.size,(hs.base.up hbl (fS.of_same D)).put (by rw[hd];exact hbd) _,hs.mem.new hbl (fS.of_same D) hs.base.dok (Nat.le_refl _) (fun j c hj=>dL hf hj) (.inl (.inr ⟨w.heap.size,_,by simp [kT.set],World.alloc_heap_new w _,rfl,rfl,hnd⟩)),fun j c hj b' hb'=>?_,fun t=>?_⟩
 ·dsimp only at hj
  rw[jJ] at hj
  split at hj
  ·rename_i e;subst e
   simp [kT.set] at hb'
   subst hb'
   exact hs.base.fresh (Nat.le_refl _)
  ·rename_i hne
   rw[hβ j (fun e=>hne e.symm)] at hb'
   exact hs.high j c hj b' hb'
 ·rw[qX hs.base.size (by rw[hd];exact hbd)]
  show qF _ _ _ _ (jR ((dO o,_)::S) t)
  simp only[qJ,hd,Option.some.injEq]
  split
  ·exact ⟨w.heap.size,by simp [kT.set],rfl⟩
  ·exact ((hs.slots t).up hbl (fS.of_same D) hs.base.dok).frame hβ (dS hf t)
theorem zRh(r':Nat)(hT:mapB P T=true)(r:SK P n ops K ((dO o,.ref r' 0)::S) ((r',some [.mo (itO m p.length [])])::B) l)(ho:o.op=.range T x:=by exact rfl)(hx:ev (jR S) x=.mpx k m:=by exact rfl)(hb:jV B k=some [.mo (yI p)]:=by exact rfl)(g:goK n ops S o=true:=by kernel_rfl)(h1:(S.all fun p=>!p.2.names r')=true:=by kernel_rfl)
  (h2:FrB r' B:=by repeat first | exact frb_nil _ | refine frb_map rfl ?_ | refine frb_d rfl ?_ | refine frb_cs rfl rfl ?_ | refine frb_none rfl ?_):SK P n ops K S B (o::l):=zRg r' hT r ho hx hb g (freshB_of h1 h2)
theorem zEn(t:Nat){q j N:Nat}{xB:List Nat}(hN:N=p.length)(hj:j<p.length)(r:SK P n ops K ((dO o,.d (.tup [.val (.int .i64 ((j:Nat):Int)),.val (.int .i64 (p.getD j 0))]))::S) B l)(ho:o.op=.entry it:=by exact rfl)(hi:ev (jR S) it=.ref q 0:=by exact rfl)(ht:jR S t=.mpx k m:=by exact rfl)(hb:jV B k=some [.mo (yI p)]:=by exact rfl)(hq:jV B q=some [.mo (itO m N (xB++[j]))]:=by exact rfl)(g:goK n ops S o=true:=by kernel_rfl):SK P n ops K S B (o::l):=by
 obtain ⟨hd,hg,hbd⟩:=xK g
 refine zX (S1:=(dO o,.d (.tup [.val (.int .i64 ((j:Nat):Int)),.val (.int .i64 (p.getD j 0))]))::S) (B1:=B) (fun C a w Q hn hs=>?_) hg r
 subst hn hN
 obtain ⟨D,β,hs⟩:=hs
 have e1:=opndM hs it
 dsimp only at e1
 rw[hi] at e1
 obtain ⟨b,e1,e2⟩:=e1
 have e3:=hs.slots t
 dsimp only at e3
 rw[ht] at e3
 obtain ⟨g1,_,_⟩:=cB (hs.mem.ok _ _ hb) e3.1
 obtain ⟨g2,_,_⟩:=cB (hs.mem.ok _ _ hq) e1
 have hrun:(execOp a.eval o).run P w=.ok (.value (.tuple #[.int .i64 ((j:Nat):Int),.int .i64 (p.getD j 0)])) w:=by
  simp [execOp,ho,e2,run_entryE g2 g1 hj]
 refine zL hrun ⟨D,β,hs.base.put (by rw[hd];exact hbd) _,hs.mem,hs.high,fun u=>?_⟩
 rw[qX hs.base.size (by rw[hd];exact hbd)]
 show qF _ _ _ _ (jR ((dO o,_)::S) u)
 simp only[qJ,hd,Option.some.injEq]
 split
 ·refine uC.tup [.int .i64 ((j:Nat):Int),.int .i64 (p.getD j 0)] rfl fun i v d hv hd'=>?_
  match i with
  |0=>simp at hv hd';subst hv;subst hd';exact .val _
  |1=>simp at hv hd';subst hv;subst hd';exact .val _
  |i+2=>simp at hv
 ·exact hs.slots u
end
theorem pwp_nextM{P:Program}{n:Fr}{id:Nat}{Q:Exit->PS->Prop}{o:Oper}{l:List Oper}{S:SL}{B:BS}{it:Operand}{p:List Int}{k q m N:Nat}{xB:List Nat}(t:Nat)(hN:N=p.length)
  (h0:(∀ j,j<p.length->j∈xB)->∃ S2 B2,SK P n (o::l).toArray (KI S2 B2) ((dO o,.d (.tup [.val (.bool false)]))::S) B l/\Q .normal ⟨S2,B2⟩)
  (h1:∀ j,j<p.length->j∉xB->∃ S2 B2,SK P n (o::l).toArray (KI S2 B2) ((dO o,.d (.tup [.val (.bool true),.val (.int .i64 ((j:Nat):Int)),.val (.int .i64 (p.getD j 0))]))::S) ((q,some [.mo (itO m N (xB++[j]))])::B) l/\Q .normal ⟨S2,B2⟩)
  (ho:o.op=.next it false:=by exact rfl) (hi:ev (jR S) it=.ref q 0:=by exact rfl) (ht:jR S t=.mpx k m:=by exact rfl) (hb:jV B k=some [.mo (yI p)]:=by exact rfl) (hq:jV B q=some [.mo (itO m N xB)]:=by exact rfl) (hg:o.guard=none:=by rfl) (g:goK n (o::l).toArray S o=true:=by kernel_rfl) (hp:(o::l).all yC=true:=by kernel_rfl):cR P n (.region id (o::l).toArray false) Q ⟨S,B⟩:=fun C a w N' hn hs=>by
 obtain ⟨hd,_,hbd⟩:=xK g
 subst hn hN
 have hp2:yC o=true/\l.all yC=true:=by simpa using hp
 refine wpIn_region_lit (wpListIn_step fun K hK=>?_)
 rw[if_pos (by simp [Region.wanted,hg])]
 refine bG hp2.1 ?_
 obtain ⟨D,β,hs⟩:=hs
 have e1:=opndM hs it
 dsimp only at e1
 rw[hi] at e1
 obtain ⟨b,e1,e2⟩:=e1
 have e3:=hs.slots t
 dsimp only at e3
 rw[ht] at e3
 obtain ⟨g1,_,_⟩:=cB (hs.mem.ok _ _ hb) e3.1
 obtain ⟨g2,_,g3⟩:=cB (hs.mem.ok _ _ hq) e1
 have fin:∀ {S1:SL} {B1:BS},(∃ S2 B2,SK P C.n (o::l).toArray (KI S2 B2) S1 B1 l/\Q .normal ⟨S2,B2⟩)->∀ a' w',nU C a' w' ⟨S1,B1⟩->K a' w':=fun ⟨S2,B2,⟨st1,r1,r2⟩,hQ⟩ a' w' hs'=>hK a' w' (steps_sound (C:=C) r1 hp2.2 rfl (fun a'' w'' hs''=>⟨_,r2 C a'' w'' hs'',hQ⟩) hs')
 have tupOk:∀ (vs:List Value) {w':World} {B':BS},nU C a w' ⟨S,B'⟩->nU C (a.put o.dst (.tuple vs.toArray)) w' ⟨(dO o,.d (.tup (vs.map jW.val)))::S,B'⟩:=fun vs {w' B'} h=>by
  obtain ⟨D',β',h'⟩:=h
  refine ⟨D',β',h'.base.put (by rw[hd];exact hbd) _,h'.mem,h'.high,fun u=>?_⟩
  rw[qX h'.base.size (by rw[hd];exact hbd)]
  show qF _ _ _ _ (jR ((dO o,_)::S) u)
  simp only[qJ,hd,Option.some.injEq]
  split
  ·refine uC.tup vs (by simp) fun i v d hv hd'=>?_
   rw[List.getElem?_map,hv] at hd'
   injection hd' with hd'
   subst hd';exact .val v
  ·exact h'.slots u
 rcases run_nextE (P:=P) (ty:=o.type) (N:=0) g2 g1 with ⟨q1,q2⟩ | ⟨j,q1,q2,w1,q3,q4⟩
 ·exact zL (w':=w) (v:=.tuple #[.bool false]) (by simp [execOp,ho,e2,q2]) (fin (h0 q1) _ _ (tupOk [.bool false] ⟨D,β,hs⟩))
 ·have hs3:dP C a w1 ⟨S,B⟩ D β:=by
   rcases q3 with rfl | rfl
   ·exact hs
   ·exact ⟨hs.base.draw,hs.mem.up (below_draw w) (fS.of_same D) hs.base.dok,hs.high,fun t=>(hs.slots t).up (below_draw w) (fS.of_same D) hs.base.dok⟩
  have g4:w1.heap[b]?=some (itO m p.length xB):=by rcases q3 with rfl | rfl<;>exact g2
  have hlt:=qR g4
  have hw:fY b w1 (w1.putObj b (itO m p.length (xB++[j]))):=⟨rfl,rfl,rfl,by simp [World.putObj],fun i hi=>World.putObj_heap_other hi,fun vs T f h=>by rw[g4] at h;injection h with h;cases h⟩
  have hs4:nU C a (w1.putObj b (itO m p.length (xB++[j]))) ⟨S,(q,some [.mo (itO m p.length (xB++[j]))])::B⟩:=by
   refine ⟨D,β,hs3.base.wrote hw (hs3.high q _ hq b e1) (blk_heap (hs3.mem.ok _ _ hq) e1) g3,hs3.mem.write hw g3 e1 hq (.inl (.inr ⟨b,_,e1,World.putObj_heap_same hlt,rfl,rfl,g3⟩)),fun i c hi b' hb'=>?_,fun u=>hw.repS g3 (hs3.slots u)⟩
   dsimp only at hi
   rw[jJ] at hi
   split at hi
   ·rename_i e;subst e;exact hs3.high q _ hq b' hb'
   ·exact hs3.high i c hi b' hb'
  exact zL (w':=w1.putObj b (itO m p.length (xB++[j]))) (v:=.tuple #[.bool true,.int .i64 ((j:Nat):Int),.int .i64 (p.getD j 0)]) (by simp [execOp,ho,e2,q4]) (fin (h1 j q1 q2) _ _ (tupOk [.bool true,.int .i64 ((j:Nat):Int),.int .i64 (p.getD j 0)] hs4))
end Go.Fid
namespace Go.Proofs.YtciingpdmjepgaaGreat
open Go.Fid
theorem by3:xD Tryz.prog 3=some 8:=by kernel_rfl
theorem mapB166:mapB Tryz.prog 120=true:=by kernel_rfl
set_option maxHeartbeats 1000000 in
theorem l_tree(n:Nat)(es:List jE)(heo:xP n es)(hn:n<=64)(hl2:es.length<=256):jU Tryz.prog 34 [(.val (.int .i64 ((n:Nat):Int))),(.sl 56 6 (List.map kC es))] (.sl 3 1 (List.map jT (jK n es))):=by
 refine vD Tryz.func34 ?_
 refine jA<|kx [] [] (zE (fH 3 1)<|zZ) ?_
 refine jA<|kx [(5,(.mp 2))] [(2,some [.mo (yI [])])] (zN (oMkM 2)<|zM<|zZ) ?_
 refine pwp_tellm 5 rfl (fun m=>?_)
 refine kU (wk (l:=[(0,(jN n)),(1,(vl 56 6 kC es)),(5,(.mpx 2 m))]) (b:=[(2,some [.mo (yI [])])])) ?_
 refine jA<|jA<|kx [(15,(jN n)),(16,(jN 0))] [] (zM<|zM<|zZ) ?_
 refine jH<|kF (α:=Nat) (fun i=>⟨[(1,(vl 56 6 kC es)),(5,(.mpx 2 m)),(15,(jN n)),(16,(jN i))],[(2,some [.mo (yI (ini i))])]⟩) (fun i=>i<=n) (fun i=>n-i) 0 wk (Nat.zero_le _) ?_
 intro i hi
 refine jA<|kx [(17,(vb (decide (((i:Nat):Int)<((n:Nat):Int)))))] [] (zE uT<|zZ) ?_
 refine jA<|jF rfl (fun h1=>?_) (fun h1=>?_)
 ·replace h1:=uY h1
  refine jD<|jA<|jH<|jA<|kx [(6,(jN i))] [] (zM<|zM<|zZ) ?_
  refine kx [] [(2,some [.mo (yI (ini i++[((i:Nat):Int)]))])] (zM<|zM<|zM<|zT (oInM mapB166 (ini_len i))<|zZ) ?_
  refine kU (st':=⟨[(1,(vl 56 6 kC es)),(5,(.mpx 2 m)),(15,(jN n)),(16,(jN i))],[(2,some [.mo (yI (ini (i+1)))])]⟩) (by rw[ini_s];exact wk) ?_
  refine kx [(16,(jN (i+1)))] [] (zE (uL (i+1))<|zM<|zZ) ?_
  exact ⟨i+1,wk,by omega,by omega⟩
 ·replace h1:=uZ h1
  obtain rfl:i=n:=by omega
  refine jS<|jA<|kx [(7,(.own 0 3 1 0))] [(0,some (bm jT []))] (zO 0 3 1<|zZ) ?_
  refine jA<|jA<|kx [(23,(vl 56 6 kC es)),(24,(jN es.length)),(25,(jN 0))] [] (zM<|zE (vV eF)<|zM<|zZ) ?_
  refine jH<|kF (α:=Nat) (fun k=>⟨[(1,(vl 56 6 kC es)),(5,(.mpx 2 m)),(7,.own 0 3 1 (yQ false i es k).length),(23,(vl 56 6 kC es)),(24,(jN es.length)),(25,(jN k))],[(0,some (bm jT (yQ false i es k))),(2,some [.mo (yI (kV false i es k))])]⟩) (fun k=>k<=es.length) (fun k=>es.length-k) 0 wk (Nat.zero_le _) ?_
  intro k hk
  refine jA<|kx [(26,(vb (decide (((k:Nat):Int)<((es.length:Nat):Int)))))] [] (zE uT<|zZ) ?_
  refine jA<|jF rfl (fun h2=>?_) (fun h2=>?_)
  ·replace h2:=uY h2
   have hkl:k<es.length:=by omega
   obtain ⟨hx0,hx1,hx2,hx3⟩:=pA_in heo hkl false
   have htl:=tTak_len false i es k
   refine jD<|jA<|jH<|jA<|kx [(8,(jN k)),(9,(.ref 1 0))] [(1,some (bx (kC (es.getD k (jE.mk 0 0 (jB.mk 0 0 0 0))))))] (zM<|zE (nA eF k (jE.mk 0 0 (jB.mk 0 0 0 0)))<|zE (oCa sh56)<|zH (vL 1 ze56 zo56)<|zM<|zT (qO sh56)<|zZ) ?_
   refine jA<|kd [(10,(vi (pA (kV false i es k) (es.getD k (jE.mk 0 0 (jB.mk 0 0 0 0)))))),(11,(vi (pB (kV false i es k) (es.getD k (jE.mk 0 0 (jB.mk 0 0 0 0))))))] [] mo (wM<|wE (jY fo56_0)<|wR (jZ kK)<|wR (oLkM mapB166 hx0 hx1)<|wM<|wE (jY fo56_1)<|wR (jZ kK)<|wR (oLkM mapB166 hx2 hx3)<|wM<|wM<|wZ) ?_
   refine kU (wk (l:=[(1,(vl 56 6 kC es)),(5,(.mpx 2 m)),(7,.own 0 3 1 (yQ false i es k).length),(8,(jN k)),(10,(vi (pA (kV false i es k) (es.getD k (jE.mk 0 0 (jB.mk 0 0 0 0)))))),(11,(vi (pB (kV false i es k) (es.getD k (jE.mk 0 0 (jB.mk 0 0 0 0)))))),(23,(vl 56 6 kC es)),(24,(jN es.length)),(25,(jN k))]) (b:=[(0,some (bm jT (yQ false i es k))),(2,some [.mo (yI (kV false i es k))])])) ?_
   refine jA<|jA<|kx [(40,(vb ((pA (kV false i es k) (es.getD k (jE.mk 0 0 (jB.mk 0 0 0 0)))) == (pB (kV false i es k) (es.getD k (jE.mk 0 0 (jB.mk 0 0 0 0)))))))] [] (zM<|zM<|zE zW<|zZ) ?_
   refine jF rfl (fun h3=>?_) (fun h3=>?_)
   ·replace h3:=eq_of_beq h3
    obtain ⟨q1,q2⟩:=mM (g:=false) (n:=i) (es:=es) (k:=k) h3
    refine jS<|kx [(25,(jN (k+1)))] [] (zE (uL (k+1))<|zM<|zZ) ?_
    refine ⟨k+1,?_,by omega,by omega⟩
    show kP _ ⟨[(1,(vl 56 6 kC es)),(5,(.mpx 2 m)),(7,.own 0 3 1 (yQ false i es (k+1)).length),(23,(vl 56 6 kC es)),(24,(jN es.length)),(25,(jN (k+1)))],[(0,some (bm jT (yQ false i es (k+1)))),(2,some [.mo (yI (kV false i es (k+1)))])]⟩
    rw[q1,q2];exact wk
   ·replace h3:=ne_of_beq_false h3
    obtain ⟨q1,q2⟩:=mW (g:=false) (n:=i) (es:=es) (k:=k) h3
    refine jD<|jA<|kf [(7,.own 0 3 1 (yQ false i es k++[((k:Nat):Int)]).length)] [(0,some (bm jT (yQ false i es k++[((k:Nat):Int)])))] (zM<|zM<|zE (eG xN ze3 zo3)<|zA jT (yQ false i es k) [((k:Nat):Int)] rfl xN ze3 by3 (hbig:=by exact (by simp only[List.length_cons,List.length_nil,maxLen];omega)) (hbig':=by exact (by simp only[List.length_cons,List.length_nil];omega)) (hB:=by repeat first | exact clr_nil _ | refine clr_self ?_ | refine clr_map ?_ | refine dN ?_ | refine clr_cons rfl ?_)<|zM<|zF) ?_
    refine jA<|kU (wk (l:=[(1,(vl 56 6 kC es)),(5,(.mpx 2 m)),(7,.own 0 3 1 (yQ false i es k++[((k:Nat):Int)]).length),(8,(jN k)),(10,(vi (pA (kV false i es k) (es.getD k (jE.mk 0 0 (jB.mk 0 0 0 0)))))),(11,(vi (pB (kV false i es k) (es.getD k (jE.mk 0 0 (jB.mk 0 0 0 0)))))),(23,(vl 56 6 kC es)),(24,(jN es.length)),(25,(jN k))]) (b:=[(0,some (bm jT (yQ false i es k++[((k:Nat):Int)]))),(2,some [.mo (yI (kV false i es k))])])) ?_
    have hpl:=gV false i es k
    refine kx [(46,(.ref 3 0))] [(3,some [.mo (itO m (kV false i es k).length [])])] (zM<|zRh 3 mapB166<|zZ) ?_
    refine kU (wk (l:=[(1,(vl 56 6 kC es)),(5,(.mpx 2 m)),(7,.own 0 3 1 (yQ false i es k++[((k:Nat):Int)]).length),(8,(jN k)),(10,(vi (pA (kV false i es k) (es.getD k (jE.mk 0 0 (jB.mk 0 0 0 0)))))),(11,(vi (pB (kV false i es k) (es.getD k (jE.mk 0 0 (jB.mk 0 0 0 0)))))),(23,(vl 56 6 kC es)),(24,(jN es.length)),(25,(jN k)),(46,(.ref 3 0))]) (b:=[(0,some (bm jT (yQ false i es k++[((k:Nat):Int)]))),(2,some [.mo (yI (kV false i es k))]),(3,some [.mo (itO m (kV false i es k).length [])])])) ?_
    refine jH<|kF (α:=List Nat × List Int) (fun (s,q)=>⟨[(1,(vl 56 6 kC es)),(5,(.mpx 2 m)),(7,.own 0 3 1 (yQ false i es k++[((k:Nat):Int)]).length),(8,(jN k)),(10,(vi (pA (kV false i es k) (es.getD k (jE.mk 0 0 (jB.mk 0 0 0 0)))))),(11,(vi (pB (kV false i es k) (es.getD k (jE.mk 0 0 (jB.mk 0 0 0 0)))))),(23,(vl 56 6 kC es)),(24,(jN es.length)),(25,(jN k)),(46,(.ref 3 0))],[(0,some (bm jT (yQ false i es k++[((k:Nat):Int)]))),(2,some [.mo (yI q)]),(3,some [.mo (itO m (kV false i es k).length s)])]⟩) (fun (s,q)=>RlUp (pA (kV false i es k) (es.getD k (jE.mk 0 0 (jB.mk 0 0 0 0)))) (pB (kV false i es k) (es.getD k (jE.mk 0 0 (jB.mk 0 0 0 0)))) (kV false i es k) s q) (fun (s,q)=>unseen i s) ([],kV false i es k) wk (RlUp_0 _ _ _) ?_
    rintro ⟨s,q⟩ hq
    have hql:(kV false i es k).length=q.length:=hq.1.symm
    refine jA<|pwp_nextM 5 hql (fun hc=>⟨_,_,zE vF<|zI (kP.refl _),?_⟩) (fun j hj1 hj2=>⟨_,_,zE vF<|zI (kP.refl _),?_⟩)
    ·refine jA<|uU ?_
     refine jS ?_
     have hend:=RlUp_end hq hc
     refine kU (st':=⟨[(1,(vl 56 6 kC es)),(5,(.mpx 2 m)),(7,.own 0 3 1 (yQ false i es (k+1)).length),(23,(vl 56 6 kC es)),(24,(jN es.length)),(25,(jN k))],[(0,some (bm jT (yQ false i es (k+1)))),(2,some [.mo (yI (kV false i es (k+1)))])]⟩) (by rw[show kV false i es (k+1)=q from q1.trans hend.symm,q2];exact wk) ?_
     refine kx [(25,(jN (k+1)))] [] (zE (uL (k+1))<|zM<|zZ) ?_
     exact ⟨k+1,wk,by omega,by omega⟩
    ·refine jA<|qZ ?_
     refine jD<|jH<|jA<|kx [(12,(jN j)),(13,(vi (q.getD j 0)))] [] (zEn 5 hql hj1<|zE vF<|zE vF<|zM<|zM<|zZ) ?_
     refine jA<|kx [(54,(vb ((q.getD j 0) == (pB (kV false i es k) (es.getD k (jE.mk 0 0 (jB.mk 0 0 0 0)))))))] [] (zM<|zM<|zE zW<|zZ) ?_
     refine jF rfl (fun h4=>?_) (fun h4=>?_)
     ·replace h4:=eq_of_beq h4
      refine kx [] [(2,some [.mo (yI (q.set j (pA (kV false i es k) (es.getD k (jE.mk 0 0 (jB.mk 0 0 0 0))))))])] (zM<|zM<|zM<|zT (oSeM mapB166 hj1)<|zZ) ?_
      exact ⟨(s++[j],q.set j (pA (kV false i es k) (es.getD k (jE.mk 0 0 (jB.mk 0 0 0 0))))),wk,RlUp_y hq (by omega) hj2 h4,unseen_lt (by omega) hj2⟩
     ·replace h4:=ne_of_beq_false h4
      refine jD ?_
      exact ⟨(s++[j],q),wk,RlUp_n hq (by omega) hj2 h4,unseen_lt (by omega) hj2⟩
  ·replace h2:=uZ h2
   obtain rfl:k=es.length:=by omega
   refine jS<|jA<|kx [(4,(.own 0 3 1 (yQ false i es es.length).length))] [] (zM<|zM<|zZ) ?_
   refine kU (xR (t:=4) (k:=0) (es:=List.map jT (yQ false i es es.length)) rfl rfl (vP _ _ (fun _=>rfl)) (vN _ _ rfl) (xO _ _ (fun _=>rfl) rfl)) ?_
   refine jG ⟨_,(.tmp (d:=(.sl 3 1 (List.map jT (yQ false i es es.length)))) rfl .nil),?_⟩
   rw[<- tTak_eq heo (Nat.le_refl _)];rfl
end Go.Proofs.YtciingpdmjepgaaGreat
