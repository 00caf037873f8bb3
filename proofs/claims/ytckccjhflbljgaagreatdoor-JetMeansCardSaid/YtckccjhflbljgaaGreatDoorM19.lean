/- Part 19 of a proof: rules, plain facts, and functions walked. -/
import Derived.Test.YtckccjhflbljgaaGreatDoorM18
import Derived.MapKept
import Derived.Test.YtckccjhflbljgaaGreatDoorM12
set_option linter.all false
namespace Go.Fid
open Go.RowKit (Below)
section
variable {κ ν:Type} [DecidableEq κ]
def ixK(a:κ):List (κ × ν)->Nat->Option (Nat × ν)
 |[],_=>none
 |(b,v)::l,i=>if a=b then some (i,v) else ixK a l (i+1)
def zL(l:List (κ × ν))(a:κ):Option ν:=(ixK a l 0).map (·.2)
def bA(ke:κ->Value)(ve:ν->Value):List (κ × ν)->Nat->List MapEntry
 |[],_=>[]
 |(a,v)::l,i=>{ key:=ke a,val:=ve v,born:=i }::bA ke ve l (i+1)
theorem entK_app(ke:κ->Value)(ve:ν->Value):∀ (l m:List (κ × ν)) (i:Nat),bA ke ve (l++m) i=bA ke ve l i++bA ke ve m (i+l.length)
 |[],m,i=>rfl
 |(a,v)::l,m,i=>by
  rw[List.cons_append,bA,entK_app ke ve l m (i+1),bA,List.cons_append,List.length_cons,show i+1+l.length=i+(l.length+1) by omega]
def vF(ke:κ->Value)(ve:ν->Value)(l:List (κ × ν)):Obj:=.map (bA ke ve l 0).toArray l.length
theorem mpo_push(ke:κ->Value)(ve:ν->Value)(l:List (κ × ν))(a:κ)(v:ν):Obj.map ((bA ke ve l 0).toArray.push { key:=ke a,val:=ve v,born:=l.length }) (l.length+1)=vF ke ve (l++[(a,v)]):=by
 unfold vF
 rw[entK_app,List.length_append,Nat.zero_add]
 simp [bA]
theorem ixK_lt{a:κ}:∀ {l:List (κ × ν)} {i:Nat} {p:Nat × ν},ixK a l i=some p->i<=p.1/\l[p.1-i]?=some (a,p.2)
 |[],_,_,h=>by cases h
 |(b,v)::l,i,p,h=>by
  unfold ixK at h
  split at h
  ·rename_i e
   injection h with h;subst h;subst e
   simp
  ·obtain ⟨h1,h2⟩:=ixK_lt h
   refine ⟨by omega,?_⟩
   rw[show p.1-i=(p.1-(i+1))+1 by omega];exact h2
theorem getK_mem{a:κ}{l:List (κ × ν)}{v:ν}(h:zL l a=some v):(a,v)∈l:=by
 unfold zL at h
 rw[Option.map_eq_some_iff] at h
 obtain ⟨p,hp,rfl⟩:=h
 exact List.mem_of_getElem? (ixK_lt hp).2
structure KeyOk (P:Program) (K:TypeId) (ke:κ->Value):Prop where
 chk:∀ (e:Bool) (a:κ) (w:World),(Instr.checkKey e 10000 K (ke a)).run P w=.ok () w
 find:∀ {ν:Type} (ve:ν->Value) (l:List (κ × ν)) (a:κ) (w:World),(Instr.findKey K (ke a) (bA ke ve l 0)).run P w=.ok ((ixK a l 0).map fun p=>(p.1,ve p.2)) w
def mapKB(P:Program)(T:TypeId):Option (TypeId × TypeId):=match P.underlying T with
 |some (.map K E)=>some (K,E)
 |_=>none
theorem mapK_of{P:Program}{T K E:TypeId}(h:mapKB P T=some (K,E)):P.underlying T=some (.map K E):=by
 unfold mapKB at h
 split at h
 ·rename_i a b e;injection h with h;injection h with h1 h2;subst h1;subst h2;exact e
 ·cases h
def zeroVm(P:Program)(T:TypeId):Option Value:=match P.info? T with
 |some i=>i.zero
 |none=>none
theorem run_zeroVm{P:Program}{T:TypeId}{v:Value}(h:zeroVm P T=some v)(w:World):(zeroValue T).run P w=.ok v w:=by
 unfold zeroVm at h
 cases hi:P.info? T with
 |none=>rw[hi] at h;cases h
 |some i=>
  rw[hi] at h
  simp only[] at h
  simp [zeroValue,typeInfo,hi,h]
section
variable {P:Program} {T K E:TypeId} {w:World} {b:Nat} {ke:κ->Value} {ve:ν->Value} {l:List (κ × ν)}
theorem run_getK(hT:mapKB P T=some (K,E))(hK:KeyOk P K ke){z:Value}(hz:zeroVm P E=some z)(hb:w.heap[b]?=some (vF ke ve l))(a:κ)(ok:Bool) :
  (Instr.lookup T (.map (some b)) (ke a) ok).run P w=.ok (if ok then .tuple #[((zL l a).map ve).getD z,.bool (zL l a).isSome] else ((zL l a).map ve).getD z) w:=by
 have h1:=mapK_of hT
 have hf:=hK.find ve l a w
 have hc:=hK.chk (bA ke ve l 0).toArray.isEmpty a w
 simp only[Instr.lookup,Sem.run_bind,run_underlying h1,MapKept.run_getObj_map (show w.heap[b]?=some (.map (bA ke ve l 0).toArray l.length) from hb),Result.andThen_ok,Sem.run_pure,hc,List.toList_toArray,hf]
 unfold zL
 cases ixK a l 0 with
 |none=>cases ok<;>simp [run_zeroVm hz]
 |some p=>cases ok<;>simp
theorem run_insK(hT:mapKB P T=some (K,E))(hK:KeyOk P K ke)(hb:w.heap[b]?=some (vF ke ve l))(a:κ)(v:ν)(hn:zL l a=none) :
  (Instr.mapUpdate T (.map (some b)) (ke a) (ve v)).run P w=.ok () (w.putObj b (vF ke ve (l++[(a,v)]))):=by
 have h1:=mapK_of hT
 have hf:=hK.find ve l a w
 have hc:=hK.chk false a w
 have hn2:ixK a l 0=none:=by
  unfold zL at hn
  exact Option.map_eq_none_iff.1 hn
 rw[hn2] at hf
 simp only[Instr.mapUpdate,Sem.run_bind,run_underlying h1,MapKept.run_getObj_map (show w.heap[b]?=some (.map (bA ke ve l 0).toArray l.length) from hb),Result.andThen_ok,hc,List.toList_toArray,hf,Option.map_none,MapKept.run_setObj_map _ hb,mpo_push]
 simp [World.putObj]
end
end
theorem findNow_str(P:Program)(a:ByteArray){ν:Type}(ve:ν->Value)[DecidableEq ByteArray]:∀ (l:List (ByteArray × ν)) (i:Nat),Instr.findNow .string (.string a) (bA (fun s=>Value.string s) ve l i) i=some ((ixK a l i).map fun p=>(p.1,ve p.2))
 |[],_=>rfl
 |(b,v)::l,i=>by
  have ih:=findNow_str P a ve l (i+1)
  unfold bA ixK Instr.findNow
  by_cases h:a=b
  ·rw[if_pos h]
   have:(a == b)=true:=(MapKept.bytes_beq a b).2 h
   simp only[Instr.sameNow,this];rfl
  ·rw[if_neg h]
   have:(a == b)=false:=by rw[<- Bool.not_eq_true];exact fun e=>h ((MapKept.bytes_beq a b).1 e)
   simp only[Instr.sameNow,this]
   exact ih
def strKB(P:Program)(K:TypeId):Bool:=match P.underlying K with
 |some .string=>true
 |_=>false
theorem keyOk_str{P:Program}{K:TypeId}(h:strKB P K=true)[DecidableEq ByteArray]:KeyOk P K (fun s:ByteArray=>Value.string s):=by
 have hk:P.underlying K=some .string:=by
  unfold strKB at h
  split at h
  ·rename_i e;exact e
  ·cases h
 exact ⟨fun e a w=>MapKept.run_checkKey (k:=.string a) hk trivial e 9999,fun ve l a w=>MapKept.run_findKey hk (findNow_str P a ve l 0)⟩
theorem run_cks{P:Program}(em:Bool)(k:IntKind){E:TypeId}{j:IntKind}(hE:P.underlying E=some (.int j))(hsz:∀ w,(sizeOf E).run P w=.ok 1 w)(n:Nat)(w:World)(ms:List Int):∀ (m i:Nat),ms.length=i+m ->
  Sem.run P (forIn (List.range' i m) PUnit.unit fun f _=>do
       let a <- sizeOf E
       let b <- part E (List.map (Value.int k) ms).toArray (f*a)
       Instr.checkKey em (n+1) E b
       pure (ForInStep.yield PUnit.unit)) w=.ok PUnit.unit w
 |0,i,_=>by simp
 |m+1,i,h=>by
  have b1:i<ms.length:=by omega
  have ih:=run_cks em k hE hsz n w ms m (i+1) (by omega)
  have hck:∀ z:Int,(Instr.checkKey em (n+1) E (.int k z)).run P w=.ok () w:=fun z=>by
   unfold Instr.checkKey
   simp [run_underlying hE]
  simp only[List.range'_succ,List.forIn_cons,Sem.run_bind,hsz w,Result.andThen_ok,Nat.mul_one,iG hE (List.getElem?_eq_getElem b1),hck,Sem.run_pure,ih]
theorem findAsk_arr{P:Program}{K:TypeId}{n:Nat}(h:eqaB P K=some n)(k:IntKind){κ ν:Type}[DecidableEq κ](f:κ->List Int)(hl:∀ a,(f a).length=n)(hi:∀ a b,f a=f b->a=b)(ve:ν->Value)(a:κ)(w:World):∀ (l:List (κ × ν)) (i:Nat),
  (Instr.findAsking K (.agg ((f a).map (Value.int k)).toArray) (bA (fun a=>.agg ((f a).map (Value.int k)).toArray) ve l i) i).run P w=.ok ((ixK a l i).map fun p=>(p.1,ve p.2)) w
 |[],i=>by simp [bA,Instr.findAsking,ixK]
 |(b,v)::l,i=>by
  have ih:=findAsk_arr h k f hl hi ve a w l (i+1)
  have e:=(run_eqA h k (f a) (f b) (hl a) (hl b) w).1
  unfold bA ixK Instr.findAsking
  simp only[Sem.run_bind,e,Result.andThen_ok]
  by_cases hab:a=b
  ·subst hab
   simp
  ·have:f a≠f b:=fun e=>hab (hi a b e)
   rw[if_neg hab]
   simp [this,ih]
theorem eqa_of{P:Program}{T:TypeId}{n:Nat}(h:eqaB P T=some n):∃ E j i,P.underlying T=some (.array n E)/\P.underlying E=some (.int j)/\P.info? E=some i/\i.size=1:=by
 unfold eqaB at h
 split at h
 ·rename_i m E hT
  split at h
  ·rename_i j i hE hi
   split at h
   ·rename_i hq
    simp only[Bool.and_eq_true,Bool.not_eq_true'] at hq
    injection h with h;subst h
    exact ⟨E,j,i,hT,hE,hi,Nat.eq_of_beq_eq_true hq.1⟩
   ·cases h
  ·cases h
 ·cases h
theorem keyOk_arr{P:Program}{K:TypeId}{n:Nat}(h:eqaB P K=some n)(k:IntKind){κ:Type}[DecidableEq κ](f:κ->List Int)(hl:∀ a,(f a).length=n)(hi:∀ a b,f a=f b->a=b):KeyOk P K (fun a=>Value.agg ((f a).map (Value.int k)).toArray):=by
 obtain ⟨E,j,i,h1,h2,h3,h4⟩:=eqa_of h
 refine ⟨fun e a w=>?_,fun ve l a w=>?_⟩
 ·have hs:∀ w,(sizeOf E).run P w=.ok 1 w:=fun w=>by simp [sizeOf,typeInfo,h3,h4]
  have hr:=run_cks (P:=P) e k h2 hs 9998 w (f a) n 0 (by rw[hl];omega)
  unfold Instr.checkKey
  simp only[Sem.run_bind,run_underlying h1,Result.andThen_ok]
  have hr2:=hr
  simp at hr2 ⊢
  rw[hr2];rfl
 ·cases l with
  |nil=>simp [Instr.findKey,bA,Instr.findNow,run_underlying h1,ixK]
  |cons p l=>
   obtain ⟨b,v⟩:=p
   have hn:Instr.findNow (.array n E) (.agg ((f a).map (Value.int k)).toArray) (bA (fun a=>Value.agg ((f a).map (Value.int k)).toArray) ve ((b,v)::l) 0) 0=none:=by
    unfold bA Instr.findNow
    rfl
   have:=findAsk_arr h k f hl hi ve a w ((b,v)::l) 0
   simp only[Instr.findKey,Sem.run_bind,run_underlying h1,Result.andThen_ok,hn]
   exact this
section
variable {P:Program} {o:Oper} {S:Nat->SV} {κ ν:Type} [DecidableEq κ] {ke:κ->Value} {ve:ν->Value} {l:List (κ × ν)} {T K E:TypeId} {k:Nat}
theorem odd_map{w:World}{D:kV}{β:kU}{ob:Obj}{b:Nat}(h:uC w D β k [.mo ob])(hb:β k=some b):w.heap[b]?=some ob/\Obj.isMp ob=true/\∀ t o,¬ D t b o:=by
 rcases h with (⟨_,h⟩ | ⟨b',ob',h1,h2,h3,h4,h5⟩) | ⟨b',vs,T,h1,h2,h3,h4,_⟩
 ·cases h
 ·rw[hb] at h1;injection h1 with h1;subst h1
  injection h4 with h4;injection h4 with h4;subst h4
  exact ⟨h2,h3,h5⟩
 ·obtain ⟨u,_,_,h⟩:=h4 0 _ rfl
  exact h.elim
theorem e_getK{x y:Operand}{z:Value}{a:κ}{ok:Bool}(ho:o.op=.lookup T x y ok)(hT:mapKB P T=some (K,E))(hK:KeyOk P K ke)(hz:zeroVm P E=some z)(hx:ev S x=.mp k)(hy:∀ (w:World) (D:kV) (β:kU) (v:Value),kT w D β v (ev S y)->v=ke a) :
  uN P o S [(k,[.mo (vF ke ve l)])] (.d (if ok then .tup [.val (((zL l a).map ve).getD z),.val (.bool (zL l a).isSome)] else .val (((zL l a).map ve).getD z))) :=
 uN.same fun w0 w D β hop hrd=>by
  have h1:=hop x (by simp [ho,Op.operands])
  have h2:=hop y (by simp [ho,Op.operands])
  rw[hx] at h1
  obtain ⟨b,hb,e1⟩:=h1
  have e2:=hy w D β _ h2
  obtain ⟨g1,_,_⟩:=odd_map (hrd (k,[.mo (vF ke ve l)]) (by simp)) hb
  refine ⟨_,by simp only[execOp,ho,e1,e2,Sem.run_bind,run_getK hT hK hz g1 a ok,Result.andThen_ok];rfl,?_⟩
  cases ok with
  |true=>exact uQ.tup [_,_] rfl (fun i v d hv hd=>by
    match i with
    |0=>simp at hv hd;subst hv;subst hd;exact .val _
    |1=>simp at hv hd;subst hv;subst hd;exact .val _
    |i+2=>simp at hv)
  |false=>exact uQ.val _
theorem t_insK{x y z:Operand}{a:κ}{v:ν}(ho:o.op=.mapUpdate T x y z)(hT:mapKB P T=some (K,E))(hK:KeyOk P K ke)(hx:ev S x=.mp k)(hy:∀ (w:World) (D:kV) (β:kU) (u:Value),kT w D β u (ev S y)->u=ke a)(hz:∀ (w:World) (D:kV) (β:kU) (u:Value),kT w D β u (ev S z)->u=ve v)(hn:zL l a=none) :
  TOk P o S k [.mo (vF ke ve l)] [.mo (vF ke ve (l++[(a,v)]))]:=fun w0 w D β Q hop hb hD=>by
 have h1:=hop x (by simp [ho,Op.operands])
 have h2:=hop y (by simp [ho,Op.operands])
 have h3:=hop z (by simp [ho,Op.operands])
 rw[hx] at h1
 obtain ⟨b,hkb,e1⟩:=h1
 have e2:=hy w D β _ h2
 have e3:=hz w D β _ h3
 obtain ⟨g1,g2,g3⟩:=odd_map hb hkb
 have hlt:=qX g1
 have hrun:(execOp w0.eval o).run P w=.ok .skip (w.putObj b (vF ke ve (l++[(a,v)]))):=by
  simp only[execOp,ho,e1,e2,e3,Sem.run_bind,run_insK hT hK g1 a v hn,Result.andThen_ok];rfl
 refine wp_skip_ hrun ⟨rfl,b,hkb,⟨rfl,rfl,rfl,by simp [World.putObj],fun j hj=>World.putObj_heap_other hj,fun vs T f h=>by rw[g1] at h;injection h with h;cases h⟩,g3,.inl (.inr ⟨b,_,hkb,World.putObj_heap_same hlt,rfl,rfl,g3⟩)⟩
theorem n_mapK(ke:κ->Value)(ve:ν->Value)(b:Nat)(ho:o.op=.makeMap T none):NOk P o S b [.mo (vF ke ve [])] (.mp b):=fun w0 w D β Q hop hD=>by
 have hrun:(execOp w0.eval o).run P w=.ok (.value (.map (some w.heap.size))) (w.alloc (.map #[] 0)):=by
  simp [execOp,ho,Instr.makeMap]
 have hb:Below w.heap.size w (w.alloc (.map #[] 0)):=(Below.refl _ _).alloc (Nat.le_refl _) _
 have hnd:∀ t o,¬ D t w.heap.size o:=fun t o hd=>Nat.lt_irrefl _ (hD t _ o hd)
 refine mU hrun ⟨_,D,w.heap.size,rfl,hb,fW.of_same D,Nat.le_refl _,by simp,hnd,.inl (.inr ⟨w.heap.size,_,by simp [kU.set],World.alloc_heap_new w _,rfl,rfl,hnd⟩),⟨w.heap.size,by simp [kU.set],rfl⟩⟩
end
section
variable {P:Program} {S:SL} {B:BS} {o:Oper} {x y z:Operand} {k:Nat} {T K E:TypeId} {κ ν:Type} [DecidableEq κ] {ke:κ->Value} {ve:ν->Value} {l:List (κ × ν)}
theorem oMm(b:Nat)(ke:κ->Value)(ve:ν->Value)(ho:o.op=.makeMap T none:=by exact rfl):NOk P o (kA S) b [.mo (vF ke ve [])] (.mp b):=n_mapK ke ve b ho
theorem oGm(hT:mapKB P T=some (K,E))(hK:KeyOk P K ke){zv:Value}(hz:zeroVm P E=some zv)(a:κ){d:jQ}(hd:∀ (w:World) (D:kV) (v:Value),uQ w D v d->v=ke a)(ho:o.op=.lookup T x y true:=by exact rfl)(hx:ev (kA S) x=.mp k:=by exact rfl)(hy:ev (kA S) y=.d d:=by exact rfl)(hb:jZ B k=some [.mo (vF ke ve l)]:=by exact rfl) :
  ROk P o S B k (.d (.tup [.val (((zL l a).map ve).getD zv),.val (.bool (zL l a).isSome)])) :=
 ⟨_,by
  have h:=e_getK (P:=P) (S:=kA S) (ve:=ve) (l:=l) (a:=a) ho hT hK hz hx (fun w D β v h=>by rw[hy] at h;exact hd w D v h)
  simpa using h,hb⟩
theorem oIm(hT:mapKB P T=some (K,E))(hK:KeyOk P K ke)(a:κ)(v:ν){d e:jQ}(hd:∀ (w:World) (D:kV) (u:Value),uQ w D u d->u=ke a)(he:∀ (w:World) (D:kV) (u:Value),uQ w D u e->u=ve v)(hn:zL l a=none)(ho:o.op=.mapUpdate T x y z:=by exact rfl)(hx:ev (kA S) x=.mp k:=by exact rfl)(hy:ev (kA S) y=.d d:=by exact rfl)(hz:ev (kA S) z=.d e:=by exact rfl)(hb:jZ B k=some [.mo (vF ke ve l)]:=by exact rfl) :
  TK P o S B k [.mo (vF ke ve (l++[(a,v)]))] :=
 ⟨_,t_insK (a:=a) (v:=v) ho hT hK hx (fun w D β u h=>by rw[hy] at h;exact hd w D u h) (fun w D β u h=>by rw[hz] at h;exact he w D u h) hn,hb⟩
end
section
variable {P:Program} {S:SL} {B:BS} {o:Oper} {x y:Operand} {k:Nat} {T:TypeId}
theorem oLf{α:Type}{F:α->jQ}{L:List α}{s i n:Nat}(hs:kZ P T=some (true,n))(j:Nat)(d:α)(c:jQ)(ho:o.op=.load T x:=by exact rfl)(hx:ev (kA S) x=.ref k (j*s+i):=by exact rfl)(hb:jZ B k=some (qS F L):=by exact rfl)(hF:∀ g,(F g).cells.length=s:=by intro g;kernel_rfl)(hi:Nat.ble (i+n) s=true:=by kernel_rfl)
  (hG:gR true ((((F (L.getD j d)).cells.drop i).take n).map SV.d)=.d c:=by kernel_rfl) (h1:j<L.length:=by omega):ROk P o S B k (.d c):=by
 have hi2:i+n<=s:=Nat.le_of_ble_eq_true hi
 have hrm:=bxs_room (s:=s) h1
 have hb1:(qS F L).length=L.length*s:=by unfold qS;rw[List.length_map,bxs_flen hF]
 have h:=lC (P:=P) (cs:=qS F L) ho hx hs (fun h=>by cases h) (by rw[hb1];omega) (mJ _)
 have e:((qS F L).drop (j*s+i)).take n=(((F (L.getD j d)).cells.drop i).take n).map SV.d:=by
  apply List.ext_getElem?
  intro r
  rw[List.getElem?_take,List.getElem?_map,List.getElem?_take]
  split
  ·rw[List.getElem?_drop,List.getElem?_drop,Nat.add_assoc]
   unfold qS
   rw[List.getElem?_map,bxs_cell hF d h1 (by omega)]
  ·rfl
 rw[e,hG] at h
 exact ⟨_,h,hb⟩
end
def SV.low:SV->Bool
 |.d _=>true
 |.own j _ _ _=>Nat.beq j 0
 |.ref j _=>Nat.beq j 0
 |.junk=>true
 |_=>false
theorem kT.low{w:World}{D:kV}{β β':kU}{v:Value}{x:SV}(h0:β' 0=β 0)(hx:x.low=true)(h:kT w D β v x):kT w D β' v x:=by
 cases x with
 |d x=>exact h
 |own j t s n=>
  have e:j=0:=Nat.eq_of_beq_eq_true hx
  subst e
  rcases h with ⟨k1,k2⟩ | ⟨b,cap,vs,k1,k2⟩
  ·exact .inl ⟨h0.trans k1,k2⟩
  ·exact .inr ⟨b,cap,vs,h0.trans k1,k2⟩
 |ref j o=>
  have e:j=0:=Nat.eq_of_beq_eq_true hx
  subst e
  obtain ⟨b,k1,k2⟩:=h
  exact ⟨b,h0.trans k1,k2⟩
 |junk=>trivial
 |_=>cases hx
section
variable {P:Program} {S S':SL} {B:BS}
end
section
variable {α:Type} {F:α->jQ}
variable {P:Program} {S S':SL} {B:BS}
end
theorem uC.take{w:World}{D:kV}{β:kU}{k n:Nat}{cs:List SV}(h:uC w D β k cs)(hm:hH cs=false):uC w D β k (cs.take n):=by
 rcases h with h | ⟨b,vs,T,g1,g2,g3,g4,g5⟩
 ·obtain ⟨h1,h2⟩:=h.cells hm
  subst h2;exact .inl (.inl ⟨h1,by simp⟩)
 ·refine .inr ⟨b,vs,T,g1,g2,by rw[List.length_take];omega,fun i x hx=>?_,g5⟩
  rw[List.getElem?_take] at hx
  split at hx
  ·exact g4 i x hx
  ·cases hx
theorem NOk.take{P:Program}{o:Oper}{S:Nat->SV}{k:Nat}{cs:List SV}{x:SV}(n:Nat)(h:NOk P o S k cs x)(hm:hH cs=false):NOk P o S k (cs.take n) x:=fun a w D β Q hop hD=>
 Oper.wp_mono (fun a' w' ⟨v,D',b,h1,h2,h3,h4,h5,h6,h7,h8⟩=>⟨v,D',b,h1,h2,h3,h4,h5,h6,h7.take hm,h8⟩) (h a w D β Q hop hD)
section
variable {P:Program} {n:Fr} {ops:Array Oper} {C:Ctx}
theorem steps_sound2{st st':PS}{l l2:List Oper}(h:Steps P n ops st l st')(hp:l.all gE=true)(hn:C.n=n){N:Nat}{Q:Exit->Act->World->Prop}(hk:∀ a' w',cJ C a' w' st'->wpListIn (fen n) N P ops Q l2 a' w'):∀ {a:Act} {w:World},cJ C a w st->wpListIn (fen n) N P ops Q (l++l2) a w:=by
 induction h with
 |nil=>intro a w hs;exact hk a w hs
 |cons h hr ih=>
  intro a w hs
  simp only[List.all_cons,Bool.and_eq_true] at hp
  refine wpListIn_step fun K hK=>?_
  have h1:=step_sound h hn hs (Q:=Q) fun a' w' hs'=>hK a' w' (ih hp.2 hk hs')
  split
  ·rename_i e;rw[if_pos e] at h1;exact iO hp.1 h1
  ·rename_i e;rw[if_neg e] at h1;exact ⟨fun _ _=>trivial,h1⟩
end
section
variable {P:Program} {n:Fr} {S0:SL} {B0:BS}
end
section
variable {P:Program} {S S':SL} {B B':BS} {o:Oper}
end
section
variable {P:Program} {n:Fr} {S0:SL} {B0:BS}
theorem kr_cutm{id:Nat}{Q:Exit->PS->Prop}{l:List Oper}(i:Nat)(S1:SL)(B1:BS)(S2:SL)(B2:BS)(t t':Nat){k k':Nat}(h1:SK P n l.toArray (KI S1 B1) S0 B0 (l.take i))(ht:kA S1 t=.mp k)(ht':kA S1 t'=.mp k')
  (h2:∀ b b',SK P n l.toArray (KI S2 B2) ((t,.mpx k b)::(t',.mpx k' b')::S1) B1 (l.drop i)) (hq:Q .normal ⟨S2,B2⟩) (hp:l.all gE=true:=by kernel_rfl):cZ P n (.region id l.toArray false) Q ⟨S0,B0⟩:=fun C a w N hn hs=>by
 obtain ⟨st1,g1,g2⟩:=h1
 subst hn
 have hp1:(l.take i).all gE=true:=List.all_eq_true.2 fun x hx=>List.all_eq_true.1 hp x (List.mem_of_mem_take hx)
 have hp2:(l.drop i).all gE=true:=List.all_eq_true.2 fun x hx=>List.all_eq_true.1 hp x (List.mem_of_mem_drop hx)
 refine wpIn_region_lit ?_
 have key:=steps_sound2 (C:=C) (l2:=l.drop i) (N:=N) (Q:=fun e a' w'=>∃ st',cJ C a' w' st'/\Q e st') g1 hp1 rfl (fun a' w' hs'=>?_) hs
 ·rw[List.take_append_drop] at key;exact key
 ·obtain ⟨D,β,hx⟩:=g2 C a' w' hs'
  have hr:=hx.slots t
  have hr':=hx.slots t'
  dsimp only at hr hr'
  rw[ht] at hr
  rw[ht'] at hr'
  obtain ⟨b,e1,e2⟩:=hr
  obtain ⟨b',e1',e2'⟩:=hr'
  obtain ⟨st2,k1,k2⟩:=h2 b b'
  refine steps_sound (C:=C) k1 hp2 rfl (fun a'' w'' hs''=>⟨_,k2 C a'' w'' hs'',hq⟩) ⟨D,β,hx.base,hx.mem,hx.high,fun u=>?_⟩
  show kT w' D β _ (kA ((t,_)::(t',_)::S1) u)
  rw[qL]
  split
  ·rename_i e;subst e;exact ⟨e1,e2⟩
  ·rw[qL]
   split
   ·rename_i e;subst e;exact ⟨e1',e2'⟩
   ·exact hx.slots u
end
section
variable {P:Program} {S S':SL} {B B':BS} {o:Oper}
theorem oOm(t:Nat){k b:Nat}{x:SV}(h:uN P o (kA ((t,.d (.val (.map (some b))))::S)) [] x)(ht:kA S t=.mpx k b:=by kernel_rfl):uN P o (kA S) [] x:=fun a w D β Q hop hr hD=>h a w D β Q (fun y hy=>by
 have hy':=hop y hy
 cases y with
 |tmp q=>
  show kT w D β _ (kA ((t,_)::S) q)
  rw[qL]
  split
  ·rename_i e
   subst e
   have h2:kT w D β _ (kA S t):=hy'
   rw[ht] at h2
   have e2:_=Value.map (some b):=h2.2
   rw[e2]
   exact uQ.val _
  ·exact hy'
 |_=>exact hy') hr hD
theorem cell_mps(j:Nat){cs cs':List SV}{B0:BS}(hj:jZ B j=some cs)(hl:cs'.length=cs.length)(hx:∀ (i:Nat) (x:SV),cs'[i]?=some x->cs[i]?=some x\/∃ t k b,kA S t=.mpx k b/\x=SV.mp k/\cs[i]?=some (SV.d (.val (.map (some b)))))(hm:hH cs=false)(hs1:S'.map (fun p=>kA S p.1)=S'.map (·.2))(hB:∀ i c,jZ B' i=some c->(i=j/\c=cs')\/jZ B i=some c):vE ⟨S,B⟩ ⟨S',B'⟩:=fun C a w ⟨D,β,hs⟩=>by
 have src:∀ {i c},jZ B' i=some c->∃ c',jZ B i=some c':=fun {i c} h=>by
  rcases hB i c h with ⟨e,_⟩ | h
  ·exact ⟨_,e▸hj⟩
  ·exact ⟨_,h⟩
 refine ⟨D,β,hs.base,⟨fun i c hi=>?_,fun i1 i2 c1 c2 q1 q2 b e1 e2=>?_⟩,fun i c hi b e=>?_,fun q=>?_⟩
 ·rcases hB i c hi with ⟨rfl,rfl⟩ | h
  ·rcases hs.mem.ok _ _ hj with hq0 | ⟨b,vs,T',g1,g2,g3,g4,g5⟩
   ·obtain ⟨h1,h2⟩:=hq0.cells hm
    subst h2
    exact .inl (.inl ⟨h1,List.eq_nil_of_length_eq_zero hl⟩)
   ·refine .inr ⟨b,vs,T',g1,g2,by rw[hl];exact g3,fun q x hq=>?_,g5⟩
    rcases hx q x hq with h | ⟨t,k,b2,h1,rfl,h3⟩
    ·exact g4 q x h
    ·obtain ⟨u,e1,e2,e3⟩:=g4 q _ h3
     have ev:=vB e3
     have hr:=hs.slots t
     dsimp only at hr
     rw[h1] at hr
     exact ⟨u,e1,e2,b2,hr.1,ev⟩
  ·exact hs.mem.ok _ _ h
 ·obtain ⟨d1,h1⟩:=src q1
  obtain ⟨d2,h2⟩:=src q2
  exact hs.mem.inj _ _ _ _ h1 h2 b e1 e2
 ·obtain ⟨d,h⟩:=src hi
  exact hs.high _ _ h b e
 ·show kT w D β _ (kA S' q)
  rcases fD hs1 q with h | h
  ·rw[h];trivial
  ·rw[h];exact hs.slots q
end
instance:DecidableEq ByteArray:=fun a b=>if h:a.data=b.data then isTrue (by cases a;cases b;cases h;rfl) else isFalse (fun e=>h (by rw[e]))
abbrev T3:=Int × Int × Int
def mH(a:T3):Value:=.agg (([a.1,a.2.1,a.2.2]).map (Value.int .i64)).toArray
def mO(s:ByteArray):Value:=.string s
def vW(z:Int):Value:=.int .i64 z
theorem keyT3{P:Program}{K:TypeId}(h:eqaB P K=some 3):KeyOk P K mH :=
 keyOk_arr h .i64 (fun a:T3=>[a.1,a.2.1,a.2.2]) (fun _=>rfl) (fun a b e=>by
  obtain ⟨a1,a2,a3⟩:=a
  obtain ⟨b1,b2,b3⟩:=b
  simp only[List.cons.injEq,and_true] at e
  obtain ⟨rfl,rfl,rfl⟩:=e
  rfl)
theorem keySt{P:Program}{K:TypeId}(h:strKB P K=true):KeyOk P K mO:=keyOk_str h
theorem rep_vals{w:World}{D:kV}{v:Value}{l:List Value}(h:uQ w D v (.agg (l.map .val))):v=.agg l.toArray:=by
 cases h with
 |agg vs hl h1 hr=>
  congr 1
  congr 1
  refine List.ext_getElem (by simpa using hl) fun i h2 h3=>?_
  have:=hr i vs[i] (.val l[i]) (List.getElem?_eq_getElem h2) (by rw[List.getElem?_map,List.getElem?_eq_getElem h3];rfl)
  exact vB this
theorem rep_T3{w:World}{D:kV}{v:Value}{a b c:Int}(h:uQ w D v (.agg [.val (.int .i64 a),.val (.int .i64 b),.val (.int .i64 c)])):v=mH (a,b,c):=rep_vals (l:=[.int .i64 a,.int .i64 b,.int .i64 c]) h
section
variable {P:Program} {S:SL} {B:BS} {o:Oper} {x y z:Operand} {k:Nat} {T K E:TypeId} {κ:Type} [DecidableEq κ] {ke:κ->Value} {l:List (κ × Int)}
theorem getI{a:κ}{l:List (κ × Int)}:((zL l a).map vW).getD (.int .i64 0)=.int .i64 ((zL l a).getD 0):=by cases zL l a<;>rfl
theorem oGi(hT:mapKB P T=some (K,E))(hK:KeyOk P K ke)(hz:zeroVm P E=some (.int .i64 0))(a:κ){d:jQ}(hd:∀ (w:World) (D:kV) (v:Value),uQ w D v d->v=ke a)(ho:o.op=.lookup T x y true:=by exact rfl)(hx:ev (kA S) x=.mp k:=by exact rfl)(hy:ev (kA S) y=.d d:=by exact rfl)(hb:jZ B k=some [.mo (vF ke vW l)]:=by exact rfl) :
  ROk P o S B k (.d (.tup [.val (.int .i64 ((zL l a).getD 0)),.val (.bool (zL l a).isSome)])):=by
 have h:=oGm (S:=S) (B:=B) hT hK hz a hd ho hx hy hb
 rwa [getI] at h
theorem oIi(hT:mapKB P T=some (K,E))(hK:KeyOk P K ke)(a:κ)(v:Int){d:jQ}(hd:∀ (w:World) (D:kV) (u:Value),uQ w D u d->u=ke a)(hn:(zL l a).isSome=false)(ho:o.op=.mapUpdate T x y z:=by exact rfl)(hx:ev (kA S) x=.mp k:=by exact rfl)(hy:ev (kA S) y=.d d:=by exact rfl)(hz:ev (kA S) z=.d (.val (.int .i64 v)):=by exact rfl)(hb:jZ B k=some [.mo (vF ke vW l)]:=by exact rfl) :
  TK P o S B k [.mo (vF ke vW (l++[(a,v)]))] :=
 oIm hT hK a v hd (fun w D u h=>vB h) (Option.not_isSome_iff_eq_none.1 (by rw[hn];decide)) ho hx hy hz hb
end
theorem cell_mps5{S S':SL}{B:BS}(j t t':Nat){cs:List SV}{k k' b b':Nat}{x0 x3 x4:SV}(ht:kA S t=.mpx k b)(ht':kA S t'=.mpx k' b')(hc:cs=[x0,.d (.val (.map (some b))),.d (.val (.map (some b'))),x3,x4])
  (hm:hH cs=false) (hs1:S'.map (fun p=>kA S p.1)=S'.map (·.2)):vE ⟨S,(j,some cs)::B⟩ ⟨S',(j,some [x0,.mp k,.mp k',x3,x4])::B⟩:=by
 subst hc
 refine cell_mps (B0:=B) (cs:=[x0,.d (.val (.map (some b))),.d (.val (.map (some b'))),x3,x4]) (cs':=[x0,.mp k,.mp k',x3,x4]) j (by rw[jJ,if_pos rfl]) rfl (fun i x h=>?_) hm hs1 (fun i c h=>?_)
 ·match i,h with
  |0,h=>exact .inl h
  |1,h=>exact .inr ⟨t,k,b,ht,(Option.some.inj h).symm,rfl⟩
  |2,h=>exact .inr ⟨t',k',b',ht',(Option.some.inj h).symm,rfl⟩
  |3,h=>exact .inl h
  |4,h=>exact .inl h
  |i+5,h=>cases h
 ·rw[jJ] at h
  split at h
  ·rename_i e;exact .inl ⟨e.symm,(Option.some.inj h).symm⟩
  ·rename_i e;exact .inr (by rw[jJ,if_neg e];exact h)
def uA(o:Int):Int:=if o=0\/o=1 then 0 else if o=6\/o=7 then 1 else if o=2\/o=3\/o=4\/o=5 then 2 else -1
theorem mE(o:Int):(uA o=0/\(o=0\/o=1))\/(uA o=1/\(o=6\/o=7))\/(uA o=2/\(o=2\/o=3\/o=4\/o=5))\/(uA o=-1/\¬ (o=0\/o=1)/\¬ (o=6\/o=7)/\¬ (o=2\/o=3\/o=4\/o=5)):=by
 unfold uA
 by_cases h1:o=0\/o=1
 ·exact .inl ⟨if_pos h1,h1⟩
 by_cases h2:o=6\/o=7
 ·exact .inr (.inl ⟨by rw[if_neg h1,if_pos h2],h2⟩)
 by_cases h3:o=2\/o=3\/o=4\/o=5
 ·exact .inr (.inr (.inl ⟨by rw[if_neg h1,if_neg h2,if_pos h3],h3⟩))
 ·exact .inr (.inr (.inr ⟨by rw[if_neg h1,if_neg h2,if_neg h3],h1,h2,h3⟩))
def unsB(x:qE):Bool:=((!x.num.neg&&!x.den.neg)&&(((x.num.gs.length:Nat):Int) == 0))&&(((x.den.gs.length:Nat):Int) == 0)
theorem uns_eq{x:qE}(h:unsB x=true):x=zr:=by
 obtain ⟨⟨n,g⟩,⟨m,d⟩⟩:=x
 unfold unsB at h
 simp only[Bool.and_eq_true,Bool.not_eq_true',beq_iff_eq] at h
 obtain ⟨⟨⟨h1,h2⟩,h3⟩,h4⟩:=h
 have e3:g=[]:=List.eq_nil_of_length_eq_zero (by omega)
 have e4:d=[]:=List.eq_nil_of_length_eq_zero (by omega)
 subst h1;subst h2;subst e3;subst e4
 rfl
def dN(x:kC):Prop:=uA x.op<0\/(uA x.op<2/\x.b≠0)\/(x.op=0/\(x.a≠0\/kX x.n=false))\/(x.op≠0/\unsB x.n=false)
instance (x:kC):Decidable (dN x):=by unfold dN;infer_instance
def eL(k:Int)(x:kC):Prop:=(0<uA x.op/\(x.a<0\/k<=x.a))\/(1<uA x.op/\(x.b<0\/k<=x.b))
instance (k:Int) (x:kC):Decidable (eL k x):=by unfold eL;infer_instance
def rngN(z:Int)(x:kC):Prop:=x.op=1/\(x.a<0\/z<=x.a)
instance (z:Int) (x:kC):Decidable (rngN z x):=by unfold rngN;infer_instance
def bC(ss:List Int)(x:kC):Int:=if uA x.op=0 then 1 else if x.op=6 then ss.getD x.a.toNat 0 else if x.op=7 then 2*ss.getD x.a.toNat 0 else ss.getD x.a.toNat 0+ss.getD x.b.toNat 0
def ndC(z:Int)(ss:List Int)(x:kC):Nat:=if dN x then 1 else if eL ((ss.length:Nat):Int) x then 5 else if rngN z x then 2 else if 4096<bC ss x then 3 else 0
def mS(t:List kC):Nat->List Int
 |0=>[]
 |k+1=>mS t k++[bC (mS t k) (t.getD k tz)]
theorem xV(t:List kC):∀ k,(mS t k).length=k
 |0=>rfl
 |k+1=>by rw[mS,List.length_append,xV t k];rfl
def lB(z:Int)(t:List kC)(k:Nat):Prop:=∀ i,i<k->ndC z (mS t i) (t.getD i tz)=0
theorem szUp_0(z:Int)(t:List kC):lB z t 0:=fun i h=>by omega
theorem szUp_s{z:Int}{t:List kC}{k:Nat}(h:lB z t k)(hk:ndC z (mS t k) (t.getD k tz)=0):lB z t (k+1):=fun i hi=>by
 rcases Nat.lt_or_ge i k with h1 | h1
 ·exact h i h1
 ·obtain rfl:i=k:=by omega
  exact hk
def szE(z:Int)(t:List kC):Nat->Nat->Nat
 |0,_=>0
 |f+1,k=>if ndC z (mS t k) (t.getD k tz)=0 then szE z t f (k+1) else ndC z (mS t k) (t.getD k tz)
def nB(z:Int)(t:List kC):Nat:=if z<0\/64<z then 2 else if t.length=0 then 1 else if 400<t.length then 3 else szE z t t.length 0
def dD(z:Int)(t:List kC):List Int:=if nB z t=0 then mS t t.length else []
theorem szE_0{z:Int}{t:List kC}:∀ {f k:Nat},szE z t f k=0↔∀ i,k<=i->i<k+f->ndC z (mS t i) (t.getD i tz)=0
 |0,k=>by simp only[szE,true_iff];intro i h1 h2;omega
 |f+1,k=>by
  unfold szE
  constructor
  ·intro h i h1 h2
   split at h
   ·rename_i h0
    rcases Nat.lt_or_ge k i with h3 | h3
    ·exact szE_0.1 h i (by omega) (by omega)
    ·obtain rfl:i=k:=by omega
     exact h0
   ·rename_i h0;exact absurd h h0
  ·intro h
   rw[if_pos (h k (Nat.le_refl _) (by omega))]
   exact szE_0.2 fun i h1 h2=>h i (by omega) (by omega)
theorem szE_at{z:Int}{t:List kC}{m:Nat}(hm:ndC z (mS t m) (t.getD m tz)≠0):∀ {f k:Nat},k<=m->m<k+f->(∀ i,k<=i->i<m->ndC z (mS t i) (t.getD i tz)=0)->szE z t f k=ndC z (mS t m) (t.getD m tz)
 |0,k,h1,h2,_=>by omega
 |f+1,k,h1,h2,h=>by
  unfold szE
  rcases Nat.lt_or_ge k m with h3 | h3
  ·rw[if_pos (h k (Nat.le_refl _) h3)]
   exact szE_at hm (by omega) (by omega) fun i a b=>h i (by omega) b
  ·obtain rfl:k=m:=by omega
   rw[if_neg hm]
theorem tm_1{z:Int}{t:List kC}(h:z<0\/64<z):nB z t=2:=if_pos h
theorem tm_2{z:Int}{t:List kC}(h:¬ (z<0\/64<z))(h1:t.length=0):nB z t=1:=by unfold nB;rw[if_neg h,if_pos h1]
theorem tm_3{z:Int}{t:List kC}(h:¬ (z<0\/64<z))(h1:t.length≠0)(h2:400<t.length):nB z t=3:=by unfold nB;rw[if_neg h,if_neg h1,if_pos h2]
theorem tm_e{z:Int}{t:List kC}(h:¬ (z<0\/64<z))(h1:t.length≠0)(h2:¬ 400<t.length):nB z t=szE z t t.length 0:=by unfold nB;rw[if_neg h,if_neg h1,if_neg h2]
theorem tm_no{z:Int}{t:List kC}{k:Nat}(h:¬ (z<0\/64<z))(h1:k<t.length)(h2:¬ 400<t.length)(hu:lB z t k)(hc:ndC z (mS t k) (t.getD k tz)≠0):nB z t=ndC z (mS t k) (t.getD k tz)/\dD z t=[]:=by
 have e:nB z t=ndC z (mS t k) (t.getD k tz):=by
  rw[tm_e h (by omega) h2]
  exact szE_at hc (by omega) (by omega) fun i _ hi=>hu i hi
 exact ⟨e,if_neg (by rw[e];exact hc)⟩
theorem tm_yes{z:Int}{t:List kC}(h:¬ (z<0\/64<z))(h1:t.length≠0)(h2:¬ 400<t.length)(hu:lB z t t.length):nB z t=0/\dD z t=mS t t.length:=by
 have e:nB z t=0:=by
  rw[tm_e h h1 h2]
  exact szE_0.2 fun i _ hi=>hu i (by omega)
 exact ⟨e,if_pos e⟩
theorem tm_n{z:Int}{t:List kC}(h:nB z t≠0):dD z t=[]:=if_neg h
theorem fY{z:Int}{t:List kC}(h:nB z t=0):0<=z/\z<=64/\t.length≠0/\t.length<=400/\lB z t t.length:=by
 by_cases h0:z<0\/64<z
 ·rw[tm_1 h0] at h;cases h
 by_cases h1:t.length=0
 ·rw[tm_2 h0 h1] at h;cases h
 by_cases h2:400<t.length
 ·rw[tm_3 h0 h1 h2] at h;cases h
 rw[tm_e h0 h1 h2] at h
 exact ⟨by omega,by omega,h1,by omega,fun i hi=>szE_0.1 h i (by omega) (by omega)⟩
theorem nd_0{z:Int}{ss:List Int}{x:kC}(h:ndC z ss x=0):¬ dN x/\¬ eL ((ss.length:Nat):Int) x/\¬ rngN z x/\bC ss x<=4096:=by
 unfold ndC at h
 split at h
 ·cases h
 ·rename_i h1
  split at h
  ·cases h
  ·rename_i h2
   split at h
   ·cases h
   ·rename_i h3
    split at h
    ·cases h
    ·rename_i h4
     exact ⟨h1,h2,h3,by omega⟩
theorem nd_1{z:Int}{ss:List Int}{x:kC}(h:dN x):ndC z ss x=1:=if_pos h
theorem nd_5{z:Int}{ss:List Int}{x:kC}(h:¬ dN x)(h2:eL ((ss.length:Nat):Int) x):ndC z ss x=5:=by unfold ndC;rw[if_neg h,if_pos h2]
theorem nd_2{z:Int}{ss:List Int}{x:kC}(h:¬ dN x)(h2:¬ eL ((ss.length:Nat):Int) x)(h3:rngN z x):ndC z ss x=2:=by unfold ndC;rw[if_neg h,if_neg h2,if_pos h3]
theorem nd_3{z:Int}{ss:List Int}{x:kC}(h:¬ dN x)(h2:¬ eL ((ss.length:Nat):Int) x)(h3:¬ rngN z x)(h4:4096<bC ss x):ndC z ss x=3:=by unfold ndC;rw[if_neg h,if_neg h2,if_neg h3,if_pos h4]
theorem nd_y{z:Int}{ss:List Int}{x:kC}(h:¬ dN x)(h2:¬ eL ((ss.length:Nat):Int) x)(h3:¬ rngN z x)(h4:¬ 4096<bC ss x):ndC z ss x=0:=by unfold ndC;rw[if_neg h,if_neg h2,if_neg h3,if_neg h4]
theorem sz_rng{z:Int}{t:List kC}:∀ {k:Nat},lB z t k->∀ j,j<k->1<=(mS t k).getD j 0/\(mS t k).getD j 0<=4096
 |0,_,j,h=>by omega
 |k+1,hu,j,hj=>by
  have ih:=sz_rng (k:=k) (fun i hi=>hu i (by omega))
  have hl:=xV t k
  obtain ⟨h1,h2,h3,h4⟩:=nd_0 (hu k (by omega))
  rw[hl] at h2
  unfold mS
  rcases Nat.lt_or_ge j k with h | h
  ·rw[List.getD_eq_getElem?_getD,List.getElem?_append_left (by omega),<- List.getD_eq_getElem?_getD]
   exact ih j h
  ·obtain rfl:j=k:=by omega
   rw[List.getD_eq_getElem?_getD,List.getElem?_append_right (by omega),hl,Nat.sub_self]
   show 1<=bC (mS t j) (t.getD j tz)/\bC (mS t j) (t.getD j tz)<=4096
   refine ⟨?_,h4⟩
   have hA:∀ a:Int,0<=a->a<j->1<=(mS t j).getD a.toNat 0:=fun a q1 q2=>(ih a.toNat (by omega)).1
   generalize t.getD j tz=x at *
   unfold bC eL dN at *
   rcases mE x.op with ⟨e,_⟩ | ⟨e,f⟩ | ⟨e,f⟩ | ⟨e,_⟩
   ·rw[if_pos e];exact Int.le_refl _
   ·have ha:=hA x.a (by omega) (by omega)
    rw[if_neg (by omega)]
    split
    ·exact ha
    ·split<;>omega
   ·have ha:=hA x.a (by omega) (by omega)
    have hb:=hA x.b (by omega) (by omega)
    rw[if_neg (by omega),if_neg (by omega),if_neg (by omega)]
    omega
   ·omega
def szI(t:List kC)(k:Nat)(o:List Int):Prop:=o.length=t.length/\o.take k=mS t k
theorem szI_0{t:List kC}:szI t 0 (List.replicate t.length 0):=⟨List.length_replicate,rfl⟩
theorem szI.at{t:List kC}{k:Nat}{o:List Int}(h:szI t k o){j:Nat}(hj:j<k)(hk:k<=t.length):o.getD j 0=(mS t k).getD j 0:=by
 rw[<- h.2,List.getD_eq_getElem?_getD,List.getD_eq_getElem?_getD,List.getElem?_take_of_lt hj]
theorem szI.put{t:List kC}{k:Nat}{o:List Int}(h:szI t k o)(hk:k<t.length){v:Int}(hv:v=bC (mS t k) (t.getD k tz)):szI t (k+1) (o.set k v):=by
 refine ⟨by rw[List.length_set];exact h.1,?_⟩
 have hl:=h.1
 rw[List.take_succ_eq_append_getElem (by rw[List.length_set];omega),List.getElem_set_self,List.take_set_of_le (Nat.le_refl k),h.2,mS,hv]
theorem set_getD{o:List Int}{k:Nat}{v:Int}(h:k<o.length):(o.set k v).getD k 0=v:=by
 rw[List.getD_eq_getElem?_getD,List.getElem?_set_self h];rfl
theorem szI_end{t:List kC}{o:List Int}(h:szI t t.length o):o=mS t t.length:=by
 rw[<- h.2,<- h.1,List.take_length]
def badB(x:kC):Bool:=(((decide (uA x.op<0)||(decide (uA x.op<2)&&(x.b != 0)))||((x.op == 0)&&((x.a != 0)||!(kX x.n))))||((x.op != 0)&&!(unsB x.n)))
def ordB(k:Int)(x:kC):Bool:=((decide (0<uA x.op)&&(decide (x.a<0)||decide (k<=x.a)))||(decide (1<uA x.op)&&(decide (x.b<0)||decide (k<=x.b))))
def rngB(z:Int)(x:kC):Bool:=((x.op == 1)&&(decide (x.a<0)||decide (z<=x.a)))
theorem bM{x:kC}:badB x=true↔dN x:=by
 unfold badB dN
 simp only[Bool.or_eq_true,Bool.and_eq_true,decide_eq_true_eq,beq_iff_eq,bne_iff_ne,Bool.not_eq_true',ne_eq,or_assoc]
theorem ordB_iff{k:Int}{x:kC}:ordB k x=true↔eL k x:=by
 unfold ordB eL
 simp only[Bool.or_eq_true,Bool.and_eq_true,decide_eq_true_eq]
theorem rngB_iff{k:Int}{x:kC}:rngB k x=true↔rngN k x:=by
 unfold rngB rngN
 simp only[Bool.or_eq_true,Bool.and_eq_true,decide_eq_true_eq,beq_iff_eq]
theorem not_of{b:Bool}{p:Prop}(h:b=true↔p)(hb:b=false):¬ p:=fun q=>by rw[h.2 q] at hb;cases hb
structure TmR (z:Int) (t:List kC) (k:Nat):Prop where
 z0:¬ (z<0\/64<z)
 kl:k<t.length
 tl:¬ 400<t.length
 up:lB z t k
theorem tmr{z:Int}{t:List kC}{k:Nat}(h:(decide (z<0)||decide (64<z))=false)(h1:((k:Nat):Int)<((t.length:Nat):Int))(h2:¬ 400<((t.length:Nat):Int))(hu:lB z t k):TmR z t k:=by
 rw[Bool.or_eq_false_iff,decide_eq_false_iff_not,decide_eq_false_iff_not] at h
 exact ⟨by omega,by omega,by omega,hu⟩
theorem zb_t{z:Int}{t:List kC}(h:(decide (z<0)||decide (64<z))=true):nB z t=2/\dD z t=[]:=by
 rw[Bool.or_eq_true,decide_eq_true_eq,decide_eq_true_eq] at h
 have e:=tm_1 (t:=t) h
 exact ⟨e,tm_n (by rw[e];decide)⟩
theorem zb_f{z:Int}(h:(decide (z<0)||decide (64<z))=false):¬ (z<0\/64<z):=by
 rw[Bool.or_eq_false_iff,decide_eq_false_iff_not,decide_eq_false_iff_not] at h
 omega
theorem tm_l0{z:Int}{t:List kC}(h:(decide (z<0)||decide (64<z))=false)(h1:t.length=0):nB z t=1/\dD z t=[]:=by
 have e:=tm_2 (zb_f h) h1
 exact ⟨e,tm_n (by rw[e];decide)⟩
theorem tm_lb{z:Int}{t:List kC}(h:(decide (z<0)||decide (64<z))=false)(h1:400<t.length):nB z t=3/\dD z t=[]:=by
 have e:=tm_3 (zb_f h) (by omega) h1
 exact ⟨e,tm_n (by rw[e];decide)⟩
theorem TmR.bad{z:Int}{t:List kC}{k:Nat}(h:TmR z t k)(hb:badB (t.getD k tz)=true):nB z t=1/\dD z t=[]:=by
 have e:=nd_1 (z:=z) (ss:=mS t k) (bM.1 hb)
 have:=tm_no h.z0 h.kl h.tl h.up (by rw[e];decide)
 rwa [e] at this
theorem TmR.ord{z:Int}{t:List kC}{k:Nat}(h:TmR z t k)(hb:badB (t.getD k tz)=false)(ho:ordB ((k:Nat):Int) (t.getD k tz)=true):nB z t=5/\dD z t=[]:=by
 have e:=nd_5 (z:=z) (ss:=mS t k) (not_of bM hb) (by rw[xV];exact ordB_iff.1 ho)
 have:=tm_no h.z0 h.kl h.tl h.up (by rw[e];decide)
 rwa [e] at this
theorem TmR.rng{z:Int}{t:List kC}{k:Nat}(h:TmR z t k)(hb:badB (t.getD k tz)=false)(ho:ordB ((k:Nat):Int) (t.getD k tz)=false)(hr:rngB z (t.getD k tz)=true):nB z t=2/\dD z t=[]:=by
 have e:=nd_2 (z:=z) (ss:=mS t k) (not_of bM hb) (by rw[xV];exact not_of ordB_iff ho) (rngB_iff.1 hr)
 have:=tm_no h.z0 h.kl h.tl h.up (by rw[e];decide)
 rwa [e] at this
structure NdR (z:Int) (t:List kC) (k:Nat):Prop where
 tm:TmR z t k
 bad:¬ dN (t.getD k tz)
 ord:¬ eL ((k:Nat):Int) (t.getD k tz)
 rng:¬ rngN z (t.getD k tz)
theorem ndr{z:Int}{t:List kC}{k:Nat}(h:TmR z t k)(hb:badB (t.getD k tz)=false)(ho:ordB ((k:Nat):Int) (t.getD k tz)=false)(hr:rngB z (t.getD k tz)=false):NdR z t k:=⟨h,not_of bM hb,not_of ordB_iff ho,not_of rngB_iff hr⟩
theorem NdR.big{z:Int}{t:List kC}{k:Nat}(h:NdR z t k){v:Int}(hv:v=bC (mS t k) (t.getD k tz)){o:List Int}(ho:k<o.length)(hb:4096<(o.set k v).getD k 0):nB z t=3/\dD z t=[]:=by
 rw[set_getD ho,hv] at hb
 have e:=nd_3 (z:=z) (ss:=mS t k) h.bad (by rw[xV];exact h.ord) h.rng hb
 have:=tm_no h.tm.z0 h.tm.kl h.tm.tl h.tm.up (by rw[e];decide)
 rwa [e] at this
theorem NdR.next{z:Int}{t:List kC}{k:Nat}(h:NdR z t k){v:Int}(hv:v=bC (mS t k) (t.getD k tz)){o:List Int}(ho:szI t k o)(hb:¬ 4096<(o.set k v).getD k 0):k+1<=t.length/\szI t (k+1) (o.set k v)/\lB z t (k+1):=by
 have hl:=ho.1
 have hk:=h.tm.kl
 rw[set_getD (by omega),hv] at hb
 exact ⟨hk,ho.put hk hv,szUp_s h.tm.up (nd_y h.bad (by rw[xV];exact h.ord) h.rng hb)⟩
theorem NdR.kd{z:Int}{t:List kC}{k:Nat}(h:NdR z t k):0<=uA (t.getD k tz).op:=by
 have:=h.bad;unfold dN at this;omega
theorem NdR.a{z:Int}{t:List kC}{k:Nat}(h:NdR z t k){o:List Int}(ho:szI t k o)(h0:uA (t.getD k tz).op≠0) :
  0<=(t.getD k tz).a/\(t.getD k tz).a.toNat<k/\o.getD (t.getD k tz).a.toNat 0=(mS t k).getD (t.getD k tz).a.toNat 0/\1<=o.getD (t.getD k tz).a.toNat 0/\o.getD (t.getD k tz).a.toNat 0<=4096:=by
 have h1:=h.kd
 have h2:=h.ord
 unfold eL at h2
 have ha:(t.getD k tz).a.toNat<k:=by omega
 have e:=ho.at ha (by have:=h.tm.kl;omega)
 have r:=sz_rng h.tm.up _ ha
 rw[<- e] at r
 exact ⟨by omega,ha,e,r⟩
theorem NdR.b{z:Int}{t:List kC}{k:Nat}(h:NdR z t k){o:List Int}(ho:szI t k o)(h0:uA (t.getD k tz).op≠0)(h6:(t.getD k tz).op≠6)(h7:(t.getD k tz).op≠7) :
  0<=(t.getD k tz).b/\(t.getD k tz).b.toNat<k/\o.getD (t.getD k tz).b.toNat 0=(mS t k).getD (t.getD k tz).b.toNat 0/\1<=o.getD (t.getD k tz).b.toNat 0/\o.getD (t.getD k tz).b.toNat 0<=4096:=by
 have h1:=h.kd
 have h2:=h.ord
 have h3:uA (t.getD k tz).op=2:=by rcases mE (t.getD k tz).op with ⟨a,b⟩ | ⟨a,b⟩ | ⟨a,b⟩ | ⟨a,b⟩<;>omega
 unfold eL at h2
 have ha:(t.getD k tz).b.toNat<k:=by omega
 have e:=ho.at ha (by have:=h.tm.kl;omega)
 have r:=sz_rng h.tm.up _ ha
 rw[<- e] at r
 exact ⟨by omega,ha,e,r⟩
theorem szN_c{ss:List Int}{x:kC}(h:uA x.op=0):(1:Int)=bC ss x:=(if_pos h).symm
theorem szN_n{ss:List Int}{x:kC}{v:Int}(h:uA x.op≠0)(h6:x.op=6)(hv:v=ss.getD x.a.toNat 0):v=bC ss x:=by
 unfold bC;rw[if_neg h,if_pos h6,hv]
theorem szN_q{ss:List Int}{x:kC}{v:Int}(h:uA x.op≠0)(h7:x.op=7)(hv:v=ss.getD x.a.toNat 0):2*v=bC ss x:=by
 unfold bC;rw[if_neg h,if_neg (by omega),if_pos h7,hv]
theorem szN_b{ss:List Int}{x:kC}{v w:Int}(h:uA x.op≠0)(h6:x.op≠6)(h7:x.op≠7)(hv:v=ss.getD x.a.toNat 0)(hw:w=ss.getD x.b.toNat 0):v+w=bC ss x:=by
 unfold bC;rw[if_neg h,if_neg h6,if_neg h7,hv,hw]
theorem tm_end{z:Int}{t:List kC}{k:Nat}{o:List Int}(h:(decide (z<0)||decide (64<z))=false)(h0:((t.length:Nat):Int)≠0)(h4:¬ 400<((t.length:Nat):Int))(hk:k<=t.length)(h5:¬ ((k:Nat):Int)<((t.length:Nat):Int))(ho:szI t k o)(hu:lB z t k):nB z t=0/\dD z t=o:=by
 obtain rfl:k=t.length:=by omega
 obtain ⟨e1,e2⟩:=tm_yes (zb_f h) (by omega) (by omega) hu
 exact ⟨e1,by rw[e2,szI_end ho]⟩
inductive bI (n:Nat) (L:List JV):kC->Prop
 |c {p:Rat} (hp:QL p 1048576):bI n L ⟨0,0,0,jN p⟩
 |v {a:Nat} (ha:a<n):bI n L ⟨1,(a:Int),0,zr⟩
 |add {a b:Nat} (ha:a<L.length) (hb:b<L.length):bI n L ⟨2,(a:Int),(b:Int),zr⟩
 |sub {a b:Nat} (ha:a<L.length) (hb:b<L.length):bI n L ⟨3,(a:Int),(b:Int),zr⟩
 |mul {a b:Nat} (ha:a<L.length) (hb:b<L.length):bI n L ⟨4,(a:Int),(b:Int),zr⟩
 |div {a b:Nat} (ha:a<L.length) (hb:b<L.length) (hz:xI (L.getD b jz).v.1 (L.getD b jz).v.2=false):bI n L ⟨5,(a:Int),(b:Int),zr⟩
 |neg {a:Nat} (ha:a<L.length):bI n L ⟨6,(a:Int),0,zr⟩
 |sq {a:Nat} (ha:a<L.length):bI n L ⟨7,(a:Int),0,zr⟩
theorem nat_of{a:Int}(h:0<=a):∃ m:Nat,a=(m:Int):=⟨a.toNat,by omega⟩
theorem nd_ok{bx:List R2}{t:List kC}{k:Nat}{ss:List Int}(h:ndC ((bx.length:Nat):Int) ss (t.getD k tz)=0)(hs:ss.length=k)(hq:nL (t.getD k tz).n (xW (t.getD k tz).n) 1048576)
  (hz:(t.getD k tz).op=5->xI (jA (jU bx t k) (t.getD k tz).b).v.1 (jA (jU bx t k) (t.getD k tz).b).v.2=false):bI bx.length (jU bx t k) (t.getD k tz):=by
 obtain ⟨h1,h2,h3,_⟩:=nd_0 h
 have hl:=cL bx t k
 rw[hs] at h2
 generalize t.getD k tz=x at *
 generalize jU bx t k=L at *
 obtain ⟨op,a,b,n⟩:=x
 unfold dN at h1
 unfold eL at h2
 unfold rngN at h3
 dsimp only at *
 have hu:op≠0->n=zr:=fun h=>uns_eq (by
  cases hh:unsB n with
  |true=>rfl
  |false=>exact absurd (Or.inr (Or.inr (Or.inr ⟨h,hh⟩))) h1)
 rcases mE op with ⟨e,f⟩ | ⟨e,f⟩ | ⟨e,f⟩ | ⟨e,f⟩
 ·have hb:b=0:=by omega
  subst hb
  rcases f with f | f
  ·subst f
   have ha:a=0:=by omega
   subst ha
   have hv:kX n=true:=by
    cases hh:kX n with
    |true=>rfl
    |false=>exact absurd (Or.inr (Or.inr (Or.inl ⟨rfl,Or.inr hh⟩))) h1
   rw[<- iN hv] at hq ⊢
   rw[eV] at hq
   exact .c (hq.ql)
  ·subst f
   obtain ⟨m,hm⟩:=nat_of (a:=a) (by omega)
   subst hm
   rw[hu (by decide)]
   exact .v (by omega)
 ·have hb:b=0:=by omega
  subst hb
  obtain ⟨m,hm⟩:=nat_of (a:=a) (by omega)
  subst hm
  rw[hu (by omega)]
  rcases f with f | f<;>subst f
  ·exact .neg (by omega)
  ·exact .sq (by omega)
 ·obtain ⟨m,hm⟩:=nat_of (a:=a) (by omega)
  subst hm
  obtain ⟨l,hl'⟩:=nat_of (a:=b) (by omega)
  subst hl'
  rw[hu (by omega)]
  rcases f with f | f | f | f<;>subst f
  ·exact .add (by omega) (by omega)
  ·exact .sub (by omega) (by omega)
  ·exact .mul (by omega) (by omega)
  ·refine .div (by omega) (by omega) ?_
   have:=hz rfl
   unfold jA at this
   rwa [Int.toNat_natCast] at this
 ·omega
structure JRun (bx:List R2) (t:List kC):Prop where
 c0:nB ((bx.length:Nat):Int) t=0
 ok:∀ k,k<t.length->nS 1048576 bx.length (nJ bx (jU bx t k) (t.getD k tz))
 dz:∀ k,k<t.length->(t.getD k tz).op=5->xI (jA (jU bx t k) (t.getD k tz).b).v.1 (jA (jU bx t k) (t.getD k tz).b).v.2=false
theorem JRun.upto{bx:List R2}{t:List kC}(h:JRun bx t):∀ {k},k<=t.length->∀ y∈jU bx t k,nS 1048576 bx.length y
 |0,_,y,hy=>by simp [jU] at hy
 |k+1,hk,y,hy=>by
  rw[jU,List.mem_append] at hy
  rcases hy with hy | hy
  ·exact h.upto (by omega) y hy
  ·rw[List.mem_singleton] at hy;subst hy
   exact h.ok k (by omega)
theorem JRun.nd{bx:List R2}{t:List kC}(h:JRun bx t)(hq:∀ x∈t,nL x.n (xW x.n) 1048576){k:Nat}(hk:k<t.length):bI bx.length (jU bx t k) (t.getD k tz):=by
 have h0:=fY h.c0
 refine nd_ok (h0.2.2.2.2 k hk) (xV t k) ?_ (h.dz k hk)
 rw[List.getD_eq_getElem?_getD,List.getElem?_eq_getElem hk];exact hq _ (List.getElem_mem _)
def qN(bx:List R2)(t:List kC):JV:=(jU bx t t.length).getD (t.length-1) jz
theorem JRun.last{bx:List R2}{t:List kC}(h:JRun bx t):nS 1048576 bx.length (qN bx t):=by
 have h0:=fY h.c0
 have hl:=cL bx t t.length
 unfold qN
 rw[List.getD_eq_getElem?_getD,List.getElem?_eq_getElem (by omega)]
 exact h.upto (Nat.le_refl _) _ (List.getElem_mem _)
end Go.Fid
