/- Part 9 of a proof: rules, plain facts, and functions walked. -/
import Derived.Test.YteimogfidbkpnaaGreatM8
set_option linter.all false
namespace Go.Fid
open Go.RowKit (Below)
structure Backs (P:Program) (fB fI:FuncId) (T:TypeId):Prop where
 call:∀ (a:Option Addr) (len cap:Nat) (w:World),Calls P fB #[.slice a len cap] w fun e w'=>e=.returned (.func (.func fI) #[] #[.pointer (some ⟨w.heap.size,0,none⟩)])∧w'=w.alloc (.cells #[.slice a len cap] T)
 empty:∀ (N l b cap:Nat) (ao:Option Addr) (J:World→Prop) (W:World),W.cell? ⟨b,0,none⟩=some (.slice ao 0 cap)→J W →
  CallsIn Fence.wide (N+1) P fI #[.func (.yield l) #[] #[],.pointer (some ⟨b,0,none⟩)] W fun e W'=>(∃ v,e=.returned v)∧J W'
 rounds:∀ (N l c b off len cap:Nat) (u:Nat→Value),(len:Int)≤9223372036854775807→∀ (J:Nat→World→Prop) (Jx:World→Prop),
  (∀ j W,J j W→W.cell? ⟨c,0,none⟩=some (.slice (some ⟨b,off,none⟩) len cap)∧∀ i,i<len→W.cell? ⟨b,off+i,none⟩=some (u i)) →
  (∀ j W,J j W→j<len→YieldAt Fence.wide N P l #[.int .i64 ((len:Int)-1-(j:Int)),u (len-1-j)] W fun e W'=>(e=.returned (.bool true)∧J (j+1) W')∨(e=.returned (.bool false)∧Jx W')) →
  ∀ W,J 0 W→CallsIn Fence.wide (N+1) P fI #[.func (.yield l) #[] #[],.pointer (some ⟨c,0,none⟩)] W fun e W'=>(∃ v,e=.returned v)∧(J len W'∨Jx W')
 enters:∀ args w,(callFunc fI args).run P w=.ok (.enter fI args) w
theorem callsIn_any{P:Program}{f:FuncId}{args:Array Value}{w:World}{R:Ending→World→Prop}{n m:Nat}(h:CallsIn Fence.wide n P f args w R):CallsIn Fence.wide m P f args w R:=callsIn_wide.2 (callsIn_wide.1 h)
section
variable {C:eP} {a a':Act} {w w':World} {st:PS} {D:qE} {β:qD}
theorem sim_repin(h:nR C a w st)(a0:Act)(hs:∀ p∈st.sl,p.1<C.n.lo)(hsz:a0.tmps.size=C.n.hi)(hp:∀ t,t<C.n.lo→a0.tmps.getD t undef=C.tm.getD t undef)(hd:DfOk C.w0.heap.size w a0.defers):nR C a0 w st:=by
 obtain ⟨D,β,h⟩:=h
 refine ⟨D,β,⟨hd,hsz,h.base.keep,h.base.oth,hp,h.base.below,h.base.dmono,h.base.dnew,h.base.dok⟩,h.mem,h.high,fun t=>?_⟩
 by_cases ht:t<C.n.lo
 ·rw[hp t ht,← h.base.pin t ht];exact h.slots t
 ·have:jW st.sl t=.junk:=by
   have hne:∀ p∈st.sl,p.1≠t:=fun p hp e=>ht (e▸hs p hp)
   revert hne
   generalize st.sl=l
   intro hne
   induction l with
   |nil=>rfl
   |cons p l ih=>
    obtain ⟨j,x⟩:=p
    rw[qO,if_neg (hne (j,x) (by simp))]
    exact ih fun q hq=>hne q (by simp [hq])
  rw[this];trivial
theorem sim_turned{q:Nat}{ob ob':Obj}(h:nR C a w st)(hq:w.heap[q]?=some ob)(hc:ob.isCells=false)(hc':ob'.isCells=false)(h0:C.w0.heap.size≤q)(h1:C.w1.heap.size≤q)(hne:∀ ds,ob≠.deferred ds)(hmp:Obj.isMp ob=false:=by rfl):nR C a (w.putObj q ob') st:=by
 obtain ⟨D,β,h⟩:=h
 have hsz:(w.putObj q ob').heap.size=w.heap.size:=by simp [World.putObj]
 refine ⟨D,β,⟨h.base.defers.keep fun q' hq' _=>?_,h.base.size,fun t g o hd=>(turned_cell hq hc hc' g o).trans (h.base.keep t g o hd),fun k o hk ho=>?_,h.base.pin,turned_belowM h.base.below h0,h.base.dmono,h.base.dnew,fun t g o hd=>by rw[hsz];exact h.base.dok t g o hd⟩,
  ⟨fun k cs hk=>turned_blk hq hc hc' hmp (h.mem.ok k cs hk),h.mem.inj⟩,h.high,fun t=>eR hq hc hc' hmp (h.slots t)⟩
 ·have:q'≠q:=fun e=>by subst e;rw[hq] at hq';injection hq' with e;exact hne _ e
  exact (World.putObj_heap_other this).trans hq'
 ·have:k≠q:=fun e=>by subst e;have:=uN hk;omega
  exact (World.putObj_heap_other this).trans (h.base.oth k o hk ho)
theorem sim_from(h:nR C a w st):nR { C with w1:=w } a w st:=by
 obtain ⟨D,β,h⟩:=h
 exact ⟨D,β,⟨h.base.defers,h.base.size,fun _ _ _ _=>rfl,fun _ _ hk _=>hk,h.base.pin,h.base.below,h.base.dmono,h.base.dnew,h.base.dok⟩,h.mem,h.high,h.slots⟩
theorem sim_back{a0:Act}{st0:PS}(h:nR { C with w1:=w' } a w st)(h0:nR C a0 w' st0):nR C a w st:=by
 obtain ⟨D,β,h⟩:=h
 obtain ⟨D0,β0,h0⟩:=h0
 exact ⟨D,β,⟨h.base.defers,h.base.size,fun t g o hd=>(h.base.keep t g o hd).trans (h0.base.keep t g o hd),fun k o hk ho=>h.base.oth k o (h0.base.oth k o hk ho) ho,h.base.pin,h.base.below,h.base.dmono,h.base.dnew,h.base.dok⟩,h.mem,h.high,h.slots⟩
end
section
variable {P:Program} {n:Fr} {fB fI:FuncId} {T:TypeId} {S:SL} {B:BS} {Q:Exit→PS→Prop} {α:Type}
def BackQ(lo:Nat)(St:α→PS)(I:Nat→α→Prop)(Q:Exit→PS→Prop)(j:Nat):Exit→PS→Prop
 |.normal,st=>∃ y,kB st (St y)∧I (j+1) y
 |.ret,st=>∃ st',kB st st'∧(∀ p∈st'.sl,p.1<lo)∧Q .ret st'
 |_,_=>False
theorem out_of{C:eP}{a a1:Act}{w w1 w4:World}{D:qE}{β:qD}{st0 st:PS}{lo l q:Nat}{tm:Array Value}{rd:Option Nat}(hs:SimAt C a w st0 D β)(gV:Below w.heap.size w w1)(hq0:w.heap.size≤q)(hsz:a1.tmps.size=C.n.hi)(hpin:∀ t,t<C.n.lo→a1.tmps.getD t undef=a.tmps.getD t undef)
  (ha1:a1.defers=a.defers) (h:nR ⟨C.w0,fun t g o=>D t g o∨(t=l∧g=w.heap.size∧o=0),w1,tm,⟨lo,C.n.hi,rd⟩,C.mine⟩ { tmps:=a1.tmps,defers:=[] } w4 st) (hq:w4.heap[q]?=some (Obj.deferred (some []))) :
  nR C { a1 with defers:={ target:=.collected q,args:=#[] }::a1.defers } w4 st:=by
 obtain ⟨D',β',h⟩:=h
 have hb0:=hs.base.below.size
 refine ⟨D',β',⟨?_,hsz,fun t g o hd=>?_,fun k o hk ho=>?_,fun t ht=>(hpin t ht).trans (hs.base.pin t ht),h.base.below,fun t g o hd=>h.base.dmono _ _ _ (.inl (hs.base.dmono _ _ _ hd)),fun t g o hd=>?_,h.base.dok⟩,h.mem,h.high,h.slots⟩
 ·rw[ha1]
  refine .cons (by omega) hq ?_ (hs.base.defers.keep fun q' hq' _=>h.base.oth q' _ ((gV.block q' (uN hq')).trans hq') rfl)
  have key:∀ {ds:List Deferred},DfOk C.w0.heap.size w ds→∀ d∈ds,d.target≠.collected q:=by
   intro ds hd
   induction hd with
   |nil=>intro d hd;cases hd
   |cons h1 h2 h3 h ih=>
    intro d hd
    rcases List.mem_cons.1 hd with rfl | hd
    ·intro e
     injection e with e
     have:=uN h2
     omega
    ·exact ih d hd
  exact key hs.base.defers
 ·exact (h.base.keep t g o (.inl (hs.base.dmono _ _ _ hd))).trans ((nX gV (hs.base.dok t g o (hs.base.dmono _ _ _ hd))).trans (hs.base.keep t g o hd))
 ·have h1:=hs.base.oth k o hk ho
  exact h.base.oth k o ((gV.block k (uN h1)).trans h1) ho
 ·rcases h.base.dnew t g o hd with (h1 | ⟨_,h1,_⟩) | h1
  ·exact hs.base.dnew t g o h1
  ·exact .inr (hs.base.fresh (by omega))
  ·exact .inr h1
theorem pwp_back(hbk:Backs P fB fI T)(hcb:callB P fB=true)(hrd:n.rd=none){id rid:Nat}{o1 o2:Oper}{t0 ta tf p1 p2:Tmp}{ats:Array TypeId}{assign body:Code}{E:TypeId}{es:List jQ}(lo:Nat)(St:α→PS)(I:Nat→α→Prop)(x0:α)
  (h1:o1.op=.move (.tmp t0)) (h1d:o1.dst=some ta) (h1g:o1.guard=none) (h2:o2.op=.call { callee:=.value (.func fB),args:=#[.tmp ta],argTypes:=ats }) (h2d:o2.dst=some tf) (h2g:o2.guard=none)
  (hda:yX n (some ta)=true) (hdf:yX n (some tf)=true) (hd1:yX ⟨lo,n.hi,none⟩ (some p1)=true) (hd2:yX ⟨lo,n.hi,none⟩ (some p2)=true) (hlo:Nat.ble n.lo lo=true)
  (hx:jW S t0=.d (.sl E 1 es)) (hst:∀ x,∀ p∈(St x).sl,p.1<lo) (h0:kB ⟨(tf,.junk)::(ta,.junk)::S,B⟩ (St x0)) (hI:I 0 x0) (uB:(es.length:Int)≤9223372036854775807)
  (hround:∀ (l j:Nat) (x:α) (d:jQ),j<es.length→I j x→es[es.length-1-j]?=some d →
   qS P ⟨lo,n.hi,some l⟩ assign (PThen (qS P ⟨lo,n.hi,some l⟩ body (BackQ lo St I Q j)) (fun _ _=>False)) ⟨(p2,.d d)::(p1,.d (.val (.int .i64 ((es.length:Int)-1-(j:Int)))))::(St x).sl,(St x).bs⟩)
  (hcell:∀ e∈es,e.cells=[e]) (hend:∀ x,I es.length x→Q .normal (St x)) :
  qS P n (.seq (.region rid #[o1,o2] false) (.block id (.rangeFunc (.tmp tf) #[p1,p2] assign body))) Q ⟨S,B⟩:=fun C a w N hn hs=>by
 subst hn
 obtain ⟨D,β,hs⟩:=hs
 have hfen:fen C.n=Fence.wide:=by unfold fen;rw[hrd];rfl
 have hv:=hs.slots t0
 have hv':qG w D β (a.tmps.getD t0 undef) (jW S t0):=hv
 rw[hx] at hv'
 have hev:a.eval (.tmp t0)=a.tmps.getD t0 undef:=rfl
 generalize a.tmps.getD t0 undef=v at hv' hev
 have hv'':uT w D v (.sl E 1 es):=hv'
 have hflat:qA es=es:=by
  clear hst h0 hround hx hv hv' hv'' uB hend
  induction es with
  |nil=>rfl
  |cons e es ih=>rw[gN,hcell e (by simp),ih (fun e he=>hcell e (by simp [he]))];rfl
 cases hv'' with
 |sl g off u hnn hcc hmm hss ha hD hu dV hrr=>
 rename_i ad len cap
 subst hnn
 rw[hflat] at hD hu dV hrr
 obtain ⟨w1,hw1⟩:∃ w1,w1=w.alloc (.cells #[Value.slice ad es.length cap] T):=⟨_,rfl⟩
 obtain ⟨a1,ha1⟩:∃ a1:Act,a1=(a.put (some ta) (.slice ad es.length cap)).put (some tf) (.func (.func fI) #[] #[.pointer (some ⟨w.heap.size,0,none⟩)]):=⟨_,rfl⟩
 have gV:Below w.heap.size w w1:=by rw[hw1];exact (Below.refl _ w).alloc (Nat.le_refl _) _
 have hsz1:a1.tmps.size=C.n.hi:=by rw[ha1,put_size,put_size];exact hs.base.size
 have hdf1:a1.defers=a.defers:=by rw[ha1,put_defers,put_defers]
 have hsza:(a.put (some ta) (Value.slice ad es.length cap)).tmps.size=C.n.hi:=put_size.trans hs.base.size
 have hget1:∀ t,a1.tmps.getD t undef=if some tf=some t then .func (.func fI) #[] #[.pointer (some ⟨w.heap.size,0,none⟩)] else if some ta=some t then .slice ad es.length cap else a.tmps.getD t undef:=fun t=>by
  rw[ha1,vB hsza hdf,vB hs.base.size hda]
 have hpin1:∀ t,t<C.n.lo→a1.tmps.getD t undef=a.tmps.getD t undef:=fun t ht=>by
  simp only[yX,Bool.and_eq_true] at hda hdf
  have e1:=Nat.le_of_ble_eq_true hda.1
  have e2:=Nat.le_of_ble_eq_true hdf.1
  rw[hget1,if_neg (fun e=>by injection e with e;subst e;omega),if_neg (fun e=>by injection e with e;subst e;omega)]
 have hw1c:w1.cell? ⟨w.heap.size,0,none⟩=some (.slice ad es.length cap):=by
  rw[hw1]
  have:=heap_alloc_new w (.cells #[Value.slice ad es.length cap] T)
  rw[cell_of_row _ _ 0 _ _ _ this];rfl
 have hw1s:w1.heap.size=w.heap.size+1:=by rw[hw1];simp
 -- the context of the rounds
 obtain ⟨C1,hC1⟩:∃ C1:Nat→eP,C1=fun l=>⟨C.w0,fun t g o=>D t g o∨(t=T∧g=w.heap.size∧o=0),w1,a1.tmps,⟨lo,C.n.hi,some l⟩,C.mine⟩:=⟨_,rfl⟩
 have hsim1:∀ l,nR (C1 l) { tmps:=a1.tmps,defers:=[] } w1 (St x0):=fun l=>by
  refine h0 _ _ _ ?_
  rw[hC1]
  have hu':DUp D (fun t g o=>D t g o∨(t=T∧g=w.heap.size∧o=0)) w w1:=⟨fun _ _ _ h=>.inl h,fun t g o h=>by
   rcases h with h | ⟨_,h,_⟩
   ·exact .inl h
   ·exact .inr (by omega)⟩
  have hB:=hs.base.up gV hu'
  refine ⟨_,β,⟨.nil,hsz1,fun _ _ _ _=>rfl,fun _ _ h _=>h,fun _ _=>rfl,hB.below,fun _ _ _ h=>h,fun _ _ _ h=>.inl h,hB.dok⟩,hs.mem.up gV hu' hs.base.dok,hs.high,fun t=>?_⟩
  show qG w1 _ β (a1.tmps.getD t undef) (jW ((tf,.junk)::(ta,.junk)::S) t)
  rw[qO,qO,hget1]
  by_cases e1:tf=t
  ·rw[if_pos e1];trivial
  ·rw[if_neg e1,if_neg (fun e=>e1 (by injection e))]
   by_cases e2:ta=t
   ·rw[if_pos e2];trivial
   ·rw[if_neg e2,if_neg (fun e=>e2 (by injection e))]
    exact (hs.slots t).up gV hu' hs.base.dok
 have hp1:xP o1=true:=by simp [xP,h1]
 have hp2:xP o2=true:=by simp [xP,h2]
 refine wpIn_seq (wpIn_region_lit (wpListIn_plain h1g fun K1 hK1=>fQ hp1 (mM (v:=.slice ad es.length cap) (w':=w) ?_ (hK1 _ _ (wpListIn_plain h2g fun K2 hK2=>fQ hp2 (cD (f:=fB) (args:=#[.slice ad es.length cap]) (w':=w) ?_ ?_))))))
 ·simp only[execOp,h1,hev,Sem.run_pure]
 ·have hta:(a.put o1.dst (Value.slice ad es.length cap)).eval (.tmp ta)=.slice ad es.length cap:=by
   show (a.put o1.dst (Value.slice ad es.length cap)).tmps.getD ta undef=_
   rw[h1d,vB hs.base.size hda,if_pos rfl]
  have hfe:(a.put o1.dst (Value.slice ad es.length cap)).eval (.func fB)=.func (.func fB) #[] #[]:=rfl
  simp only[execOp,h2,resolve,Deferred.ofValue,hfe,Sem.run_bind,Sem.run_pure,Result.andThen_ok,invoke,Array.empty_append,Array.append_empty,List.map_toArray,List.map_cons,List.map_nil,hta]
  rw[yQ hcb]
 ·refine (hbk.call ad es.length cap w).mono ?_
  rintro e w' ⟨rfl,rfl⟩
  refine ⟨_,rfl,hK2 _ _ (wpListIn_nil ?_)⟩
  show (Code.block id (.rangeFunc (.tmp tf) #[p1,p2] assign body)).wpIn _ _ _ _ _ _
  rw[h1d,h2d,← hw1,← ha1,hfen]
  refine wpIn_block (wpIn_rangeFunc ?_)
  intro fn _
  have hrn:Fence.wide.round=none:=rfl
  rw[hrn]
  obtain ⟨rec,hrec⟩:∃ rec:LoopState→Option Code→Loop,rec=fun st pe=>{ state:=st,pending:=pe,fn,tmps:=a1.tmps,params:=#[p1,p2],assign,body,defers:=w1.heap.size }:=⟨_,rfl⟩
  obtain ⟨W1,hW1⟩:∃ W1,(w1.alloc (.deferred (some []))).alloc (.loop (rec .ready none))=W1:=⟨_,rfl⟩
  have hL1:W1.heap[w1.heap.size+1]?=some (.loop (rec .ready none)):=by
   rw[← hW1];have:=World.alloc_heap_new (w1.alloc (.deferred (some []))) (.loop (rec .ready none));rwa [World.size_alloc] at this
  have hK1':W1.heap[w1.heap.size]?=some (.deferred (some [])):=by
   rw[← hW1];exact (Below.heap_alloc _ _ _ (by simp)).trans (World.alloc_heap_new w1 _)
  have hbel1:Below w1.heap.size w1 W1:=by rw[← hW1];exact ((Below.refl _ w1).alloc (Nat.le_refl _) _).alloc (by simp) _
  have hfe:a1.eval (.tmp tf)=.func (.func fI) #[] #[.pointer (some ⟨w.heap.size,0,none⟩)]:=by
   show a1.tmps.getD tf undef=_
   rw[hget1,if_pos rfl]
  obtain ⟨l,hl⟩:∃ l,l=w1.heap.size+1:=⟨_,rfl⟩
  have hCw0:∀ l,(C1 l).w0=C.w0:=fun l=>by rw[hC1]
  have hCw1:∀ l,(C1 l).w1=w1:=fun l=>by rw[hC1]
  have hCn:∀ l,(C1 l).n=⟨lo,C.n.hi,some l⟩:=fun l=>by rw[hC1]
  have hCtm:∀ l,(C1 l).tm=a1.tmps:=fun l=>by rw[hC1]
  have hb0:=hs.base.below.size
  -- between two rounds
  obtain ⟨J,hJ⟩:∃ J:Nat→World→Prop,J=fun j W=>(∃ x,I j x∧nR (C1 l) { tmps:=a1.tmps,defers:=[] } W (St x))∧W.heap[l]?=some (.loop (rec .ready none))∧W.heap[w1.heap.size]?=some (.deferred (some [])):=⟨_,rfl⟩
  obtain ⟨Jx,hJx⟩:∃ Jx:World→Prop,Jx=fun W=>(∃ st',(∀ p∈st'.sl,p.1<lo)∧Q .ret st'∧nR (C1 l) { tmps:=a1.tmps,defers:=[] } W st')∧W.heap[l]?=some (.loop (rec .done (some .ret)))∧W.heap[w1.heap.size]?=some (.deferred (some [])):=⟨_,rfl⟩
  have hJ0:J 0 W1:=by
   rw[hJ]
   refine ⟨⟨x0,hI,?_⟩,hl▸hL1,hK1'⟩
   obtain ⟨D2,β2,h2s⟩:=hsim1 l
   have hu2:DUp D2 D2 w1 W1:=DUp.of_same D2
   exact ⟨D2,β2,h2s.base.up hbel1 hu2,h2s.mem.up hbel1 hu2 h2s.base.dok,h2s.high,fun t=>(h2s.slots t).up hbel1 hu2 h2s.base.dok⟩
  have turn:∀ {aa:Act} {W:World} {st:PS} {r r':Loop},nR (C1 l) aa W st→W.heap[l]?=some (.loop r)→nR (C1 l) aa (W.putObj l (.loop r')) st:=fun {aa W st r r'} hS hL=>
   sim_turned hS hL rfl rfl (by rw[hCw0];omega) (by rw[hCw1];omega) (fun ds e=>by cases e)
  have hdef:∀ {W:World} {ob:Obj},W.heap[w1.heap.size]?=some (.deferred (some []))→(W.putObj l ob).heap[w1.heap.size]?=some (.deferred (some [])):=fun {W ob} h=>(World.putObj_heap_other (by omega)).trans h
  -- what stands behind the loop
  have hout:∀ {W:World} {st:PS},nR (C1 l) { tmps:=a1.tmps,defers:=[] } W st→W.heap[w1.heap.size]?=some (Obj.deferred (some []))→nR C { a1 with defers:=[{ target:=.collected w1.heap.size,args:=#[] }]++a1.defers } W st:=fun {W st} hS hq=>by
   rw[hC1] at hS
   exact out_of hs gV (by omega) hsz1 hpin1 hdf1 hS hq
  refine ⟨w1.heap.size+1,[{ target:=.collected w1.heap.size,args:=#[] }],W1,{ target:=.fn (.func fI) #[.pointer (some ⟨w.heap.size,0,none⟩)],args:=#[.func (.yield (w1.heap.size+1)) #[] #[]] },W1,fI,
   #[.func (.yield (w1.heap.size+1)) #[] #[]]++#[.pointer (some ⟨w.heap.size,0,none⟩)],W1,?_,?_,fun _ _=>trivial,?_,fun e=>by simp [Fence.wide] at e,?_⟩
  ·rw[← hW1,hrec];exact run_enterLoop_outer _ _ _ _ _
  ·simp only[resolve,hfe]
   simp [go_sem]
  ·simp [invoke,go_sem,hbk.enters]
  ·have key:CallsIn Fence.wide (0+1) P fI #[.func (.yield l) #[] #[],.pointer (some ⟨w.heap.size,0,none⟩)] W1 fun e W'=>(∃ v,e=.returned v)∧(J es.length W'∨Jx W'):=by
    have hbox:∀ {st:PS} {W:World},nR (C1 l) { tmps:=a1.tmps,defers:=[] } W st→W.cell? ⟨w.heap.size,0,none⟩=some (.slice ad es.length cap):=fun {st W} ⟨D2,β2,h2s⟩=>by
     have:=h2s.base.keep T w.heap.size 0 (by rw[hC1];exact .inr ⟨rfl,rfl,rfl⟩)
     rw[this,hCw1];exact hw1c
    have hcells:∀ {st:PS} {W:World},nR (C1 l) { tmps:=a1.tmps,defers:=[] } W st→∀ i,i<es.length→W.cell? ⟨g,off+i,none⟩=some (u i):=fun {st W} ⟨D2,β2,h2s⟩ i hi=>by
     have:=h2s.base.keep E g (off+i) (by rw[hC1];exact .inl (hD i hi))
     rw[this,hCw1,nX gV (hs.base.dok _ _ _ (hD i hi))]
     exact hu i hi
    by_cases hlen0:es.length=0
    ·have hJ0':=hJ0
     rw[hJ] at hJ0'
     obtain ⟨⟨x,_,hSx⟩,_⟩:=hJ0'
     have hb:=hbox hSx
     rw[hlen0] at hb ⊢
     exact (hbk.empty 0 l w.heap.size cap ad (J 0) W1 hb hJ0).mono fun e W' ⟨h1,h2⟩=>⟨h1,.inl h2⟩
    ·obtain rfl:=ha (by omega)
     refine hbk.rounds 0 l w.heap.size g off es.length cap u uB J Jx (fun j W hj=>?_) (fun j W hj hlt=>?_) W1 hJ0
     ·rw[hJ] at hj
      obtain ⟨⟨x,_,hSx⟩,_⟩:=hj
      exact ⟨hbox hSx,hcells hSx⟩
     ·rw[hJ] at hj
      obtain ⟨⟨x,hIx,hSx⟩,hLW,hKW⟩:=hj
      have hlt':es.length-1-j<es.length:=by omega
      obtain ⟨d,hd⟩:∃ d,es[es.length-1-j]?=some d:=⟨_,List.getElem?_eq_getElem hlt'⟩
      have hy:=run_yield (P:=P) (args:=#[.int .i64 ((es.length:Int)-1-(j:Int)),u (es.length-1-j)]) hLW (by rw[hrec];rfl)
      rw[hrec] at hy
      refine ⟨fn,_,assign,body,hy,roundIn_of_wpIn trivial ?_⟩
      -- the round's frame
      obtain ⟨ar,har⟩:∃ ar:Act,ar=(({ tmps:=a1.tmps,defers:=[] }:Act).put (some p1) (.int .i64 ((es.length:Int)-1-(j:Int)))).put (some p2) (u (es.length-1-j)):=⟨_,rfl⟩
      have harr:({ tmps:=(#[p1,p2].zip #[Value.int .i64 ((es.length:Int)-1-(j:Int)),u (es.length-1-j)]).foldl (fun t (p,v)=>t.setIfInBounds p v) a1.tmps,defers:=[] }:Act)=ar:=by
       rw[har];simp [Act.put]
      have hSr:nR (C1 l) ar W ⟨(p2,.d d)::(p1,.d (.val (.int .i64 ((es.length:Int)-1-(j:Int)))))::(St x).sl,(St x).bs⟩:=by
       obtain ⟨D2,β2,h2s⟩:=hSx
       have hd1':yX (C1 l).n (some p1)=true:=by rw[hCn];exact hd1
       have hd2':yX (C1 l).n (some p2)=true:=by rw[hCn];exact hd2
       refine ⟨D2,β2,by rw[har];exact (h2s.base.put hd1' _).put hd2' _,h2s.mem,h2s.high,fun t=>?_⟩
       show qG W D2 β2 (ar.tmps.getD t undef) (jW ((p2,SV.d d)::(p1,SV.d (.val (.int .i64 ((es.length:Int)-1-(j:Int)))))::(St x).sl) t)
       rw[har,vB (put_size.trans h2s.base.size) hd2',vB h2s.base.size hd1',qO,qO]
       by_cases e2:p2=t
       ·rw[if_pos e2,if_pos (by rw[e2])]
        have hrep:uT w D (u (es.length-1-j)) d:=hrr _ d hd
        refine uT.mono (fun t' g' o' hd'=>⟨h2s.base.dmono _ _ _ (by rw[hC1];exact .inl hd'),?_⟩) hrep
        rw[h2s.base.keep t' g' o' (by rw[hC1];exact .inl hd'),hCw1,nX gV (hs.base.dok _ _ _ hd')]
       ·rw[if_neg e2,if_neg (fun e=>e2 (by injection e))]
        by_cases e1:p1=t
        ·rw[if_pos e1,if_pos (by rw[e1])]
         exact uT.val _
        ·rw[if_neg e1,if_neg (fun e=>e1 (by injection e))]
         exact h2s.slots t
      refine wpIn_mono (Q:=fun e a' w'=>∃ st',nR { C1 l with w1:=W } a' w' st'∧PThen (qS P ⟨lo,C.n.hi,some l⟩ body (BackQ lo St I Q j)) (fun _ _=>False) e st') ?_ fun e a2 W2 h=>?_
      ·have:=hround l j x d hlt hIx hd { C1 l with w1:=W } ar W (0:Nat) (hCn l) (sim_from hSr)
       rw[← harr] at this
       exact this
      ·obtain ⟨st2,hS2,hp⟩:=h
       cases e with
       |normal=>
        have hL2:W2.heap[l]?=some (.loop (rec .ready none)):=by obtain ⟨D2,β2,h2s⟩:=hS2;exact h2s.base.oth l _ hLW rfl
        have hK2':W2.heap[w1.heap.size]?=some (.deferred (some [])):=by obtain ⟨D2,β2,h2s⟩:=hS2;exact h2s.base.oth _ _ hKW rfl
        have hS2':=sim_back hS2 hSr
        refine ⟨_,run_beginRound hL2 (by rw[hrec]),?_⟩
        have hS3:=turn (r':={ rec .ready none with state:=.busy }) hS2' hL2
        have hL3:(W2.putObj l (.loop { rec .ready none with state:=.busy })).heap[l]?=some (.loop { rec .ready none with state:=.busy }):=World.putObj_heap_same (uN hL2)
        have hK3:=hdef (ob:=.loop { rec .ready none with state:=.busy }) hK2'
        refine wpIn_mono (hp { C1 l with w1:=W2.putObj l (.loop { rec .ready none with state:=.busy }) } a2 _ 0 (hCn l) (sim_from hS3)) fun e a4 W4 h=>?_
        obtain ⟨st4,hS4,hq⟩:=h
        have hL4:W4.heap[l]?=some (.loop { rec .ready none with state:=.busy }):=by obtain ⟨D2,β2,h2s⟩:=hS4;exact h2s.base.oth l _ hL3 rfl
        have hK4:W4.heap[w1.heap.size]?=some (.deferred (some [])):=by obtain ⟨D2,β2,h2s⟩:=hS4;exact h2s.base.oth _ _ hK3 rfl
        have hS4':=sim_back hS4 hS3
        have repin:∀ {W:World} {st:PS},nR (C1 l) a4 W st→(∀ p∈st.sl,p.1<lo)→nR (C1 l) { tmps:=a1.tmps,defers:=[] } W st:=fun {W st} h hk=>
         sim_repin h _ (by rw[hCn];exact hk) (by rw[hCn];exact hsz1) (fun t _=>by rw[hCtm]) .nil
        cases e with
        |normal=>
         obtain ⟨y,hy1,hy2⟩:=hq
         have hre:=run_endRound (P:=P) none hL4
         refine ⟨_,_,hre,.inl ⟨rfl,?_⟩⟩
         rw[hJ]
         refine ⟨⟨y,hy2,repin (hy1 _ _ _ (turn hS4' hL4)) (hst y)⟩,?_,hdef hK4⟩
         rw[World.putObj_heap_same (uN hL4),hrec];rfl
        |ret=>
         obtain ⟨st5,hy1,hy2,hy3⟩:=hq
         have hre:=run_endRound (P:=P) (some .ret) hL4
         refine ⟨_,_,hre,.inr ⟨rfl,?_⟩⟩
         rw[hJx]
         refine ⟨⟨st5,hy2,hy3,repin (hy1 _ _ _ (turn hS4' hL4)) hy2⟩,?_,hdef hK4⟩
         rw[World.putObj_heap_same (uN hL4),hrec];rfl
        |exit id=>exact hq.elim
        |goto t=>exact hq.elim
        |panic ch=>exact hq.elim
        |outgrown=>exact hq.elim
       |exit id=>exact hp.elim
       |goto t=>exact hp.elim
       |ret=>exact hp.elim
       |panic ch=>exact hp.elim
       |outgrown=>exact hp.elim
   rw[hl] at key
   refine callsIn_any (key.mono ?_)
   rintro e W2 ⟨⟨v,rfl⟩,h⟩
   rcases h with h | h
   ·rw[hJ] at h
    obtain ⟨⟨x,hIx,hSx⟩,hLW,hKW⟩:=h
    have hre:=run_endLoop (P:=P) hLW (by rw[hrec];simp)
    have hS':=hout (turn (r':={ rec .ready none with state:=.exhausted }) hSx hLW) (hdef hKW)
    rw[hl] at hre hS'
    subst hrec
    exact ⟨none,_,hre,_,hS',hend x hIx⟩
   ·rw[hJx] at h
    obtain ⟨⟨st5,hk5,hq5,hS5⟩,hLW,hKW⟩:=h
    have hre:=run_endLoop (P:=P) hLW (by rw[hrec];simp)
    have hS':=hout (turn (r':={ rec .done (some .ret) with state:=.exhausted }) hS5 hLW) (hdef hKW)
    rw[hl] at hre hS'
    subst hrec
    exact ⟨some .ret,_,hre,wpIn_ret ⟨_,hS',hq5⟩⟩
end
theorem pwp_backL{P:Program}{n:Fr}{fB fI:FuncId}{T:TypeId}{S:SL}{B:BS}{Q:Exit→PS→Prop}{α γ:Type}(hbk:Backs P fB fI T)(hcb:callB P fB=true)(hrd:n.rd=none){id rid:Nat}{o1 o2:Oper}{t0 ta tf p1 p2:Tmp}{ats:Array TypeId}{assign body:Code}{E:TypeId}(lo:Nat)(F:γ→jQ)(L:List γ)(z:γ)(St:α→PS)(I:Nat→α→Prop)(x0:α)
  (h1:o1.op=.move (.tmp t0)) (h1d:o1.dst=some ta) (h1g:o1.guard=none) (h2:o2.op=.call { callee:=.value (.func fB),args:=#[.tmp ta],argTypes:=ats }) (h2d:o2.dst=some tf) (h2g:o2.guard=none)
  (hda:yX n (some ta)=true) (hdf:yX n (some tf)=true) (hd1:yX ⟨lo,n.hi,none⟩ (some p1)=true) (hd2:yX ⟨lo,n.hi,none⟩ (some p2)=true) (hlo:Nat.ble n.lo lo=true)
  (hx:jW S t0=.d (.sl E 1 (L.map F))) (hF:∀ g,(F g).cells=[F g]) (hst:∀ x,((St x).sl.all fun p=>Nat.blt p.1 lo)=true) (h0:kB ⟨(tf,.junk)::(ta,.junk)::S,B⟩ (St x0)) (hI:I 0 x0) (uB:L.length≤9223372036854775807)
  (hround:∀ (l j:Nat) (x:α),j<L.length→I j x→qS P ⟨lo,n.hi,some l⟩ assign (PThen (qS P ⟨lo,n.hi,some l⟩ body (BackQ lo St I Q j)) (fun _ _=>False)) ⟨(p2,.d (F (L.getD (L.length-1-j) z)))::(p1,.d (.val (.int .i64 ((L.length-1-j:Nat):Int))))::(St x).sl,(St x).bs⟩)
  (hend:∀ x,I L.length x→Q .normal (St x)) :
  qS P n (.seq (.region rid #[o1,o2] false) (.block id (.rangeFunc (.tmp tf) #[p1,p2] assign body))) Q ⟨S,B⟩:=by
 refine pwp_back hbk hcb hrd lo St I x0 h1 h1d h1g h2 h2d h2g hda hdf hd1 hd2 hlo hx (fun x p hp=>?_) h0 hI (by simpa using Int.ofNat_le.2 uB) (fun l j x d hj hIx hd=>?_) (fun e he=>?_) (fun x hIx=>hend x (by simpa using hIx))
 ·exact Nat.le_of_ble_eq_true (List.all_eq_true.1 (hst x) p hp)
 ·rw[List.length_map] at hj hd
  have h3:j<L.length:=hj
  have hlt:L.length-1-j<L.length:=by omega
  have hd':d=F (L.getD (L.length-1-j) z):=by
   rw[List.getElem?_map,List.getElem?_eq_getElem hlt] at hd
   simp only[Option.map_some,Option.some.injEq] at hd
   rw[← hd]
   simp [List.getD,List.getElem?_eq_getElem hlt]
  have hj':(((L.map F).length:Int)-1-(j:Int))=((L.length-1-j:Nat):Int):=by rw[List.length_map];omega
  rw[hd',hj']
  exact hround l j x h3 hIx
 ·obtain ⟨g,_,rfl⟩:=List.mem_map.1 he
  exact hF g
theorem keys_of{l:SL}{lo:Nat}(h:(l.all fun p=>Nat.blt p.1 lo)=true):∀ p∈l,p.1<lo:=fun p hp=>Nat.le_of_ble_eq_true (List.all_eq_true.1 h p hp)
theorem sim_put{C:eP}{a:Act}{w:World}{S:SL}{B:BS}{D:qE}{β:qD}{t:Tmp}{v:Value}{x:SV}(h:SimAt C a w ⟨S,B⟩ D β)(hd:yX C.n (some t)=true)(hx:qG w D β v x):SimAt C (a.put (some t) v) w ⟨(t,x)::S,B⟩ D β :=
 ⟨h.base.put hd _,h.mem,h.high,fun u=>by
  show qG w D β ((a.put (some t) v).tmps.getD u undef) (jW ((t,x)::S) u)
  rw[vB h.base.size hd,qO]
  by_cases e:t=u
  ·rw[if_pos e,if_pos (by rw[e])];exact hx
  ·rw[if_neg e,if_neg (fun e'=>e (by injection e'))];exact h.slots u⟩
theorem pwp_nilq{P:Program}{n:Fr}{S:SL}{B:BS}{Q:Exit→PS→Prop}{id:Nat}{o1 o2:Oper}{t0 ta tb:Tmp}{T T' E t:TypeId}{s s':Nat}{es:List jQ}
  (h1:o1.op=.move (.tmp t0)) (h1d:o1.dst=some ta) (h1g:o1.guard=none) (h2:o2.op=.binOp .eql T (.tmp ta) (.const (.slice none 0 0)) T') (h2d:o2.dst=some tb) (h2g:o2.guard=none)
  (hT:uW P T=some (E,s)) (hda:yX n (some ta)=true) (hdb:yX n (some tb)=true) (hx:jW S t0=.d (.sl t s' es))
  (hq:∀ b:Bool,(b=true→es=[])→Q .normal ⟨(tb,.d (.val (.bool b)))::(ta,.d (.sl t s' es))::S,B⟩):qS P n (.region id #[o1,o2] false) Q ⟨S,B⟩:=fun C a w N hn hs=>by
 subst hn
 obtain ⟨D,β,hs⟩:=hs
 have hv:=hs.slots t0
 have hv':qG w D β (a.tmps.getD t0 undef) (jW S t0):=hv
 rw[hx] at hv'
 have hev:a.eval (.tmp t0)=a.tmps.getD t0 undef:=rfl
 generalize a.tmps.getD t0 undef=v at hv' hev
 have hv'':uT w D v (.sl t s' es):=hv'
 obtain ⟨i,f1,f2,f3⟩:=gZ hT
 cases hv'' with
 |sl g off u hnn hcc hmm hss ha hD hu dV hrr=>
 rename_i ad len cap
 subst hnn
 have hp1:xP o1=true:=by simp [xP,h1]
 have hp2:xP o2=true:=by simp [xP,h2]
 have hs1:=sim_put hs hda hv'
 have hs2:=sim_put (v:=.bool ad.isNone) hs1 hdb (x:=.d (.val (.bool ad.isNone))) (uT.val _)
 refine wpIn_region_lit (wpListIn_plain h1g fun K1 hK1=>fQ hp1 (mM (v:=.slice ad es.length cap) (w':=w) ?_ (hK1 _ _ (wpListIn_plain h2g fun K2 hK2=>fQ hp2 (mM (v:=.bool ad.isNone) (w':=w) ?_ (hK2 _ _ (wpListIn_nil ?_)))))))
 ·simp only[execOp,h1,hev,Sem.run_pure]
 ·have hta:(a.put o1.dst (Value.slice ad es.length cap)).eval (.tmp ta)=.slice ad es.length cap:=by
   show (a.put o1.dst (Value.slice ad es.length cap)).tmps.getD ta undef=_
   rw[h1d,vB hs.base.size hda,if_pos rfl]
  have hce:(a.put o1.dst (Value.slice ad es.length cap)).eval (.const (.slice none 0 0))=.slice none 0 0:=rfl
  have heq:∀ d:Nat,(Op.equalIn (d+1) T (.slice ad es.length cap) (.slice none 0 0)).run P w=.ok ad.isNone w:=fun d=>by
   cases ad<;>simp [Op.equalIn,run_underlying f1]
  have heq':(Op.equal T (.slice ad es.length cap) (.slice none 0 0)).run P w=.ok ad.isNone w:=heq 9999
  simp only[execOp,h2,hta,hce]
  simp [eqGuard,binOp,heq']
 ·rw[h1d,h2d]
  refine ⟨_,⟨D,β,hs2⟩,hq _ fun hb=>?_⟩
  cases ad with
  |none=>
   refine List.eq_nil_of_length_eq_zero ?_
   rcases Nat.eq_zero_or_pos es.length with h | h
   ·exact h
   ·have:=ha h;cases this
  |some x=>cases hb
end Go.Fid
