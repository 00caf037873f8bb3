/- Part 8 of a proof: rules, plain facts, and functions walked. -/
import Derived.Test.YtciingpdmjepgabGreatDoorM7
import Derived.Test.YtciingpdmjepgabGreatDoorM6
set_option linter.all false
namespace Go.Fid
open Go.RowKit (Below)
structure Backs (P:Program) (fB fI:FuncId) (T:TypeId):Prop where
 call:∀ (a:Option Addr) (len cap:Nat) (w:World),Calls P fB #[.slice a len cap] w fun e w'=>e=.returned (.func (.func fI) #[] #[.pointer (some ⟨w.heap.size,0,none⟩)])/\w'=w.alloc (.cells #[.slice a len cap] T)
 empty:∀ (N l b cap:Nat) (ao:Option Addr) (J:World->Prop) (W:World),W.cell? ⟨b,0,none⟩=some (.slice ao 0 cap)->J W ->
  CallsIn Fence.wide (N+1) P fI #[.func (.yield l) #[] #[],.pointer (some ⟨b,0,none⟩)] W fun e W'=>(∃ v,e=.returned v)/\J W'
 rounds:∀ (N l c b off len cap:Nat) (u:Nat->Value),(len:Int)<=9223372036854775807->∀ (J:Nat->World->Prop) (Jx:World->Prop),
  (∀ j W,J j W->W.cell? ⟨c,0,none⟩=some (.slice (some ⟨b,off,none⟩) len cap)/\∀ i,i<len->W.cell? ⟨b,off+i,none⟩=some (u i)) ->
  (∀ j W,J j W->j<len->YieldAt Fence.wide N P l #[.int .i64 ((len:Int)-1-(j:Int)),u (len-1-j)] W fun e W'=>(e=.returned (.bool true)/\J (j+1) W')\/(e=.returned (.bool false)/\Jx W')) ->
  ∀ W,J 0 W->CallsIn Fence.wide (N+1) P fI #[.func (.yield l) #[] #[],.pointer (some ⟨c,0,none⟩)] W fun e W'=>(∃ v,e=.returned v)/\(J len W'\/Jx W')
 enters:∀ args w,(callFunc fI args).run P w=.ok (.enter fI args) w
theorem callsIn_any{P:Program}{f:FuncId}{args:Array Value}{w:World}{R:Ending->World->Prop}{n m:Nat}(h:CallsIn Fence.wide n P f args w R):CallsIn Fence.wide m P f args w R:=callsIn_wide.2 (callsIn_wide.1 h)
section
variable {C:Ctx} {a a':Act} {w w':World} {st:PS} {D:kV} {β:kY}
theorem sim_repin(h:cI C a w st)(a0:Act)(hs:∀ p∈st.sl,p.1<C.n.lo)(hsz:a0.tmps.size=C.n.hi)(hp:∀ t,t<C.n.lo->a0.tmps.getD t undef=C.tm.getD t undef)(hd:DfOk C.w0.heap.size w a0.defers):cI C a0 w st:=by
 obtain ⟨D,β,h⟩:=h
 refine ⟨D,β,⟨hd,hsz,h.base.keep,h.base.oth,hp,h.base.below,h.base.dmono,h.base.dnew,h.base.dok⟩,h.mem,h.high,fun t=>?_⟩
 by_cases ht:t<C.n.lo
 ·rw[hp t ht,<- h.base.pin t ht];exact h.slots t
 ·have:kA st.sl t=.junk:=by
   have hne:∀ p∈st.sl,p.1≠t:=fun p hp e=>ht (e▸hs p hp)
   revert hne
   generalize st.sl=l
   intro hne
   induction l with
   |nil=>rfl
   |cons p l ih=>
    obtain ⟨j,x⟩:=p
    rw[qM,if_neg (hne (j,x) (by simp))]
    exact ih fun q hq=>hne q (by simp [hq])
  rw[this];trivial
theorem sim_turned{q:Nat}{ob ob':Obj}(h:cI C a w st)(hq:w.heap[q]?=some ob)(hc:ob.isCells=false)(hc':ob'.isCells=false)(h0:C.w0.heap.size<=q)(h1:C.w1.heap.size<=q)(hne:∀ ds,ob≠.deferred ds)(hmp:Obj.isMp ob=false:=by rfl):cI C a (w.putObj q ob') st:=by
 obtain ⟨D,β,h⟩:=h
 have hsz:(w.putObj q ob').heap.size=w.heap.size:=by simp [World.putObj]
 refine ⟨D,β,⟨h.base.defers.keep fun q' hq' _=>?_,h.base.size,fun t g o hd=>(yI hq hc hc' g o).trans (h.base.keep t g o hd),fun k o hk ho hm=>?_,h.base.pin,turned_belowM h.base.below h0,h.base.dmono,h.base.dnew,h.base.dok.kept (Nat.le_of_eq hsz.symm) fun t g o hd=>yI hq hc hc' g o⟩,
  ⟨fun k cs hk=>turned_blk hq hc hc' hmp (h.mem.ok k cs hk),h.mem.inj⟩,h.high,fun t=>eJ hq hc hc' hmp (h.slots t)⟩
 ·have:q'≠q:=fun e=>by subst e;rw[hq] at hq';injection hq' with e;exact hne _ e
  exact (World.putObj_heap_other this).trans hq'
 ·have:k≠q:=fun e=>by subst e;have:=qV hk;omega
  exact (World.putObj_heap_other this).trans (h.base.oth k o hk ho hm)
theorem sim_from(h:cI C a w st):cI { C with w1:=w } a w st:=by
 obtain ⟨D,β,h⟩:=h
 exact ⟨D,β,⟨h.base.defers,h.base.size,fun _ _ _ _=>rfl,fun _ _ hk _ _=>hk,h.base.pin,h.base.below,h.base.dmono,h.base.dnew,h.base.dok⟩,h.mem,h.high,h.slots⟩
theorem sim_back{a0:Act}{st0:PS}(h:cI { C with w1:=w' } a w st)(h0:cI C a0 w' st0):cI C a w st:=by
 obtain ⟨D,β,h⟩:=h
 obtain ⟨D0,β0,h0⟩:=h0
 exact ⟨D,β,⟨h.base.defers,h.base.size,fun t g o hd=>(h.base.keep t g o hd).trans (h0.base.keep t g o hd),fun k o hk ho hm=>h.base.oth k o (h0.base.oth k o hk ho hm) ho hm,h.base.pin,h.base.below,h.base.dmono,h.base.dnew,h.base.dok⟩,h.mem,h.high,h.slots⟩
end
section
variable {P:Program} {n:Fr} {fB fI:FuncId} {T:TypeId} {S:SL} {B:BS} {Q:Exit->PS->Prop} {α:Type}
def BackQ(lo:Nat)(St:α->PS)(I:Nat->α->Prop)(Q:Exit->PS->Prop)(j:Nat):Exit->PS->Prop
 |.normal,st=>∃ y,qQ st (St y)/\I (j+1) y
 |.ret,st=>∃ st',qQ st st'/\(∀ p∈st'.sl,p.1<lo)/\Q .ret st'
 |_,_=>False
theorem out_of{C:Ctx}{a a1:Act}{w w1 w4:World}{D:kV}{β:kY}{st0 st:PS}{lo l q:Nat}{tm:Array Value}{rd:Option Nat}(hs:fQ C a w st0 D β)(gC:Below w.heap.size w w1)(hq0:w.heap.size<=q)(hsz:a1.tmps.size=C.n.hi)(hpin:∀ t,t<C.n.lo->a1.tmps.getD t undef=a.tmps.getD t undef)
  (ha1:a1.defers=a.defers) (h:cI ⟨C.w0,fun t g o=>D t g o\/(t=l/\g=w.heap.size/\o=0),w1,tm,⟨lo,C.n.hi,rd⟩,C.mine⟩ { tmps:=a1.tmps,defers:=[] } w4 st) (hq:w4.heap[q]?=some (Obj.deferred (some []))) :
  cI C { a1 with defers:={ target:=.collected q,args:=#[] }::a1.defers } w4 st:=by
 obtain ⟨D',β',h⟩:=h
 have hb0:=hs.base.below.size
 refine ⟨D',β',⟨?_,hsz,fun t g o hd=>?_,fun k o hk ho hm=>?_,fun t ht=>(hpin t ht).trans (hs.base.pin t ht),h.base.below,fun t g o hd=>h.base.dmono _ _ _ (.inl (hs.base.dmono _ _ _ hd)),fun t g o hd=>?_,h.base.dok⟩,h.mem,h.high,h.slots⟩
 ·rw[ha1]
  refine .cons (by omega) hq ?_ (hs.base.defers.keep fun q' hq' _=>h.base.oth q' _ ((gC.block q' (qV hq')).trans hq') rfl (fun e=>by cases e))
  have key:∀ {ds:List Deferred},DfOk C.w0.heap.size w ds->∀ d∈ds,d.target≠.collected q:=by
   intro ds hd
   induction hd with
   |nil=>intro d hd;cases hd
   |cons h1 h2 h3 h ih=>
    intro d hd
    rcases List.mem_cons.1 hd with rfl | hd
    ·intro e
     injection e with e
     have:=qV h2
     omega
    ·exact ih d hd
  exact key hs.base.defers
 ·exact (h.base.keep t g o (.inl (hs.base.dmono _ _ _ hd))).trans ((nK gC (hs.base.dok.lt t g o (hs.base.dmono _ _ _ hd))).trans (hs.base.keep t g o hd))
 ·have h1:=hs.base.oth k o hk ho hm
  exact h.base.oth k o ((gC.block k (qV h1)).trans h1) ho hm
 ·rcases h.base.dnew t g o hd with (h1 | ⟨_,h1,_⟩) | h1
  ·exact hs.base.dnew t g o h1
  ·exact .inr (hs.base.fresh (by omega))
  ·exact .inr h1
theorem pwp_back(hbk:Backs P fB fI T)(hcb:callB P fB=true)(hrd:n.rd=none){id rid:Nat}{o1 o2:Oper}{t0 ta tf p1 p2:Tmp}{ats:Array TypeId}{assign body:Code}{E:TypeId}{es:List jT}(lo:Nat)(St:α->PS)(I:Nat->α->Prop)(x0:α)
  (h1:o1.op=.move (.tmp t0)) (h1d:o1.dst=some ta) (h1g:o1.guard=none) (h2:o2.op=.call { callee:=.value (.func fB),args:=#[.tmp ta],argTypes:=ats }) (h2d:o2.dst=some tf) (h2g:o2.guard=none)
  (hda:yH n (some ta)=true) (hdf:yH n (some tf)=true) (hd1:yH ⟨lo,n.hi,none⟩ (some p1)=true) (hd2:yH ⟨lo,n.hi,none⟩ (some p2)=true) (hlo:Nat.ble n.lo lo=true)
  (hx:kA S t0=.d (.sl E 1 es)) (hst:∀ x,∀ p∈(St x).sl,p.1<lo) (h0:qQ ⟨(tf,.junk)::(ta,.junk)::S,B⟩ (St x0)) (hI:I 0 x0) (qL:(es.length:Int)<=9223372036854775807)
  (hround:∀ (l j:Nat) (x:α) (d:jT),j<es.length->I j x->es[es.length-1-j]?=some d ->
   dR P ⟨lo,n.hi,some l⟩ assign (PThen (dR P ⟨lo,n.hi,some l⟩ body (BackQ lo St I Q j)) (fun _ _=>False)) ⟨(p2,.d d)::(p1,.d (.val (.int .i64 ((es.length:Int)-1-(j:Int)))))::(St x).sl,(St x).bs⟩)
  (hcell:∀ e∈es,e.cells=[e]) (hend:∀ x,I es.length x->Q .normal (St x)) :
  dR P n (.seq (.region rid #[o1,o2] false) (.block id (.rangeFunc (.tmp tf) #[p1,p2] assign body))) Q ⟨S,B⟩:=fun C a w N hn hs=>by
 subst hn
 obtain ⟨D,β,hs⟩:=hs
 have hfen:fen C.n=Fence.wide:=by unfold fen;rw[hrd];rfl
 have hv:=hs.slots t0
 have hv':qC w D β (a.tmps.getD t0 undef) (kA S t0):=hv
 rw[hx] at hv'
 have hev:a.eval (.tmp t0)=a.tmps.getD t0 undef:=rfl
 generalize a.tmps.getD t0 undef=v at hv' hev
 have hv'':uN w D v (.sl E 1 es):=hv'
 have hflat:kR es=es:=by
  clear hst h0 hround hx hv hv' hv'' qL hend
  induction es with
  |nil=>rfl
  |cons e es ih=>rw[nZ,hcell e (by simp),ih (fun e he=>hcell e (by simp [he]))];rfl
 cases hv'' with
 |sl g off u hnn hcc hmm hss ha hD hu eO hrr=>
 rename_i ad len cap
 subst hnn
 rw[hflat] at hD hu eO hrr
 obtain ⟨w1,hw1⟩:∃ w1,w1=w.alloc (.cells #[Value.slice ad es.length cap] T):=⟨_,rfl⟩
 obtain ⟨a1,ha1⟩:∃ a1:Act,a1=(a.put (some ta) (.slice ad es.length cap)).put (some tf) (.func (.func fI) #[] #[.pointer (some ⟨w.heap.size,0,none⟩)]):=⟨_,rfl⟩
 have gC:Below w.heap.size w w1:=by rw[hw1];exact (Below.refl _ w).alloc (Nat.le_refl _) _
 have hsz1:a1.tmps.size=C.n.hi:=by rw[ha1,put_size,put_size];exact hs.base.size
 have hdf1:a1.defers=a.defers:=by rw[ha1,put_defers,put_defers]
 have hsza:(a.put (some ta) (Value.slice ad es.length cap)).tmps.size=C.n.hi:=put_size.trans hs.base.size
 have hget1:∀ t,a1.tmps.getD t undef=if some tf=some t then .func (.func fI) #[] #[.pointer (some ⟨w.heap.size,0,none⟩)] else if some ta=some t then .slice ad es.length cap else a.tmps.getD t undef:=fun t=>by
  rw[ha1,uP hsza hdf,uP hs.base.size hda]
 have hpin1:∀ t,t<C.n.lo->a1.tmps.getD t undef=a.tmps.getD t undef:=fun t ht=>by
  simp only[yH,Bool.and_eq_true] at hda hdf
  have e1:=Nat.le_of_ble_eq_true hda.1
  have e2:=Nat.le_of_ble_eq_true hdf.1
  rw[hget1,if_neg (fun e=>by injection e with e;subst e;omega),if_neg (fun e=>by injection e with e;subst e;omega)]
 have hw1c:w1.cell? ⟨w.heap.size,0,none⟩=some (.slice ad es.length cap):=by
  rw[hw1]
  have:=heap_alloc_new w (.cells #[Value.slice ad es.length cap] T)
  rw[cell_of_row _ _ 0 _ _ _ this];rfl
 have hw1s:w1.heap.size=w.heap.size+1:=by rw[hw1];simp
 -- the context of the rounds
 obtain ⟨C1,hC1⟩:∃ C1:Nat->Ctx,C1=fun l=>⟨C.w0,fun t g o=>D t g o\/(t=T/\g=w.heap.size/\o=0),w1,a1.tmps,⟨lo,C.n.hi,some l⟩,C.mine⟩:=⟨_,rfl⟩
 have hsim1:∀ l,cI (C1 l) { tmps:=a1.tmps,defers:=[] } w1 (St x0):=fun l=>by
  refine h0 _ _ _ ?_
  rw[hC1]
  have hu':aF D (fun t g o=>D t g o\/(t=T/\g=w.heap.size/\o=0)) w w1:=⟨fun _ _ _ h=>.inl h,fun t g o h=>by
   rcases h with h | ⟨_,h,_⟩
   ·exact .inl h
   ·exact .inr (by omega)⟩
  have hB:=hs.base.up gC hu'
  refine ⟨_,β,⟨.nil,hsz1,fun _ _ _ _=>rfl,fun _ _ h _ _=>h,fun _ _=>rfl,hB.below,fun _ _ _ h=>h,fun _ _ _ h=>.inl h,hB.dok⟩,hs.mem.up gC hu' hs.base.dok,hs.high,fun t=>?_⟩
  show qC w1 _ β (a1.tmps.getD t undef) (kA ((tf,.junk)::(ta,.junk)::S) t)
  rw[qM,qM,hget1]
  by_cases e1:tf=t
  ·rw[if_pos e1];trivial
  ·rw[if_neg e1,if_neg (fun e=>e1 (by injection e))]
   by_cases e2:ta=t
   ·rw[if_pos e2];trivial
   ·rw[if_neg e2,if_neg (fun e=>e2 (by injection e))]
    exact (hs.slots t).up gC hu' hs.base.dok
 have hp1:yU o1=true:=by simp [yU,h1]
 have hp2:yU o2=true:=by simp [yU,h2]
 refine wpIn_seq (wpIn_region_lit (wpListIn_plain h1g fun K1 hK1=>op_lift hp1 (mF (v:=.slice ad es.length cap) (w':=w) ?_ (hK1 _ _ (wpListIn_plain h2g fun K2 hK2=>op_lift hp2 (cW (f:=fB) (args:=#[.slice ad es.length cap]) (w':=w) ?_ ?_))))))
 ·simp only[execOp,h1,hev,Sem.run_pure]
 ·have hta:(a.put o1.dst (Value.slice ad es.length cap)).eval (.tmp ta)=.slice ad es.length cap:=by
   show (a.put o1.dst (Value.slice ad es.length cap)).tmps.getD ta undef=_
   rw[h1d,uP hs.base.size hda,if_pos rfl]
  have hfe:(a.put o1.dst (Value.slice ad es.length cap)).eval (.func fB)=.func (.func fB) #[] #[]:=rfl
  simp only[execOp,h2,resolve,Deferred.ofValue,hfe,Sem.run_bind,Sem.run_pure,Result.andThen_ok,invoke,Array.empty_append,Array.append_empty,List.map_toArray,List.map_cons,List.map_nil,hta]
  rw[uY hcb]
 ·refine (hbk.call ad es.length cap w).mono ?_
  rintro e w' ⟨rfl,rfl⟩
  refine ⟨_,rfl,hK2 _ _ (wpListIn_nil ?_)⟩
  show (Code.block id (.rangeFunc (.tmp tf) #[p1,p2] assign body)).wpIn _ _ _ _ _ _
  rw[h1d,h2d,<- hw1,<- ha1,hfen]
  refine wpIn_block (wpIn_rangeFunc ?_)
  intro fn _
  have hrn:Fence.wide.round=none:=rfl
  rw[hrn]
  obtain ⟨rec,hrec⟩:∃ rec:LoopState->Option Code->Loop,rec=fun st pe=>{ state:=st,pending:=pe,fn,tmps:=a1.tmps,params:=#[p1,p2],assign,body,defers:=w1.heap.size }:=⟨_,rfl⟩
  obtain ⟨W1,hW1⟩:∃ W1,(w1.alloc (.deferred (some []))).alloc (.loop (rec .ready none))=W1:=⟨_,rfl⟩
  have hL1:W1.heap[w1.heap.size+1]?=some (.loop (rec .ready none)):=by
   rw[<- hW1];have:=World.alloc_heap_new (w1.alloc (.deferred (some []))) (.loop (rec .ready none));rwa [World.size_alloc] at this
  have hK1':W1.heap[w1.heap.size]?=some (.deferred (some [])):=by
   rw[<- hW1];exact (Below.heap_alloc _ _ _ (by simp)).trans (World.alloc_heap_new w1 _)
  have hbel1:Below w1.heap.size w1 W1:=by rw[<- hW1];exact ((Below.refl _ w1).alloc (Nat.le_refl _) _).alloc (by simp) _
  have hfe:a1.eval (.tmp tf)=.func (.func fI) #[] #[.pointer (some ⟨w.heap.size,0,none⟩)]:=by
   show a1.tmps.getD tf undef=_
   rw[hget1,if_pos rfl]
  obtain ⟨l,hl⟩:∃ l,l=w1.heap.size+1:=⟨_,rfl⟩
  have hCw0:∀ l,(C1 l).w0=C.w0:=fun l=>by rw[hC1]
  have hCw1:∀ l,(C1 l).w1=w1:=fun l=>by rw[hC1]
  have hCn:∀ l,(C1 l).n=⟨lo,C.n.hi,some l⟩:=fun l=>by rw[hC1]
  have hCtm:∀ l,(C1 l).tm=a1.tmps:=fun l=>by rw[hC1]
  have hb0:=hs.base.below.size
  -- between two rounds
  obtain ⟨J,hJ⟩:∃ J:Nat->World->Prop,J=fun j W=>(∃ x,I j x/\cI (C1 l) { tmps:=a1.tmps,defers:=[] } W (St x))/\W.heap[l]?=some (.loop (rec .ready none))/\W.heap[w1.heap.size]?=some (.deferred (some [])):=⟨_,rfl⟩
  obtain ⟨Jx,hJx⟩:∃ Jx:World->Prop,Jx=fun W=>(∃ st',(∀ p∈st'.sl,p.1<lo)/\Q .ret st'/\cI (C1 l) { tmps:=a1.tmps,defers:=[] } W st')/\W.heap[l]?=some (.loop (rec .done (some .ret)))/\W.heap[w1.heap.size]?=some (.deferred (some [])):=⟨_,rfl⟩
  have hJ0:J 0 W1:=by
   rw[hJ]
   refine ⟨⟨x0,hI,?_⟩,hl▸hL1,hK1'⟩
   obtain ⟨D2,β2,h2s⟩:=hsim1 l
   have hu2:aF D2 D2 w1 W1:=aF.of_same D2
   exact ⟨D2,β2,h2s.base.up hbel1 hu2,h2s.mem.up hbel1 hu2 h2s.base.dok,h2s.high,fun t=>(h2s.slots t).up hbel1 hu2 h2s.base.dok⟩
  have turn:∀ {aa:Act} {W:World} {st:PS} {r r':Loop},cI (C1 l) aa W st->W.heap[l]?=some (.loop r)->cI (C1 l) aa (W.putObj l (.loop r')) st:=fun {aa W st r r'} hS hL=>
   sim_turned hS hL rfl rfl (by rw[hCw0];omega) (by rw[hCw1];omega) (fun ds e=>by cases e)
  have hdef:∀ {W:World} {ob:Obj},W.heap[w1.heap.size]?=some (.deferred (some []))->(W.putObj l ob).heap[w1.heap.size]?=some (.deferred (some [])):=fun {W ob} h=>(World.putObj_heap_other (by omega)).trans h
  -- what stands behind the loop
  have hout:∀ {W:World} {st:PS},cI (C1 l) { tmps:=a1.tmps,defers:=[] } W st->W.heap[w1.heap.size]?=some (Obj.deferred (some []))->cI C { a1 with defers:=[{ target:=.collected w1.heap.size,args:=#[] }]++a1.defers } W st:=fun {W st} hS hq=>by
   rw[hC1] at hS
   exact out_of hs gC (by omega) hsz1 hpin1 hdf1 hS hq
  refine ⟨w1.heap.size+1,[{ target:=.collected w1.heap.size,args:=#[] }],W1,{ target:=.fn (.func fI) #[.pointer (some ⟨w.heap.size,0,none⟩)],args:=#[.func (.yield (w1.heap.size+1)) #[] #[]] },W1,fI,
   #[.func (.yield (w1.heap.size+1)) #[] #[]]++#[.pointer (some ⟨w.heap.size,0,none⟩)],W1,?_,?_,fun _ _=>trivial,?_,fun e=>by simp [Fence.wide] at e,?_⟩
  ·rw[<- hW1,hrec];exact run_enterLoop_outer _ _ _ _ _
  ·simp only[resolve,hfe]
   simp [go_sem]
  ·simp [invoke,go_sem,hbk.enters]
  ·have key:CallsIn Fence.wide (0+1) P fI #[.func (.yield l) #[] #[],.pointer (some ⟨w.heap.size,0,none⟩)] W1 fun e W'=>(∃ v,e=.returned v)/\(J es.length W'\/Jx W'):=by
    have hbox:∀ {st:PS} {W:World},cI (C1 l) { tmps:=a1.tmps,defers:=[] } W st->W.cell? ⟨w.heap.size,0,none⟩=some (.slice ad es.length cap):=fun {st W} ⟨D2,β2,h2s⟩=>by
     have:=h2s.base.keep T w.heap.size 0 (by rw[hC1];exact .inr ⟨rfl,rfl,rfl⟩)
     rw[this,hCw1];exact hw1c
    have hcells:∀ {st:PS} {W:World},cI (C1 l) { tmps:=a1.tmps,defers:=[] } W st->∀ i,i<es.length->W.cell? ⟨g,off+i,none⟩=some (u i):=fun {st W} ⟨D2,β2,h2s⟩ i hi=>by
     have:=h2s.base.keep E g (off+i) (by rw[hC1];exact .inl (hD i hi))
     rw[this,hCw1,nK gC (hs.base.dok.lt _ _ _ (hD i hi))]
     exact hu i hi
    by_cases hlen0:es.length=0
    ·have hJ0':=hJ0
     rw[hJ] at hJ0'
     obtain ⟨⟨x,_,hSx⟩,_⟩:=hJ0'
     have hb:=hbox hSx
     rw[hlen0] at hb ⊢
     exact (hbk.empty 0 l w.heap.size cap ad (J 0) W1 hb hJ0).mono fun e W' ⟨h1,h2⟩=>⟨h1,.inl h2⟩
    ·obtain rfl:=ha (by omega)
     refine hbk.rounds 0 l w.heap.size g off es.length cap u qL J Jx (fun j W hj=>?_) (fun j W hj hlt=>?_) W1 hJ0
     ·rw[hJ] at hj
      obtain ⟨⟨x,_,hSx⟩,_⟩:=hj
      exact ⟨hbox hSx,hcells hSx⟩
     ·rw[hJ] at hj
      obtain ⟨⟨x,hIx,hSx⟩,hLW,hKW⟩:=hj
      have hlt':es.length-1-j<es.length:=by omega
      obtain ⟨d,hd⟩:∃ d,es[es.length-1-j]?=some d:=⟨_,List.getElem?_eq_getElem hlt'⟩
      have hy:=run_yield (P:=P) (args:=#[.int .i64 ((es.length:Int)-1-(j:Int)),u (es.length-1-j)]) hLW (by rw[hrec];rfl)
      rw[hrec] at hy
      refine ⟨fn,_,assign,body,hy,roundIn_of_wpIn trivial ?_⟩
      -- the round's frame
      obtain ⟨ar,har⟩:∃ ar:Act,ar=(({ tmps:=a1.tmps,defers:=[] }:Act).put (some p1) (.int .i64 ((es.length:Int)-1-(j:Int)))).put (some p2) (u (es.length-1-j)):=⟨_,rfl⟩
      have harr:({ tmps:=(#[p1,p2].zip #[Value.int .i64 ((es.length:Int)-1-(j:Int)),u (es.length-1-j)]).foldl (fun t (p,v)=>t.setIfInBounds p v) a1.tmps,defers:=[] }:Act)=ar:=by
       rw[har];simp [Act.put]
      have hSr:cI (C1 l) ar W ⟨(p2,.d d)::(p1,.d (.val (.int .i64 ((es.length:Int)-1-(j:Int)))))::(St x).sl,(St x).bs⟩:=by
       obtain ⟨D2,β2,h2s⟩:=hSx
       have hd1':yH (C1 l).n (some p1)=true:=by rw[hCn];exact hd1
       have hd2':yH (C1 l).n (some p2)=true:=by rw[hCn];exact hd2
       refine ⟨D2,β2,by rw[har];exact (h2s.base.put hd1' _).put hd2' _,h2s.mem,h2s.high,fun t=>?_⟩
       show qC W D2 β2 (ar.tmps.getD t undef) (kA ((p2,SV.d d)::(p1,SV.d (.val (.int .i64 ((es.length:Int)-1-(j:Int)))))::(St x).sl) t)
       rw[har,uP (put_size.trans h2s.base.size) hd2',uP h2s.base.size hd1',qM,qM]
       by_cases e2:p2=t
       ·rw[if_pos e2,if_pos (by rw[e2])]
        have hrep:uN w D (u (es.length-1-j)) d:=hrr _ d hd
        refine uN.mono (fun t' g' o' hd'=>⟨h2s.base.dmono _ _ _ (by rw[hC1];exact .inl hd'),?_⟩) hrep
        rw[h2s.base.keep t' g' o' (by rw[hC1];exact .inl hd'),hCw1,nK gC (hs.base.dok.lt _ _ _ hd')]
       ·rw[if_neg e2,if_neg (fun e=>e2 (by injection e))]
        by_cases e1:p1=t
        ·rw[if_pos e1,if_pos (by rw[e1])]
         exact uN.val _
        ·rw[if_neg e1,if_neg (fun e=>e1 (by injection e))]
         exact h2s.slots t
      refine wpIn_mono (Q:=fun e a' w'=>∃ st',cI { C1 l with w1:=W } a' w' st'/\PThen (dR P ⟨lo,C.n.hi,some l⟩ body (BackQ lo St I Q j)) (fun _ _=>False) e st') ?_ fun e a2 W2 h=>?_
      ·have:=hround l j x d hlt hIx hd { C1 l with w1:=W } ar W (0:Nat) (hCn l) (sim_from hSr)
       rw[<- harr] at this
       exact this
      ·obtain ⟨st2,hS2,hp⟩:=h
       cases e with
       |normal=>
        have hL2:W2.heap[l]?=some (.loop (rec .ready none)):=by obtain ⟨D2,β2,h2s⟩:=hS2;exact h2s.base.oth l _ hLW rfl (fun e=>by cases e)
        have hK2':W2.heap[w1.heap.size]?=some (.deferred (some [])):=by obtain ⟨D2,β2,h2s⟩:=hS2;exact h2s.base.oth _ _ hKW rfl (fun e=>by cases e)
        have hS2':=sim_back hS2 hSr
        refine ⟨_,run_beginRound hL2 (by rw[hrec]),?_⟩
        have hS3:=turn (r':={ rec .ready none with state:=.busy }) hS2' hL2
        have hL3:(W2.putObj l (.loop { rec .ready none with state:=.busy })).heap[l]?=some (.loop { rec .ready none with state:=.busy }):=World.putObj_heap_same (qV hL2)
        have hK3:=hdef (ob:=.loop { rec .ready none with state:=.busy }) hK2'
        refine wpIn_mono (hp { C1 l with w1:=W2.putObj l (.loop { rec .ready none with state:=.busy }) } a2 _ 0 (hCn l) (sim_from hS3)) fun e a4 W4 h=>?_
        obtain ⟨st4,hS4,hq⟩:=h
        have hL4:W4.heap[l]?=some (.loop { rec .ready none with state:=.busy }):=by obtain ⟨D2,β2,h2s⟩:=hS4;exact h2s.base.oth l _ hL3 rfl (fun e=>by cases e)
        have hK4:W4.heap[w1.heap.size]?=some (.deferred (some [])):=by obtain ⟨D2,β2,h2s⟩:=hS4;exact h2s.base.oth _ _ hK3 rfl (fun e=>by cases e)
        have hS4':=sim_back hS4 hS3
        have repin:∀ {W:World} {st:PS},cI (C1 l) a4 W st->(∀ p∈st.sl,p.1<lo)->cI (C1 l) { tmps:=a1.tmps,defers:=[] } W st:=fun {W st} h hk=>
         sim_repin h _ (by rw[hCn];exact hk) (by rw[hCn];exact hsz1) (fun t _=>by rw[hCtm]) .nil
        cases e with
        |normal=>
         obtain ⟨y,hy1,hy2⟩:=hq
         have hre:=run_endRound (P:=P) none hL4
         refine ⟨_,_,hre,.inl ⟨rfl,?_⟩⟩
         rw[hJ]
         refine ⟨⟨y,hy2,repin (hy1 _ _ _ (turn hS4' hL4)) (hst y)⟩,?_,hdef hK4⟩
         rw[World.putObj_heap_same (qV hL4),hrec];rfl
        |ret=>
         obtain ⟨st5,hy1,hy2,hy3⟩:=hq
         have hre:=run_endRound (P:=P) (some .ret) hL4
         refine ⟨_,_,hre,.inr ⟨rfl,?_⟩⟩
         rw[hJx]
         refine ⟨⟨st5,hy2,hy3,repin (hy1 _ _ _ (turn hS4' hL4)) hy2⟩,?_,hdef hK4⟩
         rw[World.putObj_heap_same (qV hL4),hrec];rfl
        |exit id=>exact hq.elim
        |goto t=>exact hq.elim
        |panic ch=>exact hq.elim
        |outgrown=>exact hq.elim
       |exit id=>exact hp.elim
       |goto t=>exact hp.elim
       |ret=>exact hp.elim
       |panic ch=>exact hp.elim
       |outgrown=>exact hp.elim
   rw[hl] at key
   refine callsIn_any (key.mono ?_)
   rintro e W2 ⟨⟨v,rfl⟩,h⟩
   rcases h with h | h
   ·rw[hJ] at h
    obtain ⟨⟨x,hIx,hSx⟩,hLW,hKW⟩:=h
    have hre:=run_endLoop (P:=P) hLW (by rw[hrec];simp)
    have hS':=hout (turn (r':={ rec .ready none with state:=.exhausted }) hSx hLW) (hdef hKW)
    rw[hl] at hre hS'
    subst hrec
    exact ⟨none,_,hre,_,hS',hend x hIx⟩
   ·rw[hJx] at h
    obtain ⟨⟨st5,hk5,hq5,hS5⟩,hLW,hKW⟩:=h
    have hre:=run_endLoop (P:=P) hLW (by rw[hrec];simp)
    have hS':=hout (turn (r':={ rec .done (some .ret) with state:=.exhausted }) hS5 hLW) (hdef hKW)
    rw[hl] at hre hS'
    subst hrec
    exact ⟨some .ret,_,hre,wpIn_ret ⟨_,hS',hq5⟩⟩
end
theorem pwp_backL{P:Program}{n:Fr}{fB fI:FuncId}{T:TypeId}{S:SL}{B:BS}{Q:Exit->PS->Prop}{α γ:Type}(hbk:Backs P fB fI T)(hcb:callB P fB=true)(hrd:n.rd=none){id rid:Nat}{o1 o2:Oper}{t0 ta tf p1 p2:Tmp}{ats:Array TypeId}{assign body:Code}{E:TypeId}(lo:Nat)(F:γ->jT)(L:List γ)(z:γ)(St:α->PS)(I:Nat->α->Prop)(x0:α)
  (h1:o1.op=.move (.tmp t0)) (h1d:o1.dst=some ta) (h1g:o1.guard=none) (h2:o2.op=.call { callee:=.value (.func fB),args:=#[.tmp ta],argTypes:=ats }) (h2d:o2.dst=some tf) (h2g:o2.guard=none)
  (hda:yH n (some ta)=true) (hdf:yH n (some tf)=true) (hd1:yH ⟨lo,n.hi,none⟩ (some p1)=true) (hd2:yH ⟨lo,n.hi,none⟩ (some p2)=true) (hlo:Nat.ble n.lo lo=true)
  (hx:kA S t0=.d (.sl E 1 (L.map F))) (hF:∀ g,(F g).cells=[F g]) (hst:∀ x,((St x).sl.all fun p=>Nat.blt p.1 lo)=true) (h0:qQ ⟨(tf,.junk)::(ta,.junk)::S,B⟩ (St x0)) (hI:I 0 x0) (qL:L.length<=9223372036854775807)
  (hround:∀ (l j:Nat) (x:α),j<L.length->I j x->dR P ⟨lo,n.hi,some l⟩ assign (PThen (dR P ⟨lo,n.hi,some l⟩ body (BackQ lo St I Q j)) (fun _ _=>False)) ⟨(p2,.d (F (L.getD (L.length-1-j) z)))::(p1,.d (.val (.int .i64 ((L.length-1-j:Nat):Int))))::(St x).sl,(St x).bs⟩)
  (hend:∀ x,I L.length x->Q .normal (St x)) :
  dR P n (.seq (.region rid #[o1,o2] false) (.block id (.rangeFunc (.tmp tf) #[p1,p2] assign body))) Q ⟨S,B⟩:=by
 refine pwp_back hbk hcb hrd lo St I x0 h1 h1d h1g h2 h2d h2g hda hdf hd1 hd2 hlo hx (fun x p hp=>?_) h0 hI (by simpa using Int.ofNat_le.2 qL) (fun l j x d hj hIx hd=>?_) (fun e he=>?_) (fun x hIx=>hend x (by simpa using hIx))
 ·exact Nat.le_of_ble_eq_true (List.all_eq_true.1 (hst x) p hp)
 ·rw[List.length_map] at hj hd
  have h3:j<L.length:=hj
  have hlt:L.length-1-j<L.length:=by omega
  have hd':d=F (L.getD (L.length-1-j) z):=by
   rw[List.getElem?_map,List.getElem?_eq_getElem hlt] at hd
   simp only[Option.map_some,Option.some.injEq] at hd
   rw[<- hd]
   simp [List.getD,List.getElem?_eq_getElem hlt]
  have hj':(((L.map F).length:Int)-1-(j:Int))=((L.length-1-j:Nat):Int):=by rw[List.length_map];omega
  rw[hd',hj']
  exact hround l j x h3 hIx
 ·obtain ⟨g,_,rfl⟩:=List.mem_map.1 he
  exact hF g
theorem keys_of{l:SL}{lo:Nat}(h:(l.all fun p=>Nat.blt p.1 lo)=true):∀ p∈l,p.1<lo:=fun p hp=>Nat.le_of_ble_eq_true (List.all_eq_true.1 h p hp)
def pw(n:Nat):Nat:=1000000000 ^ n
theorem nE:pw 0=1:=rfl
theorem qZ(n:Nat):pw (n+1)=1000000000*pw n:=by unfold pw;rw[Nat.pow_succ,Nat.mul_comm]
theorem pw_add(m n:Nat):pw (m+n)=pw m*pw n:=by unfold pw;rw[Nat.pow_add]
theorem pw_pos(n:Nat):0<pw n:=Nat.pow_pos (by decide)
theorem yK{m n:Nat}(h:m<=n):pw m<=pw n:=Nat.pow_le_pow_right (by decide) h
theorem pw_lt{m n:Nat}(h:m<n):pw m<pw n:=Nat.pow_lt_pow_right (by decide) h
attribute [irreducible] pw
def val:List Nat->Nat
 |[]=>0
 |d::l=>d+1000000000*val l
def Dig(l:List Nat):Prop:=∀ d∈l,d<1000000000
theorem val_nil:val []=0:=rfl
theorem gG(d:Nat)(l:List Nat):val (d::l)=d+1000000000*val l:=rfl
theorem mX(d:Nat):val [d]=d:=by simp [val]
theorem yA:Dig []:=by intro d h;cases h
theorem xS{d:Nat}{l:List Nat}:Dig (d::l)↔d<1000000000/\Dig l:=by simp [Dig]
theorem bB{a b:List Nat}:Dig (a++b)↔Dig a/\Dig b:=by
 constructor
 ·intro h;exact ⟨fun d hd=>h d (by simp [hd]),fun d hd=>h d (by simp [hd])⟩
 ·intro h d hd;rcases List.mem_append.1 hd with h' | h'
  ·exact h.1 d h'
  ·exact h.2 d h'
theorem Dig.take{l:List Nat}(h:Dig l)(n:Nat):Dig (l.take n):=fun d hd=>h d (List.mem_of_mem_take hd)
theorem Dig.drop{l:List Nat}(h:Dig l)(n:Nat):Dig (l.drop n):=fun d hd=>h d (List.mem_of_mem_drop hd)
theorem Dig.set{l:List Nat}(h:Dig l)(i:Nat){d:Nat}(hd:d<1000000000):Dig (l.set i d):=by
 intro x hx
 rcases List.mem_or_eq_of_mem_set hx with h' | h'
 ·exact h x h'
 ·exact h'▸hd
theorem Dig.getD{l:List Nat}(h:Dig l)(i:Nat):l.getD i 0<1000000000:=by
 unfold List.getD
 cases hi:l[i]? with
 |none=>decide
 |some x=>exact h x (List.mem_of_getElem? hi)
theorem vY(n:Nat):Dig (List.replicate n 0):=by
 intro d hd;rw[(List.mem_replicate.1 hd).2];decide
theorem cT(n:Nat):val (List.replicate n 0)=0:=by
 induction n with
 |zero=>rfl
 |succ n ih=>rw[List.replicate_succ,gG,ih]
theorem cK(a b:List Nat):val (a++b)=val a+pw a.length*val b:=by
 induction a with
 |nil=>simp [val,nE]
 |cons d a ih=>rw[List.cons_append,gG,gG,ih,List.length_cons,qZ];grind
theorem uV{l:List Nat}(h:Dig l):val l<pw l.length:=by
 induction l with
 |nil=>simp [val,nE]
 |cons d l ih=>
  rw[xS] at h
  have:=ih h.2
  rw[gG,List.length_cons,qZ];omega
theorem val_take_succ(l:List Nat)(i:Nat):val (l.take (i+1))=val (l.take i)+pw i*l.getD i 0:=by
 by_cases h:i<l.length
 ·rw[List.take_succ_eq_append_getElem h,cK,mX,List.length_take,Nat.min_eq_left (Nat.le_of_lt h)]
  simp [List.getD,List.getElem?_eq_getElem h]
 ·rw[List.take_of_length_le (by omega),List.take_of_length_le (by omega)]
  simp [List.getD,List.getElem?_eq_none (Nat.le_of_not_lt h)]
theorem dG(l:List Nat)(i d:Nat)(h:i<l.length):val ((l.set i d).take (i+1))=val (l.take i)+pw i*d:=by
 rw[val_take_succ,List.take_set_of_le (Nat.le_refl i)]
 simp [List.getD,h]
theorem val_set(l:List Nat)(i d:Nat)(h:i<l.length):val (l.set i d)+pw i*l.getD i 0=val l+pw i*d:=by
 induction l generalizing i with
 |nil=>simp at h
 |cons x l ih=>
  cases i with
  |zero=>simp [val,nE];omega
  |succ i=>
   have:=ih i (by simpa using h)
   simp only[List.set_cons_succ,gG,List.getD_cons_succ,qZ]
   grind
theorem cL(l:List Nat)(i:Nat)(h:i<=l.length):val l=val (l.take i)+pw i*val (l.drop i):=by
 have h1:=cK (l.take i) (l.drop i)
 rw[List.take_append_drop,List.length_take,Nat.min_eq_left h] at h1
 exact h1
theorem getD_set(l:List Nat)(i j d:Nat)(h:i<l.length):(l.set i d).getD j 0=if i=j then d else l.getD j 0:=by
 simp only[List.getD,List.getElem?_set]
 by_cases hij:i=j
 ·subst hij;simp [h]
 ·simp [hij]
def ofNat(n:Nat):List Nat:=if n=0 then [] else n % 1000000000::ofNat (n / 1000000000)
termination_by n
decreasing_by omega
theorem qS:ofNat 0=[]:=by rw[ofNat];rfl
theorem yR{n:Nat}(h:n≠0):ofNat n=n % 1000000000::ofNat (n / 1000000000):=by rw[ofNat,if_neg h]
theorem jZ:∀ n,val (ofNat n)=n
 |n=>by
  by_cases h:n=0
  ·subst h;rw[qS];rfl
  ·rw[yR h,gG,jZ (n / 1000000000)];omega
termination_by n=>n
decreasing_by omega
theorem kB:∀ n,Dig (ofNat n)
 |n=>by
  by_cases h:n=0
  ·subst h;rw[qS];exact yA
  ·rw[yR h];exact xS.2 ⟨Nat.mod_lt _ (by decide),kB (n / 1000000000)⟩
termination_by n=>n
decreasing_by omega
theorem ofNat_nil{n:Nat}:ofNat n=[]↔n=0:=by
 constructor
 ·intro h;rw[<- jZ n,h];rfl
 ·intro h;rw[h,qS]
def Top(l:List Nat):Prop:=l.getD (l.length-1) 1≠0
def zJ(l:List Nat):Prop:=Dig l/\Top l
theorem top_cons{d:Nat}{l:List Nat}(h:l≠[]):Top (d::l)↔Top l:=by
 cases l with
 |nil=>exact absurd rfl h
 |cons e l=>simp [Top]
theorem ofNat_top:∀ n,Top (ofNat n)
 |n=>by
  by_cases h:n=0
  ·subst h;rw[qS];simp [Top]
  ·rw[yR h]
   by_cases h':n / 1000000000=0
   ·rw[h',qS];simp [Top];omega
   ·rw[top_cons (fun e=>h' (ofNat_nil.1 e))];exact ofNat_top (n / 1000000000)
termination_by n=>n
decreasing_by omega
theorem kX(n:Nat):zJ (ofNat n):=⟨kB n,ofNat_top n⟩
theorem can_tail{d:Nat}{l:List Nat}(h:zJ (d::l)):zJ l:=by
 refine ⟨(xS.1 h.1).2,?_⟩
 by_cases hl:l=[]
 ·subst hl;simp [Top]
 ·exact (top_cons hl).1 h.2
theorem can_eq:∀ {l:List Nat},zJ l->l=ofNat (val l)
 |[],_=>by rw[val_nil,qS]
 |d::l,h=>by
  have ih:=can_eq (can_tail h)
  have hd:=(xS.1 h.1).1
  have hne:val (d::l)≠0:=by
   rw[gG]
   intro e
   have h0:val l=0:=by omega
   rw[h0,qS] at ih
   have hd0:d=0:=by omega
   subst ih;subst hd0
   exact h.2 rfl
  have e1:(d+1000000000*val l) % 1000000000=d:=by omega
  have e2:(d+1000000000*val l) / 1000000000=val l:=by omega
  rw[yR hne,gG,e1,e2,<- ih]
theorem can_ofNat_val{l:List Nat}(h:zJ l){n:Nat}(hn:val l=n):l=ofNat n:=hn▸can_eq h
theorem qJ{n m:Nat}(h:n<pw m):(ofNat n).length<=m:=by
 induction m generalizing n with
 |zero=>
  rw[nE] at h;have:n=0:=by omega
  subst this;rw[qS];exact Nat.le_refl _
 |succ m ih=>
  by_cases h0:n=0
  ·subst h0;rw[qS];simp
  ·rw[yR h0,List.length_cons]
   have:=ih (n:=n / 1000000000) (by rw[qZ] at h;omega)
   omega
theorem val_ge_of_top{l:List Nat}(h:Top l)(hl:l≠[]):pw (l.length-1)<=val l:=by
 have h1:=val_take_succ l (l.length-1)
 have hp:0<l.length:=by cases l with
  |nil=>exact absurd rfl hl
  |cons=>simp
 rw[show l.length-1+1=l.length by omega,List.take_length] at h1
 have h2:l.getD (l.length-1) 0≠0:=by
  have h3:l.getD (l.length-1) 1≠0:=h
  have h4:l.length-1<l.length:=by omega
  simpa [List.getD,List.getElem?_eq_getElem h4] using h3
 rw[h1]
 refine Nat.le_trans ?_ (Nat.le_add_left _ _)
 exact Nat.le_mul_of_pos_right _ (Nat.pos_of_ne_zero h2)
theorem dI{n m:Nat}(h:(ofNat n).length<(ofNat m).length):n<m:=by
 have h1:=uV (kB n)
 have h2:=val_ge_of_top (ofNat_top m) (by intro e;rw[e] at h;simp at h)
 rw[jZ] at h1 h2
 exact Nat.lt_of_lt_of_le h1 (Nat.le_trans (yK (by omega)) h2)
theorem getD_out{l:List Nat}{i:Nat}(h:¬ (i:Int)<(l.length:Int)):l.getD i 0=0:=by
 simp [List.getD,List.getElem?_eq_none (show l.length<=i by omega)]
theorem trim_cond{l:List Nat}{b:Bool}(h:(decide ((0:Int)<((l.length:Nat):Int))&&(((l.getD (l.length-1) 0:Nat):Int) == 0))=b):if b then 0<l.length/\l.getD (l.length-1) 0=0 else l.length=0\/l.getD (l.length-1) 0≠0:=by
 subst h
 by_cases h1:l.length=0
 ·simp [h1]
 ·have h2:0<l.length:=by omega
  by_cases h3:l.getD (l.length-1) 0=0
  ·have:((0:Nat):Int)=0:=rfl
   simp only[h3,this,beq_self_eq_true,Bool.and_true]
   simp [h2,h3]
  ·have h4:(((l.getD (l.length-1) 0:Nat):Int) == 0)=false:=by
    rw[beq_eq_false_iff_ne];omega
   simp only[h4,Bool.and_false]
   exact .inr h3
theorem trim_step{l l0:List Nat}(hl:Dig l)(hv:val l=val l0)(hle:l.length<=l0.length)(h:(decide ((0:Int)<((l.length:Nat):Int))&&(((l.getD (l.length-1) 0:Nat):Int) == 0))=true) :
  Dig (l.take (l.length-1))/\val (l.take (l.length-1))=val l0/\(l.take (l.length-1)).length<=l0.length:=by
 obtain ⟨h1,h2⟩:=trim_cond h
 refine ⟨hl.take _,?_,by simp;omega⟩
 have h3:=val_take_succ l (l.length-1)
 rw[show l.length-1+1=l.length by omega,List.take_length,h2] at h3
 omega
theorem trim_less{l:List Nat}(h:(decide ((0:Int)<((l.length:Nat):Int))&&(((l.getD (l.length-1) 0:Nat):Int) == 0))=true):(l.take (l.length-1)).length<l.length:=by
 obtain ⟨h1,h2⟩:=trim_cond h
 simp;omega
theorem trim_end{l l0:List Nat}(hl:Dig l)(hv:val l=val l0)(h:(decide ((0:Int)<((l.length:Nat):Int))&&(((l.getD (l.length-1) 0:Nat):Int) == 0))=false):ofNat (val l0)=l:=by
 have h1:=trim_cond h
 simp only[Bool.false_eq_true,if_false] at h1
 refine (can_ofNat_val ⟨hl,?_⟩ hv).symm
 rcases h1 with h1 | h1
 ·have:l=[]:=List.eq_nil_of_length_eq_zero h1
  subst this;simp [Top]
 ·intro h2
  by_cases h3:l.length=0
  ·have:l=[]:=List.eq_nil_of_length_eq_zero h3
   subst this;simp at h2
  ·have h4:l.length-1<l.length:=by omega
   simp [List.getD,List.getElem?_eq_getElem h4] at h1 h2
   exact h1 h2
theorem plus_step{a b out:List Nat}{i c n s c':Nat}(qL:out.length=n)(hd:Dig out)(hi:i<n)(hv:val (out.take i)+pw i*c=val (a.take i)+val (b.take i))(hs:s<1000000000)(hsum:s+1000000000*c'=a.getD i 0+b.getD i 0+c) :
  (out.set i s).length=n/\Dig (out.set i s)/\val ((out.set i s).take (i+1))+pw (i+1)*c'=val (a.take (i+1))+val (b.take (i+1)):=by
 refine ⟨by simpa using qL,hd.set i hs,?_⟩
 rw[dG out i s (by omega),val_take_succ,val_take_succ,qZ]
 grind
theorem plus_end{a b out:List Nat}{c:Nat}(hda:Dig a)(hdb:Dig b)(qL:out.length=max a.length b.length+1)(hv:val (out.take (max a.length b.length+1))+pw (max a.length b.length+1)*c=val (a.take (max a.length b.length+1))+val (b.take (max a.length b.length+1))):val out=val a+val b:=by
 rw[List.take_of_length_le (by omega),List.take_of_length_le (by omega),List.take_of_length_le (by omega)] at hv
 have h1:=uV hda
 have h2:=uV hdb
 have h3:pw a.length<=pw (max a.length b.length):=yK (by omega)
 have h4:pw b.length<=pw (max a.length b.length):=yK (by omega)
 rw[qZ] at hv
 have hc:c=0:=by
  rcases Nat.eq_zero_or_pos c with h | h
  ·exact h
  ·have:1000000000*pw (max a.length b.length)<=1000000000*pw (max a.length b.length)*c:=Nat.le_mul_of_pos_right _ h
   omega
 subst hc
 omega
theorem minus_step{a b out:List Nat}{i c n s c':Nat}(qL:out.length=n)(hd:Dig out)(hi:i<n)(hv:val (out.take i)+val (b.take i)=val (a.take i)+pw i*c)(hs:s<1000000000)(hsum:s+(b.getD i 0+c)=a.getD i 0+1000000000*c') :
  (out.set i s).length=n/\Dig (out.set i s)/\val ((out.set i s).take (i+1))+val (b.take (i+1))=val (a.take (i+1))+pw (i+1)*c':=by
 refine ⟨by simpa using qL,hd.set i hs,?_⟩
 rw[dG out i s (by omega),val_take_succ,val_take_succ,qZ]
 grind
theorem minus_end{a b out:List Nat}{c:Nat}(hda:Dig a)(hdb:Dig b)(hd:Dig out)(hba:val b<=val a)(qL:out.length=a.length)(hv:val (out.take a.length)+val (b.take a.length)=val (a.take a.length)+pw a.length*c):val out=val a-val b:=by
 rw[List.take_of_length_le (l:=out) (by omega),List.take_of_length_le (l:=a) (by omega)] at hv
 have h1:=uV hda
 have h2:=uV hd
 rw[qL] at h2
 have h3:val (b.take a.length)=val b:=by
  by_cases h:a.length<=b.length
  ·have h4:=cL b a.length h
   rcases Nat.eq_zero_or_pos (val (b.drop a.length)) with h5 | h5
   ·rw[h5] at h4;omega
   ·have:pw a.length<=pw a.length*val (b.drop a.length):=Nat.le_mul_of_pos_right _ h5
    omega
  ·rw[List.take_of_length_le (by omega)]
 have hc:c=0:=by
  rcases Nat.eq_zero_or_pos c with h | h
  ·exact h
  ·have:pw a.length<=pw a.length*c:=Nat.le_mul_of_pos_right _ h
   omega
 subst hc
 omega
theorem times_step{out:List Nat}{A X p q pb c i j s:Nat}(hi:i+j<out.length)(hd:Dig out)(hv:val out+pw (i+j)*c=A+pw i*(p*X))(hs:s=out.getD (i+j) 0+p*q+c)(hX:pb=X+pw j*q) :
  Dig (out.set (i+j) (s % 1000000000))/\val (out.set (i+j) (s % 1000000000))+pw (i+j+1)*(s / 1000000000)=A+pw i*(p*pb):=by
 refine ⟨hd.set _ (Nat.mod_lt _ (by decide)),?_⟩
 have h1:=val_set out (i+j) (s % 1000000000) hi
 have h2:s=s % 1000000000+1000000000*(s / 1000000000):=by omega
 generalize hs1:s % 1000000000=u at *
 generalize hs2:s / 1000000000=t at *
 generalize hg:out.getD (i+j) 0=g at *
 generalize hv2:val (out.set (i+j) u)=v at *
 rw[qZ]
 rw[pw_add] at *
 subst hX
 have h3:u+1000000000*t=g+p*q+c:=by omega
 have h4:pw i*pw j*(u+1000000000*t)=pw i*pw j*(g+p*q+c):=by rw[h3]
 grind
theorem eG(n k:Nat):(List.replicate n 0).getD k 0=0:=by
 simp only[List.getD,List.getElem?_replicate]
 split<;>rfl
theorem zero_set{out:List Nat}{i m s:Nat}(h:i<m)(hz:∀ k,m<=k->out.getD k 0=0):∀ k,m<=k->(out.set i s).getD k 0=0:=fun k hk=>by
 have h1:=hz k hk
 simp only[List.getD,List.getElem?_set] at h1 ⊢
 rw[if_neg (by omega)]
 exact h1
theorem times_row{a b o2:List Nat}{i c:Nat}(hdb:Dig o2)(hi:i<a.length)(qL:o2.length=a.length+b.length)(hz:∀ k,i+b.length<=k->o2.getD k 0=0)(hc:c<1000000000)
  (hv:val o2+pw (i+b.length)*c=val (a.take i)*val b+pw i*(a.getD i 0*val (b.take b.length))) :
  (o2.set (i+b.length) c).length=a.length+b.length/\Dig (o2.set (i+b.length) c)/\(∀ k,i+1+b.length<=k->(o2.set (i+b.length) c).getD k 0=0)/\val (o2.set (i+b.length) c)=val (a.take (i+1))*val b:=by
 refine ⟨by simpa using qL,hdb.set _ hc,zero_set (by omega) (fun k hk=>hz k (by omega)),?_⟩
 have h1:=val_set o2 (i+b.length) c (by omega)
 rw[hz _ (Nat.le_refl _)] at h1
 rw[List.take_of_length_le (l:=b) (Nat.le_refl _)] at hv
 rw[val_take_succ]
 grind
end Go.Fid
