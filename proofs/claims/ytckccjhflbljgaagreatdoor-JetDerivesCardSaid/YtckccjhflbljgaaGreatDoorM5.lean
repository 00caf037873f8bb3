/- Part 5 of a proof: rules, plain facts, and functions walked. -/
import Derived.Test.YtckccjhflbljgaaGreatDoorM4
import Derived.Test.YtckccjhflbljgaaGreatDoorChecked
import Derived.RangeFuncBox
import Derived.Shelf.Abstract
import Derived.OwnWalkIn
import Derived.TacticsInMore
import Derived.LoopNIn
import Derived.LoopIn
set_option linter.all false
namespace Go.Fid
open List
open Go.RowKit (Below)
structure Backs (P:Program) (fB fI:FuncId) (T:TypeId):Prop where
 call:∀ (a:Option Addr) (len cap:Nat) (w:World),Calls P fB #[.slice a len cap] w λe w'=>e=.returned (.func (.func fI) #[] #[.pointer (some ⟨w.heap.size,0,none⟩)])/\w'=w.alloc (.cells #[.slice a len cap] T)
 empty:∀ (N l b cap:Nat) (ao:Option Addr) (J:World->Prop) (W:World),W.cell? ⟨b,0,none⟩=some (.slice ao 0 cap)->J W ->
  CallsIn Fence.wide (N+1) P fI #[.func (.yield l) #[] #[],.pointer (some ⟨b,0,none⟩)] W λe W'=>(∃ v,e=.returned v)/\J W'
 rounds:∀ (N l c b off len cap:Nat) (u:Nat->Value),(len:Int)<=9223372036854775807->∀ (J:Nat->World->Prop) (Jx:World->Prop),
  (∀ j W,J j W->W.cell? ⟨c,0,none⟩=some (.slice (some ⟨b,off,none⟩) len cap)/\∀ i,i<len->W.cell? ⟨b,off+i,none⟩=some (u i)) ->
  (∀ j W,J j W->j<len->YieldAt Fence.wide N P l #[.int .i64 ((len:Int)-1-(j:Int)),u (len-1-j)] W λe W'=>(e=.returned (.bool true)/\J (j+1) W')\/(e=.returned (.bool false)/\Jx W')) ->
  ∀ W,J 0 W->CallsIn Fence.wide (N+1) P fI #[.func (.yield l) #[] #[],.pointer (some ⟨c,0,none⟩)] W λe W'=>(∃ v,e=.returned v)/\(J len W'\/Jx W')
 enters:∀ args w,(callFunc fI args).run P w=.ok (.enter fI args) w
theorem callsIn_any{P:Program}{f:FuncId}{args:Array Value}{w:World}{R:Ending->World->Prop}{n m:Nat}(h:CallsIn Fence.wide n P f args w R):CallsIn Fence.wide m P f args w R:=callsIn_wide.2 (callsIn_wide.1 h)
section
variable {C:Ctx} {a a':Act} {w w':World} {st:PS} {D:kV} {β:kX}
theorem sim_repin(h:dQ C a w st)(a0:Act)(hs:∀ p∈st.sl,p.1<C.n.lo)(hsz:a0.tmps.size=C.n.hi)(hp:∀ t,t<C.n.lo->a0.tmps.getD t undef=C.tm.getD t undef)(hd:DfOk C.w0.heap.size w a0.defers):dQ C a0 w st:=by
 obtain ⟨D,β,h⟩:=h
 refine ⟨D,β,⟨hd,hsz,h.base.keep,h.base.oth,hp,h.base.below,h.base.dmono,h.base.dnew,h.base.dok⟩,h.mem,h.high,λt=>?_⟩
 by_cases ht:t<C.n.lo
 ·rw[hp t ht,<- h.base.pin t ht];exact h.slots t
 ·have:kD st.sl t=.junk:=by
   have hne:∀ p∈st.sl,p.1≠t:=λp hp e=>ht (e▸hs p hp)
   revert hne
   generalize st.sl=l
   intro hne
   induction l with
   |nil=>rfl
   |cons p l ih=>
    obtain ⟨j,x⟩:=p
    rw[qQ,if_neg (hne (j,x) (by simp))]
    exact ih λq hq=>hne q (by simp [hq])
  rw[this];trivial
theorem sim_turned{q:Nat}{ob ob':Obj}(h:dQ C a w st)(hq:w.heap[q]?=some ob)(hc:ob.isCells=false)(hc':ob'.isCells=false)(h0:C.w0.heap.size<=q)(h1:C.w1.heap.size<=q)(hne:∀ ds,ob≠.deferred ds)(hmp:Obj.isMp ob=false:=by rfl):dQ C a (w.putObj q ob') st:=by
 obtain ⟨D,β,h⟩:=h
 have hsz:(w.putObj q ob').heap.size=w.heap.size:=by simp [World.putObj]
 refine ⟨D,β,⟨h.base.defers.keep λq' hq' _=>?_,h.base.size,λt g o hd=>(nN hq hc hc' g o).trans (h.base.keep t g o hd),λk o hk ho hm=>?_,h.base.pin,turned_belowM h.base.below h0,h.base.dmono,h.base.dnew,h.base.dok.kept (Nat.le_of_eq hsz.symm) λt g o hd=>nN hq hc hc' g o⟩,
  ⟨λk cs hk=>turned_blk hq hc hc' hmp (h.mem.ok k cs hk),h.mem.inj⟩,h.high,λt=>aF hq hc hc' hmp (h.slots t)⟩
 ·have:q'≠q:=λe=>by subst e;rw[hq] at hq';injection hq' with e;exact hne _ e
  exact (World.putObj_heap_other this).trans hq'
 ·have:k≠q:=λe=>by subst e;have:=qW hk;omega
  exact (World.putObj_heap_other this).trans (h.base.oth k o hk ho hm)
theorem sim_from(h:dQ C a w st):dQ { C with w1:=w } a w st:=by
 obtain ⟨D,β,h⟩:=h
 exact ⟨D,β,⟨h.base.defers,h.base.size,λ_ _ _ _=>rfl,λ_ _ hk _ _=>hk,h.base.pin,h.base.below,h.base.dmono,h.base.dnew,h.base.dok⟩,h.mem,h.high,h.slots⟩
theorem sim_back{a0:Act}{st0:PS}(h:dQ { C with w1:=w' } a w st)(h0:dQ C a0 w' st0):dQ C a w st:=by
 obtain ⟨D,β,h⟩:=h
 obtain ⟨D0,β0,h0⟩:=h0
 exact ⟨D,β,⟨h.base.defers,h.base.size,λt g o hd=>(h.base.keep t g o hd).trans (h0.base.keep t g o hd),λk o hk ho hm=>h.base.oth k o (h0.base.oth k o hk ho hm) ho hm,h.base.pin,h.base.below,h.base.dmono,h.base.dnew,h.base.dok⟩,h.mem,h.high,h.slots⟩
end
section
variable {P:Program} {n:Fr} {fB fI:FuncId} {T:TypeId} {S:SL} {B:BS} {Q:Exit->PS->Prop} {α:Type}
def BackQ(lo:Nat)(St:α->PS)(I:Nat->α->Prop)(Q:Exit->PS->Prop)(j:Nat):Exit->PS->Prop
 |.normal,st=>∃ y,xI st (St y)/\I (j+1) y
 |.ret,st=>∃ st',xI st st'/\(∀ p∈st'.sl,p.1<lo)/\Q .ret st'
 |_,_=>False
theorem out_of{C:Ctx}{a a1:Act}{w w1 w4:World}{D:kV}{β:kX}{st0 st:PS}{lo l q:Nat}{tm:Array Value}{rd:Option Nat}(hs:iJ C a w st0 D β)(nC:Below w.heap.size w w1)(hq0:w.heap.size<=q)(hsz:a1.tmps.size=C.n.hi)(hpin:∀ t,t<C.n.lo->a1.tmps.getD t undef=a.tmps.getD t undef)
  (ha1:a1.defers=a.defers) (h:dQ ⟨C.w0,λt g o=>D t g o\/(t=l/\g=w.heap.size/\o=0),w1,tm,⟨lo,C.n.hi,rd⟩,C.mine⟩ { tmps:=a1.tmps,defers:=[] } w4 st) (hq:w4.heap[q]?=some (Obj.deferred (some []))) :
  dQ C { a1 with defers:={ target:=.collected q,args:=#[] }::a1.defers } w4 st:=by
 obtain ⟨D',β',h⟩:=h
 have hb0:=hs.base.below.size
 refine ⟨D',β',⟨?_,hsz,λt g o hd=>?_,λk o hk ho hm=>?_,λt ht=>(hpin t ht).trans (hs.base.pin t ht),h.base.below,λt g o hd=>h.base.dmono _ _ _ (.inl (hs.base.dmono _ _ _ hd)),λt g o hd=>?_,h.base.dok⟩,h.mem,h.high,h.slots⟩
 ·rw[ha1]
  refine .cons (by omega) hq ?_ (hs.base.defers.keep λq' hq' _=>h.base.oth q' _ ((nC.block q' (qW hq')).trans hq') rfl (λe=>by cases e))
  have key:∀ {ds:List Deferred},DfOk C.w0.heap.size w ds->∀ d∈ds,d.target≠.collected q:=by
   intro ds hd
   induction hd with
   |nil=>intro d hd;cases hd
   |cons h1 h2 h3 h ih=>
    intro d hd
    rcases mem_cons.1 hd with rfl | hd
    ·intro e
     injection e with e
     have:=qW h2
     omega
    ·exact ih d hd
  exact key hs.base.defers
 ·exact (h.base.keep t g o (.inl (hs.base.dmono _ _ _ hd))).trans ((xW nC (hs.base.dok.lt t g o (hs.base.dmono _ _ _ hd))).trans (hs.base.keep t g o hd))
 ·have h1:=hs.base.oth k o hk ho hm
  exact h.base.oth k o ((nC.block k (qW h1)).trans h1) ho hm
 ·rcases h.base.dnew t g o hd with (h1 | ⟨_,h1,_⟩) | h1
  ·exact hs.base.dnew t g o h1
  ·exact .inr (hs.base.fresh (by omega))
  ·exact .inr h1
theorem pwp_back(hbk:Backs P fB fI T)(hcb:callB P fB=true)(hrd:n.rd=none){id rid:Nat}{o1 o2:Oper}{t0 ta tf p1 p2:Tmp}{ats:Array TypeId}{assign body:Code}{E:TypeId}{es:List jY}(lo:Nat)(St:α->PS)(I:Nat->α->Prop)(x0:α)
  (h1:o1.op=.move (.tmp t0)) (h1d:o1.dst=some ta) (h1g:o1.guard=none) (h2:o2.op=.call { callee:=.value (.func fB),args:=#[.tmp ta],argTypes:=ats }) (h2d:o2.dst=some tf) (h2g:o2.guard=none)
  (hda:nE n (some ta)=true) (hdf:nE n (some tf)=true) (hd1:nE ⟨lo,n.hi,none⟩ (some p1)=true) (hd2:nE ⟨lo,n.hi,none⟩ (some p2)=true) (hlo:Nat.ble n.lo lo=true)
  (hx:kD S t0=.d (.sl E 1 es)) (hst:∀ x,∀ p∈(St x).sl,p.1<lo) (h0:xI ⟨(tf,.junk)::(ta,.junk)::S,B⟩ (St x0)) (hI:I 0 x0) (qM:(es.length:Int)<=9223372036854775807)
  (hround:∀ (l j:Nat) (x:α) (d:jY),j<es.length->I j x->es[es.length-1-j]?=some d ->
   eM P ⟨lo,n.hi,some l⟩ assign (PThen (eM P ⟨lo,n.hi,some l⟩ body (BackQ lo St I Q j)) (λ_ _=>False)) ⟨(p2,.d d)::(p1,.d (.val (.int .i64 ((es.length:Int)-1-(j:Int)))))::(St x).sl,(St x).bs⟩)
  (hcell:∀ e∈es,e.cells=[e]) (hend:∀ x,I es.length x->Q .normal (St x)) :
  eM P n (.seq (.region rid #[o1,o2] false) (.block id (.rangeFunc (.tmp tf) #[p1,p2] assign body))) Q ⟨S,B⟩:=λC a w N hn hs=>by
 subst hn
 obtain ⟨D,β,hs⟩:=hs
 have hfen:fen C.n=Fence.wide:=by unfold fen;rw[hrd];rfl
 have hv:=hs.slots t0
 have hv':kZ w D β (a.tmps.getD t0 undef) (kD S t0):=hv
 rw[hx] at hv'
 have hev:a.eval (.tmp t0)=a.tmps.getD t0 undef:=rfl
 generalize a.tmps.getD t0 undef=v at hv' hev
 have hv'':uS w D v (.sl E 1 es):=hv'
 have hflat:qK es=es:=by
  clear hst h0 hround hx hv hv' hv'' qM hend
  induction es with
  |nil=>rfl
  |cons e es ih=>rw[mO,hcell e (by simp),ih (λe he=>hcell e (by simp [he]))];rfl
 cases hv'' with
 |sl g off u hnn hcc hmm hss ha hD hu eD hrr=>
 rename_i ad len cap
 subst hnn
 rw[hflat] at hD hu eD hrr
 obtain ⟨w1,hw1⟩:∃ w1,w1=w.alloc (.cells #[Value.slice ad es.length cap] T):=⟨_,rfl⟩
 obtain ⟨a1,ha1⟩:∃ a1:Act,a1=(a.put (some ta) (.slice ad es.length cap)).put (some tf) (.func (.func fI) #[] #[.pointer (some ⟨w.heap.size,0,none⟩)]):=⟨_,rfl⟩
 have nC:Below w.heap.size w w1:=by rw[hw1];exact (Below.refl _ w).alloc (Nat.le_refl _) _
 have hsz1:a1.tmps.size=C.n.hi:=by rw[ha1,put_size,put_size];exact hs.base.size
 have hdf1:a1.defers=a.defers:=by rw[ha1,put_defers,put_defers]
 have hsza:(a.put (some ta) (Value.slice ad es.length cap)).tmps.size=C.n.hi:=put_size.trans hs.base.size
 have hget1:∀ t,a1.tmps.getD t undef=if some tf=some t then .func (.func fI) #[] #[.pointer (some ⟨w.heap.size,0,none⟩)] else if some ta=some t then .slice ad es.length cap else a.tmps.getD t undef:=λt=>by
  rw[ha1,vO hsza hdf,vO hs.base.size hda]
 have hpin1:∀ t,t<C.n.lo->a1.tmps.getD t undef=a.tmps.getD t undef:=λt ht=>by
  simp only[nE,Bool.and_eq_true] at hda hdf
  have e1:=Nat.le_of_ble_eq_true hda.1
  have e2:=Nat.le_of_ble_eq_true hdf.1
  rw[hget1,if_neg (λe=>by injection e with e;subst e;omega),if_neg (λe=>by injection e with e;subst e;omega)]
 have hw1c:w1.cell? ⟨w.heap.size,0,none⟩=some (.slice ad es.length cap):=by
  rw[hw1]
  have:=heap_alloc_new w (.cells #[Value.slice ad es.length cap] T)
  rw[cell_of_row _ _ 0 _ _ _ this];rfl
 have hw1s:w1.heap.size=w.heap.size+1:=by rw[hw1];simp
 -- the context of the rounds
 obtain ⟨C1,hC1⟩:∃ C1:Nat->Ctx,C1=λl=>⟨C.w0,λt g o=>D t g o\/(t=T/\g=w.heap.size/\o=0),w1,a1.tmps,⟨lo,C.n.hi,some l⟩,C.mine⟩:=⟨_,rfl⟩
 have hsim1:∀ l,dQ (C1 l) { tmps:=a1.tmps,defers:=[] } w1 (St x0):=λl=>by
  refine h0 _ _ _ ?_
  rw[hC1]
  have hu':aJ D (λt g o=>D t g o\/(t=T/\g=w.heap.size/\o=0)) w w1:=⟨λ_ _ _ h=>.inl h,λt g o h=>by
   rcases h with h | ⟨_,h,_⟩
   ·exact .inl h
   ·exact .inr (by omega)⟩
  have hB:=hs.base.up nC hu'
  refine ⟨_,β,⟨.nil,hsz1,λ_ _ _ _=>rfl,λ_ _ h _ _=>h,λ_ _=>rfl,hB.below,λ_ _ _ h=>h,λ_ _ _ h=>.inl h,hB.dok⟩,hs.mem.up nC hu' hs.base.dok,hs.high,λt=>?_⟩
  show kZ w1 _ β (a1.tmps.getD t undef) (kD ((tf,.junk)::(ta,.junk)::S) t)
  rw[qQ,qQ,hget1]
  by_cases e1:tf=t
  ·rw[if_pos e1];trivial
  ·rw[if_neg e1,if_neg (λe=>e1 (by injection e))]
   by_cases e2:ta=t
   ·rw[if_pos e2];trivial
   ·rw[if_neg e2,if_neg (λe=>e2 (by injection e))]
    exact (hs.slots t).up nC hu' hs.base.dok
 have hp1:yZ o1=true:=by simp [yZ,h1]
 have hp2:yZ o2=true:=by simp [yZ,h2]
 refine wpIn_seq (wpIn_region_lit (wpListIn_plain h1g λK1 hK1=>oD hp1 (cF (v:=.slice ad es.length cap) (w':=w) ?_ (hK1 _ _ (wpListIn_plain h2g λK2 hK2=>oD hp2 (dG (f:=fB) (args:=#[.slice ad es.length cap]) (w':=w) ?_ ?_))))))
 ·simp only[execOp,h1,hev,Sem.run_pure]
 ·have hta:(a.put o1.dst (Value.slice ad es.length cap)).eval (.tmp ta)=.slice ad es.length cap:=by
   show (a.put o1.dst (Value.slice ad es.length cap)).tmps.getD ta undef=_
   rw[h1d,vO hs.base.size hda,if_pos rfl]
  have hfe:(a.put o1.dst (Value.slice ad es.length cap)).eval (.func fB)=.func (.func fB) #[] #[]:=rfl
  simp only[execOp,h2,resolve,Deferred.ofValue,hfe,Sem.run_bind,Sem.run_pure,Result.andThen_ok,invoke,Array.empty_append,Array.append_empty,map_toArray,map_cons,map_nil,hta]
  rw[xJ hcb]
 ·refine (hbk.call ad es.length cap w).mono ?_
  rintro e w' ⟨rfl,rfl⟩
  refine ⟨_,rfl,hK2 _ _ (wpListIn_nil ?_)⟩
  show (Code.block id (.rangeFunc (.tmp tf) #[p1,p2] assign body)).wpIn _ _ _ _ _ _
  rw[h1d,h2d,<- hw1,<- ha1,hfen]
  refine wpIn_block (wpIn_rangeFunc ?_)
  intro fn _
  have hrn:Fence.wide.round=none:=rfl
  rw[hrn]
  obtain ⟨rec,hrec⟩:∃ rec:LoopState->Option Code->Loop,rec=λst pe=>{ state:=st,pending:=pe,fn,tmps:=a1.tmps,params:=#[p1,p2],assign,body,defers:=w1.heap.size }:=⟨_,rfl⟩
  obtain ⟨W1,hW1⟩:∃ W1,(w1.alloc (.deferred (some []))).alloc (.loop (rec .ready none))=W1:=⟨_,rfl⟩
  have hL1:W1.heap[w1.heap.size+1]?=some (.loop (rec .ready none)):=by
   rw[<- hW1];have:=World.alloc_heap_new (w1.alloc (.deferred (some []))) (.loop (rec .ready none));rwa [World.size_alloc] at this
  have hK1':W1.heap[w1.heap.size]?=some (.deferred (some [])):=by
   rw[<- hW1];exact (Below.heap_alloc _ _ _ (by simp)).trans (World.alloc_heap_new w1 _)
  have hbel1:Below w1.heap.size w1 W1:=by rw[<- hW1];exact ((Below.refl _ w1).alloc (Nat.le_refl _) _).alloc (by simp) _
  have hfe:a1.eval (.tmp tf)=.func (.func fI) #[] #[.pointer (some ⟨w.heap.size,0,none⟩)]:=by
   show a1.tmps.getD tf undef=_
   rw[hget1,if_pos rfl]
  obtain ⟨l,hl⟩:∃ l,l=w1.heap.size+1:=⟨_,rfl⟩
  have hCw0:∀ l,(C1 l).w0=C.w0:=λl=>by rw[hC1]
  have hCw1:∀ l,(C1 l).w1=w1:=λl=>by rw[hC1]
  have hCn:∀ l,(C1 l).n=⟨lo,C.n.hi,some l⟩:=λl=>by rw[hC1]
  have hCtm:∀ l,(C1 l).tm=a1.tmps:=λl=>by rw[hC1]
  have hb0:=hs.base.below.size
  -- between two rounds
  obtain ⟨J,hJ⟩:∃ J:Nat->World->Prop,J=λj W=>(∃ x,I j x/\dQ (C1 l) { tmps:=a1.tmps,defers:=[] } W (St x))/\W.heap[l]?=some (.loop (rec .ready none))/\W.heap[w1.heap.size]?=some (.deferred (some [])):=⟨_,rfl⟩
  obtain ⟨Jx,hJx⟩:∃ Jx:World->Prop,Jx=λW=>(∃ st',(∀ p∈st'.sl,p.1<lo)/\Q .ret st'/\dQ (C1 l) { tmps:=a1.tmps,defers:=[] } W st')/\W.heap[l]?=some (.loop (rec .done (some .ret)))/\W.heap[w1.heap.size]?=some (.deferred (some [])):=⟨_,rfl⟩
  have hJ0:J 0 W1:=by
   rw[hJ]
   refine ⟨⟨x0,hI,?_⟩,hl▸hL1,hK1'⟩
   obtain ⟨D2,β2,h2s⟩:=hsim1 l
   have hu2:aJ D2 D2 w1 W1:=aJ.of_same D2
   exact ⟨D2,β2,h2s.base.up hbel1 hu2,h2s.mem.up hbel1 hu2 h2s.base.dok,h2s.high,λt=>(h2s.slots t).up hbel1 hu2 h2s.base.dok⟩
  have turn:∀ {aa:Act} {W:World} {st:PS} {r r':Loop},dQ (C1 l) aa W st->W.heap[l]?=some (.loop r)->dQ (C1 l) aa (W.putObj l (.loop r')) st:=fun {aa W st r r'} hS hL=>
   sim_turned hS hL rfl rfl (by rw[hCw0];omega) (by rw[hCw1];omega) (λds e=>by cases e)
  have hdef:∀ {W:World} {ob:Obj},W.heap[w1.heap.size]?=some (.deferred (some []))->(W.putObj l ob).heap[w1.heap.size]?=some (.deferred (some [])):=fun {W ob} h=>(World.putObj_heap_other (by omega)).trans h
  -- what stands behind the loop
  have hout:∀ {W:World} {st:PS},dQ (C1 l) { tmps:=a1.tmps,defers:=[] } W st->W.heap[w1.heap.size]?=some (Obj.deferred (some []))->dQ C { a1 with defers:=[{ target:=.collected w1.heap.size,args:=#[] }]++a1.defers } W st:=fun {W st} hS hq=>by
   rw[hC1] at hS
   exact out_of hs nC (by omega) hsz1 hpin1 hdf1 hS hq
  refine ⟨w1.heap.size+1,[{ target:=.collected w1.heap.size,args:=#[] }],W1,{ target:=.fn (.func fI) #[.pointer (some ⟨w.heap.size,0,none⟩)],args:=#[.func (.yield (w1.heap.size+1)) #[] #[]] },W1,fI,
   #[.func (.yield (w1.heap.size+1)) #[] #[]]++#[.pointer (some ⟨w.heap.size,0,none⟩)],W1,?_,?_,λ_ _=>trivial,?_,λe=>by simp [Fence.wide] at e,?_⟩
  ·rw[<- hW1,hrec];exact run_enterLoop_outer _ _ _ _ _
  ·simp only[resolve,hfe]
   simp [go_sem]
  ·simp [invoke,go_sem,hbk.enters]
  ·have key:CallsIn Fence.wide (0+1) P fI #[.func (.yield l) #[] #[],.pointer (some ⟨w.heap.size,0,none⟩)] W1 λe W'=>(∃ v,e=.returned v)/\(J es.length W'\/Jx W'):=by
    have hbox:∀ {st:PS} {W:World},dQ (C1 l) { tmps:=a1.tmps,defers:=[] } W st->W.cell? ⟨w.heap.size,0,none⟩=some (.slice ad es.length cap):=fun {st W} ⟨D2,β2,h2s⟩=>by
     have:=h2s.base.keep T w.heap.size 0 (by rw[hC1];exact .inr ⟨rfl,rfl,rfl⟩)
     rw[this,hCw1];exact hw1c
    have hcells:∀ {st:PS} {W:World},dQ (C1 l) { tmps:=a1.tmps,defers:=[] } W st->∀ i,i<es.length->W.cell? ⟨g,off+i,none⟩=some (u i):=fun {st W} ⟨D2,β2,h2s⟩ i hi=>by
     have:=h2s.base.keep E g (off+i) (by rw[hC1];exact .inl (hD i hi))
     rw[this,hCw1,xW nC (hs.base.dok.lt _ _ _ (hD i hi))]
     exact hu i hi
    by_cases hlen0:es.length=0
    ·have hJ0':=hJ0
     rw[hJ] at hJ0'
     obtain ⟨⟨x,_,hSx⟩,_⟩:=hJ0'
     have hb:=hbox hSx
     rw[hlen0] at hb ⊢
     exact (hbk.empty 0 l w.heap.size cap ad (J 0) W1 hb hJ0).mono λe W' ⟨h1,h2⟩=>⟨h1,.inl h2⟩
    ·obtain rfl:=ha (by omega)
     refine hbk.rounds 0 l w.heap.size g off es.length cap u qM J Jx (λj W hj=>?_) (λj W hj hlt=>?_) W1 hJ0
     ·rw[hJ] at hj
      obtain ⟨⟨x,_,hSx⟩,_⟩:=hj
      exact ⟨hbox hSx,hcells hSx⟩
     ·rw[hJ] at hj
      obtain ⟨⟨x,hIx,hSx⟩,hLW,hKW⟩:=hj
      have hlt':es.length-1-j<es.length:=by omega
      obtain ⟨d,hd⟩:∃ d,es[es.length-1-j]?=some d:=⟨_,getElem?_eq_getElem hlt'⟩
      have hy:=run_yield (P:=P) (args:=#[.int .i64 ((es.length:Int)-1-(j:Int)),u (es.length-1-j)]) hLW (by rw[hrec];rfl)
      rw[hrec] at hy
      refine ⟨fn,_,assign,body,hy,roundIn_of_wpIn trivial ?_⟩
      -- the round's frame
      obtain ⟨ar,har⟩:∃ ar:Act,ar=(({ tmps:=a1.tmps,defers:=[] }:Act).put (some p1) (.int .i64 ((es.length:Int)-1-(j:Int)))).put (some p2) (u (es.length-1-j)):=⟨_,rfl⟩
      have harr:({ tmps:=(#[p1,p2].zip #[Value.int .i64 ((es.length:Int)-1-(j:Int)),u (es.length-1-j)]).foldl (λt (p,v)=>t.setIfInBounds p v) a1.tmps,defers:=[] }:Act)=ar:=by
       rw[har];simp [Act.put]
      have hSr:dQ (C1 l) ar W ⟨(p2,.d d)::(p1,.d (.val (.int .i64 ((es.length:Int)-1-(j:Int)))))::(St x).sl,(St x).bs⟩:=by
       obtain ⟨D2,β2,h2s⟩:=hSx
       have hd1':nE (C1 l).n (some p1)=true:=by rw[hCn];exact hd1
       have hd2':nE (C1 l).n (some p2)=true:=by rw[hCn];exact hd2
       refine ⟨D2,β2,by rw[har];exact (h2s.base.put hd1' _).put hd2' _,h2s.mem,h2s.high,λt=>?_⟩
       show kZ W D2 β2 (ar.tmps.getD t undef) (kD ((p2,SV.d d)::(p1,SV.d (.val (.int .i64 ((es.length:Int)-1-(j:Int)))))::(St x).sl) t)
       rw[har,vO (put_size.trans h2s.base.size) hd2',vO h2s.base.size hd1',qQ,qQ]
       by_cases e2:p2=t
       ·rw[if_pos e2,if_pos (by rw[e2])]
        have hrep:uS w D (u (es.length-1-j)) d:=hrr _ d hd
        refine uS.mono (λt' g' o' hd'=>⟨h2s.base.dmono _ _ _ (by rw[hC1];exact .inl hd'),?_⟩) hrep
        rw[h2s.base.keep t' g' o' (by rw[hC1];exact .inl hd'),hCw1,xW nC (hs.base.dok.lt _ _ _ hd')]
       ·rw[if_neg e2,if_neg (λe=>e2 (by injection e))]
        by_cases e1:p1=t
        ·rw[if_pos e1,if_pos (by rw[e1])]
         exact uS.val _
        ·rw[if_neg e1,if_neg (λe=>e1 (by injection e))]
         exact h2s.slots t
      refine wpIn_mono (Q:=λe a' w'=>∃ st',dQ { C1 l with w1:=W } a' w' st'/\PThen (eM P ⟨lo,C.n.hi,some l⟩ body (BackQ lo St I Q j)) (λ_ _=>False) e st') ?_ λe a2 W2 h=>?_
      ·have:=hround l j x d hlt hIx hd { C1 l with w1:=W } ar W (0:Nat) (hCn l) (sim_from hSr)
       rw[<- harr] at this
       exact this
      ·obtain ⟨st2,hS2,hp⟩:=h
       cases e with
       |normal=>
        have hL2:W2.heap[l]?=some (.loop (rec .ready none)):=by obtain ⟨D2,β2,h2s⟩:=hS2;exact h2s.base.oth l _ hLW rfl (λe=>by cases e)
        have hK2':W2.heap[w1.heap.size]?=some (.deferred (some [])):=by obtain ⟨D2,β2,h2s⟩:=hS2;exact h2s.base.oth _ _ hKW rfl (λe=>by cases e)
        have hS2':=sim_back hS2 hSr
        refine ⟨_,run_beginRound hL2 (by rw[hrec]),?_⟩
        have hS3:=turn (r':={ rec .ready none with state:=.busy }) hS2' hL2
        have hL3:(W2.putObj l (.loop { rec .ready none with state:=.busy })).heap[l]?=some (.loop { rec .ready none with state:=.busy }):=World.putObj_heap_same (qW hL2)
        have hK3:=hdef (ob:=.loop { rec .ready none with state:=.busy }) hK2'
        refine wpIn_mono (hp { C1 l with w1:=W2.putObj l (.loop { rec .ready none with state:=.busy }) } a2 _ 0 (hCn l) (sim_from hS3)) λe a4 W4 h=>?_
        obtain ⟨st4,hS4,hq⟩:=h
        have hL4:W4.heap[l]?=some (.loop { rec .ready none with state:=.busy }):=by obtain ⟨D2,β2,h2s⟩:=hS4;exact h2s.base.oth l _ hL3 rfl (λe=>by cases e)
        have hK4:W4.heap[w1.heap.size]?=some (.deferred (some [])):=by obtain ⟨D2,β2,h2s⟩:=hS4;exact h2s.base.oth _ _ hK3 rfl (λe=>by cases e)
        have hS4':=sim_back hS4 hS3
        have repin:∀ {W:World} {st:PS},dQ (C1 l) a4 W st->(∀ p∈st.sl,p.1<lo)->dQ (C1 l) { tmps:=a1.tmps,defers:=[] } W st:=fun {W st} h hk=>
         sim_repin h _ (by rw[hCn];exact hk) (by rw[hCn];exact hsz1) (λt _=>by rw[hCtm]) .nil
        cases e with
        |normal=>
         obtain ⟨y,hy1,hy2⟩:=hq
         have hre:=run_endRound (P:=P) none hL4
         refine ⟨_,_,hre,.inl ⟨rfl,?_⟩⟩
         rw[hJ]
         refine ⟨⟨y,hy2,repin (hy1 _ _ _ (turn hS4' hL4)) (hst y)⟩,?_,hdef hK4⟩
         rw[World.putObj_heap_same (qW hL4),hrec];rfl
        |ret=>
         obtain ⟨st5,hy1,hy2,hy3⟩:=hq
         have hre:=run_endRound (P:=P) (some .ret) hL4
         refine ⟨_,_,hre,.inr ⟨rfl,?_⟩⟩
         rw[hJx]
         refine ⟨⟨st5,hy2,hy3,repin (hy1 _ _ _ (turn hS4' hL4)) hy2⟩,?_,hdef hK4⟩
         rw[World.putObj_heap_same (qW hL4),hrec];rfl
        |exit id=>exact hq.elim
        |goto t=>exact hq.elim
        |panic ch=>exact hq.elim
        |outgrown=>exact hq.elim
       |exit id=>exact hp.elim
       |goto t=>exact hp.elim
       |ret=>exact hp.elim
       |panic ch=>exact hp.elim
       |outgrown=>exact hp.elim
   rw[hl] at key
   refine callsIn_any (key.mono ?_)
   rintro e W2 ⟨⟨v,rfl⟩,h⟩
   rcases h with h | h
   ·rw[hJ] at h
    obtain ⟨⟨x,hIx,hSx⟩,hLW,hKW⟩:=h
    have hre:=run_endLoop (P:=P) hLW (by rw[hrec];simp)
    have hS':=hout (turn (r':={ rec .ready none with state:=.exhausted }) hSx hLW) (hdef hKW)
    rw[hl] at hre hS'
    subst hrec
    exact ⟨none,_,hre,_,hS',hend x hIx⟩
   ·rw[hJx] at h
    obtain ⟨⟨st5,hk5,hq5,hS5⟩,hLW,hKW⟩:=h
    have hre:=run_endLoop (P:=P) hLW (by rw[hrec];simp)
    have hS':=hout (turn (r':={ rec .done (some .ret) with state:=.exhausted }) hS5 hLW) (hdef hKW)
    rw[hl] at hre hS'
    subst hrec
    exact ⟨some .ret,_,hre,wpIn_ret ⟨_,hS',hq5⟩⟩
end
theorem pwp_backL{P:Program}{n:Fr}{fB fI:FuncId}{T:TypeId}{S:SL}{B:BS}{Q:Exit->PS->Prop}{α γ:Type}(hbk:Backs P fB fI T)(hcb:callB P fB=true)(hrd:n.rd=none){id rid:Nat}{o1 o2:Oper}{t0 ta tf p1 p2:Tmp}{ats:Array TypeId}{assign body:Code}{E:TypeId}(lo:Nat)(F:γ->jY)(L:List γ)(z:γ)(St:α->PS)(I:Nat->α->Prop)(x0:α)
  (h1:o1.op=.move (.tmp t0)) (h1d:o1.dst=some ta) (h1g:o1.guard=none) (h2:o2.op=.call { callee:=.value (.func fB),args:=#[.tmp ta],argTypes:=ats }) (h2d:o2.dst=some tf) (h2g:o2.guard=none)
  (hda:nE n (some ta)=true) (hdf:nE n (some tf)=true) (hd1:nE ⟨lo,n.hi,none⟩ (some p1)=true) (hd2:nE ⟨lo,n.hi,none⟩ (some p2)=true) (hlo:Nat.ble n.lo lo=true)
  (hx:kD S t0=.d (.sl E 1 (L.map F))) (hF:∀ g,(F g).cells=[F g]) (hst:∀ x,((St x).sl.all λp=>Nat.blt p.1 lo)=true) (h0:xI ⟨(tf,.junk)::(ta,.junk)::S,B⟩ (St x0)) (hI:I 0 x0) (qM:L.length<=9223372036854775807)
  (hround:∀ (l j:Nat) (x:α),j<L.length->I j x->eM P ⟨lo,n.hi,some l⟩ assign (PThen (eM P ⟨lo,n.hi,some l⟩ body (BackQ lo St I Q j)) (λ_ _=>False)) ⟨(p2,.d (F (L.getD (L.length-1-j) z)))::(p1,.d (.val (.int .i64 ((L.length-1-j:Nat):Int))))::(St x).sl,(St x).bs⟩)
  (hend:∀ x,I L.length x->Q .normal (St x)) :
  eM P n (.seq (.region rid #[o1,o2] false) (.block id (.rangeFunc (.tmp tf) #[p1,p2] assign body))) Q ⟨S,B⟩:=by
 refine pwp_back hbk hcb hrd lo St I x0 h1 h1d h1g h2 h2d h2g hda hdf hd1 hd2 hlo hx (λx p hp=>?_) h0 hI (by simpa using Int.ofNat_le.2 qM) (λl j x d hj hIx hd=>?_) (λe he=>?_) (λx hIx=>hend x (by simpa using hIx))
 ·exact Nat.le_of_ble_eq_true (all_eq_true.1 (hst x) p hp)
 ·rw[length_map] at hj hd
  have h3:j<L.length:=hj
  have hlt:L.length-1-j<L.length:=by omega
  have hd':d=F (L.getD (L.length-1-j) z):=by
   rw[getElem?_map,getElem?_eq_getElem hlt] at hd
   simp only[Option.map_some,Option.some.injEq] at hd
   rw[<- hd]
   simp [List.getD,getElem?_eq_getElem hlt]
  have hj':(((L.map F).length:Int)-1-(j:Int))=((L.length-1-j:Nat):Int):=by rw[length_map];omega
  rw[hd',hj']
  exact hround l j x h3 hIx
 ·obtain ⟨g,_,rfl⟩:=mem_map.1 he
  exact hF g
theorem keys_of{l:SL}{lo:Nat}(h:(l.all λp=>Nat.blt p.1 lo)=true):∀ p∈l,p.1<lo:=λp hp=>Nat.le_of_ble_eq_true (all_eq_true.1 h p hp)
end Go.Fid
namespace Go.Proofs.YtckccjhflbljgaaGreatDoor
open List Tryz
open Go.RowKit Go.Shelf
attribute [local go_sem] Oper.semAt_some
set_option maxRecDepth 100000 in
set_option maxHeartbeats 2000000 in
theorem back1(N l Bs b off len cap:Nat)(u:Nat->Value)(qM:(len:Int)<=9223372036854775807)(J:Nat->World->Prop)(Jx:World->Prop)
  (hc:∀ j W,J j W->W.cell? ⟨Bs,0,none⟩=some (.slice (some ⟨b,off,none⟩) len cap)/\∀ i,i<len->W.cell? ⟨b,off+i,none⟩=some (u i))
  (hY:∀ j W,J j W->j<len->YieldAt Fence.wide N prog l #[.int .i64 ((len:Int)-1-(j:Int)),u (len-1-j)] W λe W'=>
   (e=.returned (.bool true)/\J (j+1) W')\/(e=.returned (.bool false)/\Jx W'))
  (W:World) (h0:J 0 W) :
  CallsIn Fence.wide (N+1) prog 203 #[.func (.yield l) #[] #[],.pointer (some ⟨Bs,0,none⟩)] W λe W'=>(∃ v,e=.returned v)/\(J len W'\/Jx W'):=by
 refine callsIn_of_wp func203 rfl trivial ?_ rfl
 simp only[ntmps203,size_toArray,length_cons,length_nil,Nat.reduceAdd,Nat.reduceSub,Array.replicate_succ,Array.replicate_zero,push_toArray,append_toArray,nil_append,cons_append]
 have hBs:=(hc 0 W h0).1
 gi_wp2
 gi_loopw [3] (λi wr=>∃ j:Nat,j<=len/\i=.int .i64 ((len:Int)-1-(j:Int))/\J j wr)
  (λi _=>(intOf i+1).toNat)
 case atStart=>exact ⟨0,Nat.zero_le _,by simp,h0⟩
 case round=>
  obtain ⟨j,hk,rfl,hJs⟩:=hrel
  have hBj:=(hc j wr hJs).1
  by_cases hlt:j<len
  ·have hcj:=(hc j wr hJs).2 (len-1-j) (by omega)
   obtain ⟨fn,tmps,assign,body,hy,hR⟩:=hY j wr hJs hlt
   gi_wp2
   refine hR.mono ?_
   rintro e W3 (⟨rfl,hJ3⟩ | ⟨rfl,hJx3⟩)
   ·gi_wp2
    go_roundw
    case rel=>exact ⟨j+1,by omega,by simp;omega,hJ3⟩
    case measure=>simp [intOf];omega
   ·gi_wp2
    refine bodyPost_ret (results_none rfl _ _ _) rfl ?_
    exact ⟨⟨_,rfl⟩,.inr hJx3⟩
  ·obtain rfl:j=len:=by omega
   gi_wp2
   go_end0
   exact ⟨⟨_,rfl⟩,.inl hJs⟩
set_option maxRecDepth 100000 in
set_option maxHeartbeats 2000000 in
theorem back1_nil(N l Bs cap:Nat)(ao:Option Addr)(J:World->Prop)(W:World)(hBs:W.cell? ⟨Bs,0,none⟩=some (.slice ao 0 cap))(h0:J W) :
  CallsIn Fence.wide (N+1) prog 203 #[.func (.yield l) #[] #[],.pointer (some ⟨Bs,0,none⟩)] W λe W'=>(∃ v,e=.returned v)/\J W':=by
 refine callsIn_of_wp func203 rfl trivial ?_ rfl
 simp only[ntmps203,size_toArray,length_cons,length_nil,Nat.reduceAdd,Nat.reduceSub,Array.replicate_succ,Array.replicate_zero,push_toArray,append_toArray,nil_append,cons_append]
 gi_wp2
 gi_loopw [3] (λi wr=>i=.int .i64 (-1)/\J wr) (λ_ _=>0)
 case atStart=>exact ⟨by simp,h0⟩
 case round=>
  obtain ⟨rfl,hJs⟩:=hrel
  gi_wp2
  go_end0
  exact ⟨⟨_,rfl⟩,hJs⟩
set_option maxHeartbeats 1000000 in
theorem back_in(a:Option Addr)(len cap:Nat)(w:World) :
  Calls prog 178 #[.slice a len cap] w λe w'=>e=.returned (.func (.func 203) #[] #[.pointer (some ⟨w.heap.size,0,none⟩)])/\w'=w.alloc (.cells #[.slice a len cap] 28):=by
 refine (callsIn_wide (n:=1)).1 (callsIn_of_wp func178 rfl trivial ?_ rfl)
 simp only[ntmps178,size_toArray,length_cons,length_nil,Nat.reduceAdd,Nat.reduceSub,Array.replicate_succ,Array.replicate_zero,push_toArray,append_toArray,nil_append,cons_append]
 gi_wp2
 go_ret
 exact ⟨rfl,rfl⟩
theorem backs:Go.Fid.Backs prog 178 203 28:=⟨back_in,back1_nil,λN l c b off len cap u qM J Jx hc hY W h0=>back1 N l c b off len cap u qM J Jx hc hY W h0,enters_of func203 (by kernel_rfl) rfl⟩
end Go.Proofs.YtckccjhflbljgaaGreatDoor
namespace Go.Fid
open List
def pw(n:Nat):Nat:=1000000000 ^ n
theorem cK:pw 0=1:=rfl
theorem uZ(n:Nat):pw (n+1)=1000000000*pw n:=by unfold pw;rw[Nat.pow_succ,Nat.mul_comm]
theorem pw_add(m n:Nat):pw (m+n)=pw m*pw n:=by unfold pw;rw[Nat.pow_add]
theorem pw_pos(n:Nat):0<pw n:=Nat.pow_pos (by decide)
theorem nQ{m n:Nat}(h:m<=n):pw m<=pw n:=Nat.pow_le_pow_right (by decide) h
theorem pw_lt{m n:Nat}(h:m<n):pw m<pw n:=Nat.pow_lt_pow_right (by decide) h
attribute [irreducible] pw
def val:List Nat->Nat
 |[]=>0
 |d::l=>d+1000000000*val l
def Dig(l:List Nat):Prop:=∀ d∈l,d<1000000000
theorem val_nil:val []=0:=rfl
theorem nX(d:Nat)(l:List Nat):val (d::l)=d+1000000000*val l:=rfl
theorem cZ(d:Nat):val [d]=d:=by simp [val]
theorem gU:Dig []:=by intro d h;cases h
theorem yO{d:Nat}{l:List Nat}:Dig (d::l)↔d<1000000000/\Dig l:=by simp [Dig]
theorem lD{a b:List Nat}:Dig (a++b)↔Dig a/\Dig b:=by
 constructor
 ·intro h;exact ⟨λd hd=>h d (by simp [hd]),λd hd=>h d (by simp [hd])⟩
 ·intro h d hd;rcases mem_append.1 hd with h' | h'
  ·exact h.1 d h'
  ·exact h.2 d h'
theorem Dig.take{l:List Nat}(h:Dig l)(n:Nat):Dig (l.take n):=λd hd=>h d (mem_of_mem_take hd)
theorem Dig.drop{l:List Nat}(h:Dig l)(n:Nat):Dig (l.drop n):=λd hd=>h d (mem_of_mem_drop hd)
theorem Dig.set{l:List Nat}(h:Dig l)(i:Nat){d:Nat}(hd:d<1000000000):Dig (l.set i d):=by
 intro x hx
 rcases mem_or_eq_of_mem_set hx with h' | h'
 ·exact h x h'
 ·exact h'▸hd
theorem Dig.getD{l:List Nat}(h:Dig l)(i:Nat):l.getD i 0<1000000000:=by
 unfold List.getD
 cases hi:l[i]? with
 |none=>decide
 |some x=>exact h x (mem_of_getElem? hi)
theorem zV(n:Nat):Dig (replicate n 0):=by
 intro d hd;rw[(mem_replicate.1 hd).2];decide
theorem eG(n:Nat):val (replicate n 0)=0:=by
 induction n with
 |zero=>rfl
 |succ n ih=>rw[replicate_succ,nX,ih]
theorem dX(a b:List Nat):val (a++b)=val a+pw a.length*val b:=by
 induction a with
 |nil=>simp [val,cK]
 |cons d a ih=>rw[cons_append,nX,nX,ih,length_cons,uZ];grind
theorem xB{l:List Nat}(h:Dig l):val l<pw l.length:=by
 induction l with
 |nil=>simp [val,cK]
 |cons d l ih=>
  rw[yO] at h
  have:=ih h.2
  rw[nX,length_cons,uZ];omega
theorem val_take_succ(l:List Nat)(i:Nat):val (l.take (i+1))=val (l.take i)+pw i*l.getD i 0:=by
 by_cases h:i<l.length
 ·rw[take_succ_eq_append_getElem h,dX,cZ,length_take,Nat.min_eq_left (Nat.le_of_lt h)]
  simp [List.getD,getElem?_eq_getElem h]
 ·rw[take_of_length_le (by omega),take_of_length_le (by omega)]
  simp [List.getD,getElem?_eq_none (Nat.le_of_not_lt h)]
theorem fN(l:List Nat)(i d:Nat)(h:i<l.length):val ((l.set i d).take (i+1))=val (l.take i)+pw i*d:=by
 rw[val_take_succ,take_set_of_le (Nat.le_refl i)]
 simp [List.getD,h]
theorem val_set(l:List Nat)(i d:Nat)(h:i<l.length):val (l.set i d)+pw i*l.getD i 0=val l+pw i*d:=by
 induction l generalizing i with
 |nil=>simp at h
 |cons x l ih=>
  cases i with
  |zero=>simp [val,cK];omega
  |succ i=>
   have:=ih i (by simpa using h)
   simp only[set_cons_succ,nX,getD_cons_succ,uZ]
   grind
theorem eB(l:List Nat)(i:Nat)(h:i<=l.length):val l=val (l.take i)+pw i*val (l.drop i):=by
 have h1:=dX (l.take i) (l.drop i)
 rw[take_append_drop,length_take,Nat.min_eq_left h] at h1
 exact h1
theorem getD_set(l:List Nat)(i j d:Nat)(h:i<l.length):(l.set i d).getD j 0=if i=j then d else l.getD j 0:=by
 simp only[List.getD,getElem?_set]
 by_cases hij:i=j
 ·subst hij;simp [h]
 ·simp [hij]
def ofNat(n:Nat):List Nat:=if n=0 then [] else n % 1000000000::ofNat (n / 1000000000)
termination_by n
decreasing_by omega
theorem uC:ofNat 0=[]:=by rw[ofNat];rfl
theorem mC{n:Nat}(h:n≠0):ofNat n=n % 1000000000::ofNat (n / 1000000000):=by rw[ofNat,if_neg h]
theorem kH:∀ n,val (ofNat n)=n
 |n=>by
  by_cases h:n=0
  ·subst h;rw[uC];rfl
  ·rw[mC h,nX,kH (n / 1000000000)];omega
termination_by n=>n
decreasing_by omega
theorem kI:∀ n,Dig (ofNat n)
 |n=>by
  by_cases h:n=0
  ·subst h;rw[uC];exact gU
  ·rw[mC h];exact yO.2 ⟨Nat.mod_lt _ (by decide),kI (n / 1000000000)⟩
termination_by n=>n
decreasing_by omega
theorem iD{n:Nat}:ofNat n=[]↔n=0:=by
 constructor
 ·intro h;rw[<- kH n,h];rfl
 ·intro h;rw[h,uC]
def Top(l:List Nat):Prop:=l.getD (l.length-1) 1≠0
def gG(l:List Nat):Prop:=Dig l/\Top l
theorem top_cons{d:Nat}{l:List Nat}(h:l≠[]):Top (d::l)↔Top l:=by
 cases l with
 |nil=>exact absurd rfl h
 |cons e l=>simp [Top]
theorem ofNat_top:∀ n,Top (ofNat n)
 |n=>by
  by_cases h:n=0
  ·subst h;rw[uC];simp [Top]
  ·rw[mC h]
   by_cases h':n / 1000000000=0
   ·rw[h',uC];simp [Top];omega
   ·rw[top_cons (λe=>h' (iD.1 e))];exact ofNat_top (n / 1000000000)
termination_by n=>n
decreasing_by omega
theorem qF(n:Nat):gG (ofNat n):=⟨kI n,ofNat_top n⟩
theorem can_tail{d:Nat}{l:List Nat}(h:gG (d::l)):gG l:=by
 refine ⟨(yO.1 h.1).2,?_⟩
 by_cases hl:l=[]
 ·subst hl;simp [Top]
 ·exact (top_cons hl).1 h.2
theorem can_eq:∀ {l:List Nat},gG l->l=ofNat (val l)
 |[],_=>by rw[val_nil,uC]
 |d::l,h=>by
  have ih:=can_eq (can_tail h)
  have hd:=(yO.1 h.1).1
  have hne:val (d::l)≠0:=by
   rw[nX]
   intro e
   have h0:val l=0:=by omega
   rw[h0,uC] at ih
   have hd0:d=0:=by omega
   subst ih;subst hd0
   exact h.2 rfl
  have e1:(d+1000000000*val l) % 1000000000=d:=by omega
  have e2:(d+1000000000*val l) / 1000000000=val l:=by omega
  rw[mC hne,nX,e1,e2,<- ih]
theorem can_ofNat_val{l:List Nat}(h:gG l){n:Nat}(hn:val l=n):l=ofNat n:=hn▸can_eq h
theorem uF{n m:Nat}(h:n<pw m):(ofNat n).length<=m:=by
 induction m generalizing n with
 |zero=>
  rw[cK] at h;have:n=0:=by omega
  subst this;rw[uC];exact Nat.le_refl _
 |succ m ih=>
  by_cases h0:n=0
  ·subst h0;rw[uC];simp
  ·rw[mC h0,length_cons]
   have:=ih (n:=n / 1000000000) (by rw[uZ] at h;omega)
   omega
theorem val_ge_of_top{l:List Nat}(h:Top l)(hl:l≠[]):pw (l.length-1)<=val l:=by
 have h1:=val_take_succ l (l.length-1)
 have hp:0<l.length:=by cases l with
  |nil=>exact absurd rfl hl
  |cons=>simp
 rw[show l.length-1+1=l.length by omega,take_length] at h1
 have h2:l.getD (l.length-1) 0≠0:=by
  have h3:l.getD (l.length-1) 1≠0:=h
  have h4:l.length-1<l.length:=by omega
  simpa [List.getD,getElem?_eq_getElem h4] using h3
 rw[h1]
 refine Nat.le_trans ?_ (Nat.le_add_left _ _)
 exact Nat.le_mul_of_pos_right _ (Nat.pos_of_ne_zero h2)
theorem fO{n m:Nat}(h:(ofNat n).length<(ofNat m).length):n<m:=by
 have h1:=xB (kI n)
 have h2:=val_ge_of_top (ofNat_top m) (by intro e;rw[e] at h;simp at h)
 rw[kH] at h1 h2
 exact Nat.lt_of_lt_of_le h1 (Nat.le_trans (nQ (by omega)) h2)
theorem getD_out{l:List Nat}{i:Nat}(h:¬ (i:Int)<(l.length:Int)):l.getD i 0=0:=by
 simp [List.getD,getElem?_eq_none (show l.length<=i by omega)]
theorem trim_cond{l:List Nat}{b:Bool}(h:(decide ((0:Int)<((l.length:Nat):Int))&&(((l.getD (l.length-1) 0:Nat):Int) == 0))=b):if b then 0<l.length/\l.getD (l.length-1) 0=0 else l.length=0\/l.getD (l.length-1) 0≠0:=by
 subst h
 by_cases h1:l.length=0
 ·simp [h1]
 ·have h2:0<l.length:=by omega
  by_cases h3:l.getD (l.length-1) 0=0
  ·have:((0:Nat):Int)=0:=rfl
   simp only[h3,this,beq_self_eq_true,Bool.and_true]
   simp [h2,h3]
  ·have h4:(((l.getD (l.length-1) 0:Nat):Int) == 0)=false:=by
    rw[beq_eq_false_iff_ne];omega
   simp only[h4,Bool.and_false]
   exact .inr h3
theorem trim_step{l l0:List Nat}(hl:Dig l)(hv:val l=val l0)(hle:l.length<=l0.length)(h:(decide ((0:Int)<((l.length:Nat):Int))&&(((l.getD (l.length-1) 0:Nat):Int) == 0))=true) :
  Dig (l.take (l.length-1))/\val (l.take (l.length-1))=val l0/\(l.take (l.length-1)).length<=l0.length:=by
 obtain ⟨h1,h2⟩:=trim_cond h
 refine ⟨hl.take _,?_,by simp;omega⟩
 have h3:=val_take_succ l (l.length-1)
 rw[show l.length-1+1=l.length by omega,take_length,h2] at h3
 omega
theorem trim_less{l:List Nat}(h:(decide ((0:Int)<((l.length:Nat):Int))&&(((l.getD (l.length-1) 0:Nat):Int) == 0))=true):(l.take (l.length-1)).length<l.length:=by
 obtain ⟨h1,h2⟩:=trim_cond h
 simp;omega
theorem trim_end{l l0:List Nat}(hl:Dig l)(hv:val l=val l0)(h:(decide ((0:Int)<((l.length:Nat):Int))&&(((l.getD (l.length-1) 0:Nat):Int) == 0))=false):ofNat (val l0)=l:=by
 have h1:=trim_cond h
 simp only[Bool.false_eq_true,if_false] at h1
 refine (can_ofNat_val ⟨hl,?_⟩ hv).symm
 rcases h1 with h1 | h1
 ·have:l=[]:=eq_nil_of_length_eq_zero h1
  subst this;simp [Top]
 ·intro h2
  by_cases h3:l.length=0
  ·have:l=[]:=eq_nil_of_length_eq_zero h3
   subst this;simp at h2
  ·have h4:l.length-1<l.length:=by omega
   simp [List.getD,getElem?_eq_getElem h4] at h1 h2
   exact h1 h2
theorem plus_step{a b out:List Nat}{i c n s c':Nat}(qM:out.length=n)(hd:Dig out)(hi:i<n)(hv:val (out.take i)+pw i*c=val (a.take i)+val (b.take i))(hs:s<1000000000)(hsum:s+1000000000*c'=a.getD i 0+b.getD i 0+c) :
  (out.set i s).length=n/\Dig (out.set i s)/\val ((out.set i s).take (i+1))+pw (i+1)*c'=val (a.take (i+1))+val (b.take (i+1)):=by
 refine ⟨by simpa using qM,hd.set i hs,?_⟩
 rw[fN out i s (by omega),val_take_succ,val_take_succ,uZ]
 grind
theorem plus_end{a b out:List Nat}{c:Nat}(hda:Dig a)(hdb:Dig b)(qM:out.length=max a.length b.length+1)(hv:val (out.take (max a.length b.length+1))+pw (max a.length b.length+1)*c=val (a.take (max a.length b.length+1))+val (b.take (max a.length b.length+1))):val out=val a+val b:=by
 rw[take_of_length_le (by omega),take_of_length_le (by omega),take_of_length_le (by omega)] at hv
 have h1:=xB hda
 have h2:=xB hdb
 have h3:pw a.length<=pw (max a.length b.length):=nQ (by omega)
 have h4:pw b.length<=pw (max a.length b.length):=nQ (by omega)
 rw[uZ] at hv
 have hc:c=0:=by
  rcases Nat.eq_zero_or_pos c with h | h
  ·exact h
  ·have:1000000000*pw (max a.length b.length)<=1000000000*pw (max a.length b.length)*c:=Nat.le_mul_of_pos_right _ h
   omega
 subst hc
 omega
theorem minus_step{a b out:List Nat}{i c n s c':Nat}(qM:out.length=n)(hd:Dig out)(hi:i<n)(hv:val (out.take i)+val (b.take i)=val (a.take i)+pw i*c)(hs:s<1000000000)(hsum:s+(b.getD i 0+c)=a.getD i 0+1000000000*c') :
  (out.set i s).length=n/\Dig (out.set i s)/\val ((out.set i s).take (i+1))+val (b.take (i+1))=val (a.take (i+1))+pw (i+1)*c':=by
 refine ⟨by simpa using qM,hd.set i hs,?_⟩
 rw[fN out i s (by omega),val_take_succ,val_take_succ,uZ]
 grind
theorem minus_end{a b out:List Nat}{c:Nat}(hda:Dig a)(hdb:Dig b)(hd:Dig out)(hba:val b<=val a)(qM:out.length=a.length)(hv:val (out.take a.length)+val (b.take a.length)=val (a.take a.length)+pw a.length*c):val out=val a-val b:=by
 rw[take_of_length_le (l:=out) (by omega),take_of_length_le (l:=a) (by omega)] at hv
 have h1:=xB hda
 have h2:=xB hd
 rw[qM] at h2
 have h3:val (b.take a.length)=val b:=by
  by_cases h:a.length<=b.length
  ·have h4:=eB b a.length h
   rcases Nat.eq_zero_or_pos (val (b.drop a.length)) with h5 | h5
   ·rw[h5] at h4;omega
   ·have:pw a.length<=pw a.length*val (b.drop a.length):=Nat.le_mul_of_pos_right _ h5
    omega
  ·rw[take_of_length_le (by omega)]
 have hc:c=0:=by
  rcases Nat.eq_zero_or_pos c with h | h
  ·exact h
  ·have:pw a.length<=pw a.length*c:=Nat.le_mul_of_pos_right _ h
   omega
 subst hc
 omega
theorem times_step{out:List Nat}{A X p q pb c i j s:Nat}(hi:i+j<out.length)(hd:Dig out)(hv:val out+pw (i+j)*c=A+pw i*(p*X))(hs:s=out.getD (i+j) 0+p*q+c)(hX:pb=X+pw j*q) :
  Dig (out.set (i+j) (s % 1000000000))/\val (out.set (i+j) (s % 1000000000))+pw (i+j+1)*(s / 1000000000)=A+pw i*(p*pb):=by
 refine ⟨hd.set _ (Nat.mod_lt _ (by decide)),?_⟩
 have h1:=val_set out (i+j) (s % 1000000000) hi
 have h2:s=s % 1000000000+1000000000*(s / 1000000000):=by omega
 generalize hs1:s % 1000000000=u at *
 generalize hs2:s / 1000000000=t at *
 generalize hg:out.getD (i+j) 0=g at *
 generalize hv2:val (out.set (i+j) u)=v at *
 rw[uZ]
 rw[pw_add] at *
 subst hX
 have h3:u+1000000000*t=g+p*q+c:=by omega
 have h4:pw i*pw j*(u+1000000000*t)=pw i*pw j*(g+p*q+c):=by rw[h3]
 grind
theorem fQ(n k:Nat):(replicate n 0).getD k 0=0:=by
 simp only[List.getD,getElem?_replicate]
 split<;>rfl
theorem zero_set{out:List Nat}{i m s:Nat}(h:i<m)(hz:∀ k,m<=k->out.getD k 0=0):∀ k,m<=k->(out.set i s).getD k 0=0:=λk hk=>by
 have h1:=hz k hk
 simp only[List.getD,getElem?_set] at h1 ⊢
 rw[if_neg (by omega)]
 exact h1
theorem times_row{a b o2:List Nat}{i c:Nat}(hdb:Dig o2)(hi:i<a.length)(qM:o2.length=a.length+b.length)(hz:∀ k,i+b.length<=k->o2.getD k 0=0)(hc:c<1000000000)
  (hv:val o2+pw (i+b.length)*c=val (a.take i)*val b+pw i*(a.getD i 0*val (b.take b.length))) :
  (o2.set (i+b.length) c).length=a.length+b.length/\Dig (o2.set (i+b.length) c)/\(∀ k,i+1+b.length<=k->(o2.set (i+b.length) c).getD k 0=0)/\val (o2.set (i+b.length) c)=val (a.take (i+1))*val b:=by
 refine ⟨by simpa using qM,hdb.set _ hc,zero_set (by omega) (λk hk=>hz k (by omega)),?_⟩
 have h1:=val_set o2 (i+b.length) c (by omega)
 rw[hz _ (Nat.le_refl _)] at h1
 rw[take_of_length_le (l:=b) (Nat.le_refl _)] at hv
 rw[val_take_succ]
 grind
structure kW where
 neg:Bool
 gs:List Nat
structure kY where
 num:kW
 den:kW
abbrev qX:kY:=⟨⟨false,[]⟩,⟨false,[]⟩⟩
structure jX where
 lo:kY
 hi:kY
instance:Inhabited kW:=⟨⟨false,[]⟩⟩
instance:Inhabited kY:=⟨⟨⟨false,[]⟩,⟨false,[]⟩⟩⟩
instance:Inhabited jX:=⟨⟨default,default⟩⟩
def kW.zero:kW:=⟨false,[]⟩
def kY.zero:kY:=⟨.zero,.zero⟩
def jX.zero:jX:=⟨.zero,.zero⟩
def uY(a b:Int):Int:=if a<b then -1 else if b<a then 1 else 0
theorem aQ{a b:Int}(h:b<a):uY a b=1:=by unfold uY;rw[if_neg (by omega),if_pos h]
theorem cmpI_eq{a b:Int}(h1:¬ a<b)(h2:¬ b<a):uY a b=0:=by unfold uY;rw[if_neg h1,if_neg h2]
def xU(neg:Bool)(n:Nat):kW:=⟨neg&&n != 0,ofNat n⟩
theorem mkI_zero{neg:Bool}{n:Nat}(h:(((ofNat n).length:Nat):Int)=0):xU neg n=⟨false,[]⟩:=by
 have h1:ofNat n=[]:=eq_nil_of_length_eq_zero (by omega)
 have h2:n=0:=iD.1 h1
 subst h2
 unfold xU
 rw[h1]
 simp
theorem mkI_pos{neg:Bool}{n:Nat}(h:(((ofNat n).length:Nat):Int)≠0):xU neg n=⟨neg,ofNat n⟩:=by
 have h1:n≠0:=λe=>by subst e;rw[uC] at h;exact h rfl
 unfold xU
 have:(n != 0)=true:=bne_iff_ne.2 h1
 rw[this,Bool.and_true]
theorem bU(l:List Nat)(j:Nat)(h:j<l.length):val (l.drop (l.length-(j+1)))=l.getD (l.length-1-j) 0+1000000000*val (l.drop (l.length-j)):=by
 have h1:l.length-(j+1)<l.length:=by omega
 rw[drop_eq_getElem_cons h1,nX,show l.length-(j+1)+1=l.length-j by omega]
 have h2:l.length-1-j=l.length-(j+1):=by omega
 rw[h2]
 simp [List.getD,getElem?_eq_getElem h1]
theorem val_drop_lt{l:List Nat}(hd:Dig l){j:Nat}(h:j<=l.length):val (l.drop (l.length-j))<pw j:=by
 have h1:=xB (hd.drop (l.length-j))
 rw[length_drop,show l.length-(l.length-j)=j by omega] at h1
 exact h1
def yK(l:List Nat):Nat:=if l.length<=2 then val l else 0
def mZ(l:List Nat):Bool:=decide (l.length<=2)
theorem word_bound{l:List Nat}(hd:Dig l){j:Nat}(h:j<l.length)(h2:l.length<=2):val (l.drop (l.length-j))<1000000000:=by
 have h1:=val_drop_lt hd (Nat.le_of_lt h)
 have h3:pw j<=pw 1:=nQ (by omega)
 rw[show (1:Nat)=0+1 from rfl,uZ,cK] at h3
 omega
theorem val_len2{l:List Nat}(hd:Dig l)(h2:l.length<=2):val l<1000000000000000000:=by
 have h1:=xB hd
 have h3:pw l.length<=pw 2:=nQ h2
 rw[show (2:Nat)=0+1+1 from rfl,uZ,uZ,cK] at h3
 omega
theorem cmpI_len{a b:List Nat}(ha:gG a)(hb:gG b)(h:((a.length:Nat):Int)≠((b.length:Nat):Int)):uY ((a.length:Nat):Int) ((b.length:Nat):Int)=uY ((val a:Nat):Int) ((val b:Nat):Int):=by
 have e1:=can_eq ha
 have e2:=can_eq hb
 by_cases hlt:a.length<b.length
 ·have:val a<val b:=fO (by rw[<- e1,<- e2];exact hlt)
  unfold uY
  rw[if_pos (by omega),if_pos (by omega)]
 ·have:val b<val a:=fO (by rw[<- e1,<- e2];omega)
  rw[aQ (by omega),aQ (by omega)]
theorem cmpI_top{a b:List Nat}(ha:Dig a)(hb:Dig b)(hl:a.length=b.length){j:Nat}(h:j<a.length)(he:val (a.drop (a.length-j))=val (b.drop (a.length-j)))(hne:((a.getD (a.length-1-j) 0:Nat):Int)≠((b.getD (a.length-1-j) 0:Nat):Int)) :
  uY ((a.getD (a.length-1-j) 0:Nat):Int) ((b.getD (a.length-1-j) 0:Nat):Int)=uY ((val a:Nat):Int) ((val b:Nat):Int):=by
 have h1:=eB a (a.length-(j+1)) (by omega)
 have h2:=eB b (a.length-(j+1)) (by omega)
 rw[bU a j h] at h1
 have h3:=bU b j (by omega)
 rw[<- hl] at h3
 rw[h3,<- he] at h2
 have h4:=xB (ha.take (a.length-(j+1)))
 have h5:=xB (hb.take (a.length-(j+1)))
 rw[length_take,Nat.min_eq_left (by omega)] at h4 h5
 generalize a.getD (a.length-1-j) 0=x at *
 generalize b.getD (a.length-1-j) 0=y at *
 generalize val (a.drop (a.length-j))=t at *
 generalize pw (a.length-(j+1))=p at *
 generalize val (a.take (a.length-(j+1)))=u at *
 generalize val (b.take (a.length-(j+1)))=v at *
 rcases Nat.lt_or_gt_of_ne (show x≠y by omega) with hxy | hxy
 ·have h6:p*(x+1000000000*t)+p<=p*(y+1000000000*t):=by
   have:=Nat.mul_le_mul_left p (show x+1000000000*t+1<=y+1000000000*t by omega)
   rw[Nat.mul_add,Nat.mul_one] at this
   exact this
  unfold uY
  rw[if_pos (by omega),if_pos (by omega)]
 ·have h6:p*(y+1000000000*t)+p<=p*(x+1000000000*t):=by
   have:=Nat.mul_le_mul_left p (show y+1000000000*t+1<=x+1000000000*t by omega)
   rw[Nat.mul_add,Nat.mul_one] at this
   exact this
  rw[aQ (by omega),aQ (by omega)]
theorem cmpI_same{a b:List Nat}(he:val a=val b):uY ((val a:Nat):Int) ((val b:Nat):Int)=0:=by
 rw[he];exact cmpI_eq (by omega) (by omega)
theorem aB{n:Nat}(h:n<18446744073709551616):(ofNat n).length<=3:=uF (by
 rw[show (3:Nat)=0+1+1+1 from rfl,uZ,uZ,uZ,cK];omega)
theorem split_step{g:List Nat}{m n:Nat}(h:g++ofNat m=ofNat n)(hm:(0:Int)<((m:Nat):Int)):(g++[m % 1000000000])++ofNat (m / 1000000000)=ofNat n:=by
 rw[<- h,mC (n:=m) (by omega),append_assoc];rfl
theorem split_len{g:List Nat}{m n:Nat}(h:g++ofNat m=ofNat n)(hn:n<18446744073709551616):g.length<=3:=by
 have:=aB hn
 rw[<- h,length_append] at this
 omega
theorem split_end{g:List Nat}{m n:Nat}(h:g++ofNat m=ofNat n)(hm:¬ (0:Int)<((m:Nat):Int)):ofNat n=g:=by
 have:m=0:=by omega
 subst this
 rw[<- h,uC,append_nil]
def zD:List Nat->Int
 |[]=>-1
 |d::l=>if 1000000000<=d then 0 else if zD l<0 then -1 else zD l+1
theorem firstBig_none{l:List Nat}:zD l<0↔Dig l:=by
 induction l with
 |nil=>simp [zD,gU]
 |cons d l ih=>
  rw[yO]
  unfold zD
  by_cases h:1000000000<=d
  ·rw[if_pos h];constructor
   ·intro h1;omega
   ·intro h1;omega
  ·rw[if_neg h]
   by_cases h2:zD l<0
   ·rw[if_pos h2];simp [ih.1 h2];omega
   ·rw[if_neg h2];constructor
    ·intro h1;omega
    ·intro h1;exact absurd (ih.2 h1.2) h2
theorem lH{l:List Nat}(h:Dig l):zD l=-1:=by
 induction l with
 |nil=>rfl
 |cons d l ih=>
  rw[yO] at h
  unfold zD
  rw[if_neg (by omega),if_pos (firstBig_none.2 h.2)]
theorem firstBig_at:∀ {l:List Nat} {i:Nat},i<l.length->Dig (l.take i)->1000000000<=l.getD i 0->zD l=(i:Int)
 |[],i,h,_,_=>by simp at h
 |d::l,0,_,_,hd=>by
  unfold zD
  rw[if_pos (by simpa using hd)];rfl
 |d::l,i+1,h,ht,hd=>by
  rw[take_succ_cons,yO] at ht
  have ih:=firstBig_at (l:=l) (i:=i) (by simpa using h) ht.2 (by simpa using hd)
  unfold zD
  rw[if_neg (by omega),ih,if_neg (by omega)]
  omega
theorem dig_take_succ{l:List Nat}{i:Nat}(h:i<l.length)(ht:Dig (l.take i))(hd:l.getD i 0<1000000000):Dig (l.take (i+1)):=by
 rw[take_succ_eq_append_getElem h,lD]
 refine ⟨ht,?_⟩
 intro d hx
 simp [List.getD,getElem?_eq_getElem h] at hd hx
 rw[hx];exact hd
def uL(x:kW):Bool:=if ((x.gs.length:Nat):Int)=0 then !x.neg else (((((x.gs.getD (x.gs.length-1) 0):Nat):Int) != 0)&&(!(decide (0<=zD x.gs))))
def kQ(x:kW):List Nat:=if uL x=true then x.gs else []
theorem qJ(x:kW):gG (kQ x):=by
 unfold kQ
 split
 ·rename_i h
  unfold uL at h
  split at h
  ·have:x.gs=[]:=eq_nil_of_length_eq_zero (by omega)
   rw[this];exact ⟨gU,by simp [Top]⟩
  ·rename_i h0
   simp only[Bool.and_eq_true,Bool.not_eq_true',decide_eq_false_iff_not,bne_iff_ne] at h
   refine ⟨firstBig_none.1 (by omega),λh1=>h.1 ?_⟩
   have h4:x.gs.length-1<x.gs.length:=by omega
   simp [List.getD,getElem?_eq_getElem h4] at h1 ⊢
   exact h1
 ·exact ⟨gU,by simp [Top]⟩
def dD(b:Bool)(n:Nat):Int:=if b then -(n:Int) else n
def jV(x:kW):Int:=dD x.neg (val (kQ x))
def kN(z:Int):kW:=xU (decide (z<0)) z.natAbs
theorem dH(b:Bool)(n:Nat):xU b n=kN (dD b n):=by
 unfold kN dD
 cases b with
 |false=>
  rw[if_neg (by simp),Int.natAbs_natCast]
  have:decide ((n:Int)<0)=false:=decide_eq_false (by omega)
  rw[this]
 |true=>
  rw[if_pos rfl,Int.natAbs_neg,Int.natAbs_natCast]
  unfold xU
  by_cases h:n=0
  ·subst h;simp
  ·have h1:decide (-(n:Int)<0)=true:=decide_eq_true (by omega)
   rw[h1]
theorem gH(x:kW):(kQ x).length<=x.gs.length:=by
 unfold kQ;split
 ·exact Nat.le_refl _
 ·exact Nat.zero_le _
theorem add_len{a b:List Nat}(ha:Dig a)(hb:Dig b):(ofNat (val a+val b)).length<=max a.length b.length+1:=uF (by
 have h1:=xB ha
 have h2:=xB hb
 have h3:pw a.length<=pw (max a.length b.length):=nQ (by omega)
 have h4:pw b.length<=pw (max a.length b.length):=nQ (by omega)
 rw[uZ];omega)
theorem sub_len{a b:List Nat}(ha:Dig a):(ofNat (val a-val b)).length<=a.length:=uF (by
 have h1:=xB ha
 omega)
theorem mul_len{a b:List Nat}(ha:Dig a)(hb:Dig b):(ofNat (val a*val b)).length<=a.length+b.length:=uF (by
 rw[pw_add]
 exact Nat.mul_lt_mul_of_lt_of_le (xB ha) (Nat.le_of_lt (xB hb)) (pw_pos _))
def qZ(z:Int):Int:=if z=0 then 0 else if z<0 then -1 else 1
theorem lY{l:List Nat}(h:gG l)(h0:val l=0):l=[]:=by rw[can_eq h,h0,uC]
theorem toZ_nil{x:kW}(h:(((kQ x).length:Nat):Int)=0):jV x=0:=by
 have:kQ x=[]:=eq_nil_of_length_eq_zero (by omega)
 unfold jV dD
 rw[this,val_nil];split<;>rfl
theorem sign_neg{x:kW}(h:(((kQ x).length:Nat):Int)≠0)(hn:x.neg=true):qZ (jV x)=-1:=by
 have h1:val (kQ x)≠0:=λe=>h (by rw[lY (qJ x) e];rfl)
 unfold qZ jV dD
 rw[if_pos hn,if_neg (by omega),if_pos (by omega)]
theorem sign_pos{x:kW}(h:(((kQ x).length:Nat):Int)≠0)(hn:x.neg=false):qZ (jV x)=1:=by
 have h1:val (kQ x)≠0:=λe=>h (by rw[lY (qJ x) e];rfl)
 unfold qZ jV dD
 rw[hn]
 simp only[Bool.false_eq_true,if_false]
 rw[if_neg (by omega),if_neg (by omega)]
theorem neg_eq(x:kW):xU (!x.neg) (val (kQ x))=kN (-jV x):=by
 rw[dH]
 congr 1
 unfold jV dD
 cases x.neg<;>simp
theorem sum_same{b c:Bool}(h:b=c)(m n:Nat):xU b (val (ofNat (m+n)))=kN (dD b m+dD c n):=by
 subst h
 rw[dH,kH]
 congr 1
 unfold dD
 cases b<;>simp<;>omega
theorem sum_first{b c:Bool}(h:b≠c){m n:Nat}(hn:n<=m):xU b (val (ofNat (m-n)))=kN (dD b m+dD c n):=by
 have h1:c=!b:=by revert h;cases b<;>cases c<;>simp
 subst h1
 rw[dH,kH]
 congr 1
 unfold dD
 cases b<;>simp<;>omega
theorem sum_second{b c:Bool}(h:b≠c){m n:Nat}(hn:m<=n):xU c (val (ofNat (n-m)))=kN (dD b m+dD c n):=by
 have h1:c=!b:=by revert h;cases b<;>cases c<;>simp
 subst h1
 rw[dH,kH]
 congr 1
 unfold dD
 cases b<;>simp<;>omega
theorem lA{a b:Int}(h:0<=uY a b):b<=a:=by
 unfold uY at h
 split at h
 ·omega
 ·omega
theorem cmpI_lt{a b:Int}(h:¬ 0<=uY a b):a<b:=by
 unfold uY at h
 split at h
 ·assumption
 ·split at h<;>omega
theorem mul_eq{b c:Bool}(m n:Nat):xU (!(b == c)) (val (ofNat (m*n)))=kN (dD b m*dD c n):=by
 rw[dH,kH]
 congr 1
 unfold dD
 cases b<;>cases c<;>simp [Int.neg_mul,Int.mul_neg]
theorem conv_u64(n:Int):IntKind.u64.wrap n=(((n % 18446744073709551616).toNat:Nat):Int):=by
 have:IntKind.u64.wrap n=n % 18446744073709551616:=by
  simp [IntKind.wrap,IntKind.bits,IntKind.signed]
 rw[this];omega
theorem neg_u64{n:Int}(h:n<0)(h1:-9223372036854775808<=n):IntKind.u64.wrap (0-(((n % 18446744073709551616).toNat:Nat):Int))=(((-n).toNat:Nat):Int):=by
 have:IntKind.u64.wrap (0-(((n % 18446744073709551616).toNat:Nat):Int))=(0-(((n % 18446744073709551616).toNat:Nat):Int)) % 18446744073709551616:=by
  simp [IntKind.wrap,IntKind.bits,IntKind.signed]
 rw[this];omega
theorem of_neg{n:Int}(h:n<0):xU (decide (n<0)) (val (ofNat (-n).toNat))=kN n:=by
 rw[kH]
 unfold kN
 congr 1;omega
theorem of_pos{n:Int}(h:¬ n<0)(h1:n<=9223372036854775807):xU (decide (n<0)) (val (ofNat (n % 18446744073709551616).toNat))=kN n:=by
 rw[kH]
 unfold kN
 congr 1;omega
theorem yL(z:Int):(qZ z=0/\z=0)\/(qZ z=-1/\z<0)\/(qZ z=1/\0<z):=by
 unfold qZ
 split
 ·left;omega
 ·split<;>omega
theorem cmp_sign{a b:Int}(h:qZ a≠qZ b):uY (qZ a) (qZ b)=uY a b:=by
 rcases yL a with ⟨h1,h2⟩ | ⟨h1,h2⟩ | ⟨h1,h2⟩<;>rcases yL b with ⟨h3,h4⟩ | ⟨h3,h4⟩ | ⟨h3,h4⟩<;>first | exact absurd (h1.trans h3.symm) h | (rw[h1,h3];unfold uY;first | rw[if_pos (by omega),if_pos (by omega)] | rw[if_neg (by omega),if_pos (by omega),if_neg (by omega),if_pos (by omega)])
theorem cmp_neg{x y:kW}(h:qZ (jV x)=qZ (jV y))(hn:x.neg=true):-(uY ((val (kQ x):Nat):Int) ((val (kQ y):Nat):Int))=uY (jV x) (jV y):=by
 have hx:jV x=-((val (kQ x):Nat):Int):=by unfold jV dD;rw[if_pos hn]
 have hy:jV y=-((val (kQ y):Nat):Int)\/jV y=((val (kQ y):Nat):Int):=by unfold jV dD;split<;>simp
 rcases yL (jV x) with ⟨h1,h2⟩ | ⟨h1,h2⟩ | ⟨h1,h2⟩<;>rcases yL (jV y) with ⟨h3,h4⟩ | ⟨h3,h4⟩ | ⟨h3,h4⟩<;>first | (exfalso;omega) | skip
 ·have e1:((val (kQ x):Nat):Int)=0:=by omega
  have e2:((val (kQ y):Nat):Int)=0:=by omega
  rw[e1,e2,h2,h4];rfl
 ·have e2:jV y=-((val (kQ y):Nat):Int):=by omega
  rw[hx,e2]
  unfold uY
  split<;>split<;>first | rfl | omega | (split<;>first | rfl | omega)
theorem cmp_pos{x y:kW}(h:qZ (jV x)=qZ (jV y))(hn:x.neg=false):uY ((val (kQ x):Nat):Int) ((val (kQ y):Nat):Int)=uY (jV x) (jV y):=by
 have hx:jV x=((val (kQ x):Nat):Int):=by unfold jV dD;rw[hn];rfl
 have hy:jV y=-((val (kQ y):Nat):Int)\/jV y=((val (kQ y):Nat):Int):=by unfold jV dD;split<;>simp
 rcases yL (jV x) with ⟨h1,h2⟩ | ⟨h1,h2⟩ | ⟨h1,h2⟩<;>rcases yL (jV y) with ⟨h3,h4⟩ | ⟨h3,h4⟩ | ⟨h3,h4⟩<;>first | (exfalso;omega) | skip
 ·have e1:((val (kQ x):Nat):Int)=0:=by omega
  have e2:((val (kQ y):Nat):Int)=0:=by omega
  rw[e1,e2,h2,h4]
 ·have e2:jV y=((val (kQ y):Nat):Int):=by omega
  rw[hx,e2]
theorem cmpI_range(a b:Int):-1<=uY a b/\uY a b<=1:=by
 unfold uY;split<;>(try split)<;>omega
end Go.Fid
