/- Part 3 of a proof: rules, plain facts, and functions walked. -/
import Derived.Test.YteimogfidbkpnaaGreatM2
set_option linter.all false
namespace Go.Fid
open Go.RowKit (Below)
structure PS where
 sl:SL
 bs:BS
structure Fr where
 lo:Nat
 hi:Nat
 rd:Option Nat
structure eP where
 w0:World
 D0:qE
 w1:World
 tm:Array Value
 n:Fr
 mine:Nat→Prop
def eP.own(C:eP)(g:Nat):Prop:=C.w0.heap.size≤g∨C.mine g
structure mO (mine:Nat→Prop) (B:Nat) (w w':World):Prop where
 os:w'.os=w.os
 tape:w'.tape=w.tape
 output:w'.output=w.output
 size:w.heap.size≤w'.heap.size
 block:∀ k,k<B→¬ mine k→w'.heap[k]?=w.heap[k]?
 shape:∀ (k:Nat),k<B→∀ vs T f,w.heap[k]?=some (.cells vs T f)→∃ vs',w'.heap[k]?=some (.cells vs' T f)∧vs'.size=vs.size
theorem mO.of{mine:Nat→Prop}{B:Nat}{w w':World}(h:Below B w w'):mO mine B w w':=⟨h.os,h.tape,h.output,h.size,fun k hk _=>h.block k hk,fun k hk vs T f h1=>⟨vs,(h.block k hk).trans h1,rfl⟩⟩
theorem mO.plain{B:Nat}{w w':World}(h:mO (fun _=>False) B w w'):Below B w w':=⟨h.os,h.tape,h.output,h.size,fun k hk=>h.block k hk (fun f=>f)⟩
theorem mO.up{mine:Nat→Prop}{B:Nat}{w0 w w':World}(h:mO mine B w0 w)(hb:Below w.heap.size w w')(hB:B≤w.heap.size):mO mine B w0 w' :=
 ⟨hb.os.trans h.os,hb.tape.trans h.tape,hb.output.trans h.output,Nat.le_trans h.size hb.size,fun k hk hm=>(hb.block k (by omega)).trans (h.block k hk hm),fun k hk vs T f h1=>by
  obtain ⟨us,e1,e2⟩:=h.shape k hk vs T f h1
  exact ⟨us,(hb.block k (by omega)).trans e1,e2⟩⟩
inductive DfOk (B:Nat) (w:World):List Deferred→Prop
 |nil:DfOk B w []
 |cons {q:Nat} {ds:List Deferred} (h1:B≤q) (h2:w.heap[q]?=some (Obj.deferred (some []))) (h3:∀ d∈ds,d.target≠.collected q) (h:DfOk B w ds):DfOk B w ({ target:=.collected q,args:=#[] }::ds)
theorem DfOk.keep{B:Nat}{w w':World}{ds:List Deferred}(h:DfOk B w ds)(hk:∀ q:Nat,w.heap[q]?=some (Obj.deferred (some []))→(∃ d∈ds,d.target=.collected q)→w'.heap[q]?=some (Obj.deferred (some []))):DfOk B w' ds:=by
 induction h with
 |nil=>exact .nil
 |cons h1 h2 h3 h ih=>exact .cons h1 (hk _ h2 ⟨_,List.mem_cons_self,rfl⟩) h3 (ih fun q hq ⟨d,hd,e⟩=>hk q hq ⟨d,List.mem_cons_of_mem _ hd,e⟩)
structure Base (C:eP) (a:Act) (w:World) (D:qE):Prop where
 defers:DfOk C.w0.heap.size w a.defers
 size:a.tmps.size=C.n.hi
 keep:∀ t g o,C.D0 t g o→w.cell? ⟨g,o,none⟩=C.w1.cell? ⟨g,o,none⟩
 oth:∀ (k:Nat) (o:Obj),C.w1.heap[k]?=some o→o.isCells=false→w.heap[k]?=some o
 pin:∀ t,t<C.n.lo→a.tmps.getD t undef=C.tm.getD t undef
 below:mO C.mine C.w0.heap.size C.w0 w
 dmono:∀ t g o,C.D0 t g o→D t g o
 dnew:∀ t g o,D t g o→C.D0 t g o∨C.own g
 dok:DOk D w
theorem Base.fresh{C:eP}{a:Act}{w:World}{D:qE}(h:Base C a w D){b:Nat}(hb:w.heap.size≤b):C.own b:=.inl (Nat.le_trans h.below.size hb)
structure SimAt (C:eP) (a:Act) (w:World) (st:PS) (D:qE) (β:qD):Prop where
 base:Base C a w D
 mem:Mem w D β st.bs
 high:∀ k c,kD st.bs k=some c→∀ b,β k=some b→C.own b
 slots:∀ t,qG w D β (a.tmps.getD t undef) (jW st.sl t)
def nR(C:eP)(a:Act)(w:World)(st:PS):Prop:=∃ D β,SimAt C a w st D β
def eY(dst:Option Tmp)(x:SV)(sl:SL):SL:=match dst with
 |some d=>(d,x)::sl
 |none=>sl
def yX(n:Fr)(dst:Option Tmp):Bool:=match dst with
 |some d=>Nat.ble n.lo d&&Nat.blt d n.hi
 |none=>true
def yD(k:Nat)(st:PS):Bool :=
 (st.sl.all fun p=>!p.2.names k)&&(st.bs.all fun p=>(!(Nat.beq p.1 k))&&match p.2 with
  |some cs=>!(qM k cs)
  |none=>true)
def xD(ops:Array Oper)(sl:SL)(o:Oper):Option Bool:=match o.guard with
 |none=>some true
 |some (j,want)=>match (ops[j]?).bind (·.dst) with
  |some d=>match jW sl d with
   |.d (.val (.bool b))=>some (b == want)
   |.d (.tup [])=>some false
   |_=>none
  |none=>none
theorem vB{a:Act}{dst:Option Tmp}{v:Value}{n:Fr}{t:Nat}(hs:a.tmps.size=n.hi)(hd:yX n dst=true):(a.put dst v).tmps.getD t undef=if dst=some t then v else a.tmps.getD t undef:=by
 cases dst with
 |none=>simp [Act.put]
 |some d=>
  have hlt:d<a.tmps.size:=by
   simp only[yX,Bool.and_eq_true] at hd
   rw[hs];exact Nat.le_of_ble_eq_true hd.2
  simp only[Act.put,Array.getD_eq_getD_getElem?,Array.getElem?_setIfInBounds,Option.some.injEq]
  by_cases h:d=t
  ·subst h;simp [hlt]
  ·simp [h]
theorem put_size{a:Act}{dst:Option Tmp}{v:Value}:(a.put dst v).tmps.size=a.tmps.size:=by
 cases dst<;>simp [Act.put]
theorem put_defers{a:Act}{dst:Option Tmp}{v:Value}:(a.put dst v).defers=a.defers:=by
 cases dst<;>rfl
theorem uV(dst:Option Tmp)(x:SV)(sl:SL)(t:Tmp):jW (eY dst x sl) t=if dst=some t then x else jW sl t:=by
 cases dst with
 |none=>simp [eY]
 |some d=>simp only[eY,qO,Option.some.injEq]
theorem Base.put{C:eP}{a:Act}{w:World}{D:qE}(h:Base C a w D){dst:Option Tmp}(hd:yX C.n dst=true)(v:Value):Base C (a.put dst v) w D :=
 ⟨put_defers.symm▸h.defers,put_size.trans h.size,h.keep,h.oth,fun t ht=>by
  rw[vB h.size hd,if_neg (fun e=>by subst e;simp only[yX,Bool.and_eq_true] at hd;have:=Nat.le_of_ble_eq_true hd.1;omega)]
  exact h.pin t ht,h.below,h.dmono,h.dnew,h.dok⟩
theorem Base.up{C:eP}{a:Act}{w w':World}{D D':qE}(h:Base C a w D)(hb:Below w.heap.size w w')(hu:DUp D D' w w'):Base C a w' D' :=
 ⟨DfOk.keep h.defers (fun q hq _=>(hb.block q (uN hq)).trans hq),h.size,fun t g o hd=>(nX hb (h.dok t g o (h.dmono _ _ _ hd))).trans (h.keep t g o hd),fun k o hk ho=>(hb.block k (uN (h.oth k o hk ho))).trans (h.oth k o hk ho),h.pin,
  h.below.up hb h.below.size,fun t g o hd=>hu.up _ _ _ (h.dmono _ _ _ hd),fun t g o hd=>by
  rcases hu.new t g o hd with h1 | h1
  ·exact h.dnew t g o h1
  ·exact .inr (h.fresh h1.1),hu.ok h.dok hb.size⟩
theorem Base.wrote{C:eP}{a:Act}{w w':World}{D:qE}{b:Nat}(h:Base C a w D)(hw:Wrote b w w')(hb:C.own b)(hc:∃ vs T f,w.heap[b]?=some (.cells vs T f))(hp:∀ t o,¬ D t b o):Base C a w' D:=by
 obtain ⟨vs,T,f,hc⟩:=hc
 refine ⟨DfOk.keep h.defers (fun q hq _=>?_),h.size,fun t g o hd=>?_,fun k o hk ho=>?_,h.pin,⟨hw.os.trans h.below.os,hw.tape.trans h.below.tape,hw.output.trans h.below.output,by have:=h.below.size;have:=hw.size;omega,fun k hk hm=>(hw.block k (fun e=>by subst e;rcases hb with hb | hb;omega;exact hm hb)).trans (h.below.block k hk hm),fun k hk vs T f h1=>by
  obtain ⟨us,e1,e2⟩:=h.below.shape k hk vs T f h1
  by_cases hkb:k=b
  ·subst hkb;obtain ⟨us',g1,g2⟩:=hw.own _ _ _ e1;exact ⟨us',g1,g2.trans e2⟩
  ·exact ⟨us,(hw.block k hkb).trans e1,e2⟩⟩,h.dmono,h.dnew,fun t g o hd=>by have:=h.dok t g o hd;have:=hw.size;omega⟩
 ·have hne:q≠b:=fun e=>by subst e;rw[hc] at hq;cases hq
  exact (hw.block q hne).trans hq
 ·have hne:g≠b:=fun e=>hp t o (e▸h.dmono _ _ _ hd)
  exact (World.cell?_of_block (hw.block g hne)).trans (h.keep t g o hd)
 ·have h1:=h.oth k o hk ho
  have hne:k≠b:=fun e=>by subst e;rw[hc] at h1;injection h1 with h1;subst h1;cases ho
  exact (hw.block k hne).trans h1
theorem Base.draw{C:eP}{a:Act}{w:World}{D:qE}(h:Base C a w D):Base C a { w with drawn:=w.drawn+1 } D:=⟨h.defers.keep (fun _ hq _=>hq),h.size,h.keep,h.oth,h.pin,⟨h.below.os,h.below.tape,h.below.output,h.below.size,h.below.block,h.below.shape⟩,h.dmono,h.dnew,h.dok⟩
theorem blk_heap{w:World}{D:qE}{β:qD}{k b:Nat}{cs:List SV}(h:vA w D β k cs)(hk:β k=some b):∃ vs T f,w.heap[b]?=some (.cells vs T f):=by
 rcases h with ⟨h1,_⟩ | ⟨b',vs,T,h1,h2,_⟩
 ·rw[hk] at h1;cases h1
 ·rw[hk] at h1;injection h1 with h1;subst h1;exact ⟨vs,T,_,h2⟩
theorem below_draw(w:World):Below w.heap.size w { w with drawn:=w.drawn+1 }:=⟨rfl,rfl,rfl,Nat.le_refl _,fun _ _=>rfl⟩
theorem rep_tup0{w:World}{D:qE}{v:Value}(h:uT w D v (.tup [])):v=.tuple #[]:=by
 cases h with
 |tup vs hl hr=>rw[List.eq_nil_of_length_eq_zero hl]
theorem rep_undef(w:World)(D:qE):uT w D undef (.tup []):=uT.tup [] rfl (by simp)
theorem wanted_of{ops:Array Oper}{sl:SL}{o:Oper}{a:Act}{w:World}{D:qE}{β:qD}{bv:Bool}(hg:xD ops sl o=some bv)
  (hs:∀ j want d,o.guard=some (j,want)→(ops[j]?).bind (·.dst)=some d→qG w D β (a.tmps.getD d undef) (jW sl d)):Region.wanted o (yielded ops a.tmps)=bv:=by
 unfold xD at hg
 unfold Region.wanted
 cases h:o.guard with
 |none=>simp [h] at hg;simp [hg]
 |some p=>
  obtain ⟨j,want⟩:=p
  simp only[h] at hg
  cases hj:(ops[j]?).bind (·.dst) with
  |none=>simp [hj] at hg
  |some d=>
   have hr:=hs j want d h hj
   simp only[hj] at hg
   split at hg
   ·rename_i b hb
    rw[hb] at hr
    have hv:=rep_bool hr
    have hx:a.tmps[d]?=some (.bool b):=by
     rw[Array.getD_eq_getD_getElem?] at hv
     cases hq:a.tmps[d]? with
     |none=>simp [hq,undef] at hv
     |some u=>simp [hq] at hv;rw[hv]
    injection hg with hg
    subst hg
    simp [yielded,hj,hx]
   ·rename_i hb
    rw[hb] at hr
    have hv:a.tmps.getD d undef=.tuple #[]:=rep_tup0 hr
    injection hg with hg
    subst hg
    have hx:yielded ops a.tmps j=none:=by
     unfold yielded
     rw[hj]
     rw[Array.getD_eq_getD_getElem?] at hv
     cases hq:a.tmps[d]? with
     |none=>simp [hq]
     |some u=>simp [hq] at hv;simp [hq,hv]
    simp [hx]
   ·cases hg
inductive Step (P:Program) (n:Fr) (ops:Array Oper) (st:PS) (o:Oper):PS→Prop
 |e {rd:List (Nat × List SV)} {x:SV} (h:qX P o (jW st.sl) rd x) (hg:xD ops st.sl o=some true) (hd:yX n o.dst=true) (hrd:∀ p∈rd,kD st.bs p.1=some p.2):Step P n ops st o ⟨eY o.dst x st.sl,st.bs⟩
 |n {k:Nat} {cs:List SV} {x:SV} (h:NOk P o (jW st.sl) k cs x) (hg:xD ops st.sl o=some true) (hd:yX n o.dst=true) (hf:yD k st=true):Step P n ops st o ⟨eY o.dst x st.sl,(k,some cs)::st.bs⟩
 |t {k:Nat} {old cs:List SV} (h:TOk P o (jW st.sl) k old cs) (hg:xD ops st.sl o=some true) (hd:yX n o.dst=true) (hb:kD st.bs k=some old):Step P n ops st o ⟨eY o.dst .junk st.sl,(k,some cs)::st.bs⟩
 |skip (hg:xD ops st.sl o=some false) (hd:yX n o.dst=true):Step P n ops st o ⟨eY o.dst (.d (.tup [])) st.sl,st.bs⟩
 |sem {st':PS} (h:∀ (C:eP) (a:Act) (w:World) (Q:Exit→Act→World→Prop),C.n=n→nR C a w st→o.wp P a w (fun a' w'=>nR C a' w' st') Q) (hg:xD ops st.sl o=some true):Step P n ops st o st'
inductive Steps (P:Program) (n:Fr) (ops:Array Oper):PS→List Oper→PS→Prop
 |nil {st:PS}:Steps P n ops st [] st
 |cons {st st1 st2:PS} {o:Oper} {l:List Oper} (h:Step P n ops st o st1) (hr:Steps P n ops st1 l st2):Steps P n ops st (o::l) st2
theorem fE{k:Nat}{st:PS}(h:yD k st=true)(t:Nat):(jW st.sl t).names k=false:=by
 simp only[yD,Bool.and_eq_true,List.all_eq_true] at h
 have:∀ (l:SL),(∀ p∈l,(!p.2.names k)=true)→(jW l t).names k=false:=by
  intro l
  induction l with
  |nil=>intro _;rfl
  |cons p l ih=>
   intro hl
   obtain ⟨j,x⟩:=p
   rw[qO]
   split
   ·simpa using hl (j,x) (by simp)
   ·exact ih fun q hq=>hl q (by simp [hq])
 exact this st.sl h.1
theorem cJ{bs:BS}{k:Nat}{c:List SV}(h:kD bs k=some c):(k,some c)∈bs:=by
 induction bs with
 |nil=>simp [kD] at h
 |cons p bs ih=>
  obtain ⟨j,x⟩:=p
  rw[jK] at h
  split at h
  ·rename_i e;subst e;subst h;simp
  ·exact List.mem_cons_of_mem _ (ih h)
theorem eL{k:Nat}{st:PS}(h:yD k st=true){j:Nat}{c:List SV}(hj:kD st.bs j=some c):j≠k∧qM k c=false:=by
 simp only[yD,Bool.and_eq_true,List.all_eq_true] at h
 have:=h.2 _ (cJ hj)
 simp only[Bool.not_eq_true'] at this
 refine ⟨fP this.1,this.2⟩
theorem Mem.new{w w':World}{D D':qE}{β:qD}{bs:BS}{k b:Nat}{cs:List SV}(h:Mem w D β bs)(hb:Below w.heap.size w w')(hu:DUp D D' w w')(hD:DOk D w)(hge:w.heap.size≤b)
  (hn:∀ j c,kD bs j=some c→j≠k∧qM k c=false) (hk:vA w' D' (β.set k b) k cs):Mem w' D' (β.set k b) ((k,some cs)::bs):=by
 have hβ:∀ j,j≠k→(β.set k b) j=β j:=fun j hj=>by simp [qD.set,hj]
 have hlt:∀ j c,kD bs j=some c→∀ b',β j=some b'→b'<w.heap.size∨c=[]:=fun j c hj b' hb'=>by
  rcases h.ok j c hj with ⟨h1,_⟩ | ⟨b2,vs,T,h1,h2,_⟩
  ·rw[h1] at hb';cases hb'
  ·rw[h1] at hb';injection hb' with e;subst e;exact .inl (uN h2)
 have hlt':∀ j c,kD bs j=some c→∀ b',β j=some b'→b'<w.heap.size:=fun j c hj b' hb'=>by
  rcases h.ok j c hj with ⟨h1,_⟩ | ⟨b2,vs,T,h1,h2,_⟩
  ·rw[h1] at hb';cases hb'
  ·rw[h1] at hb';injection hb' with e;subst e;exact uN h2
 refine ⟨fun j c hj=>?_,fun j1 j2 c1 c2 h1 h2 b' e1 e2=>?_⟩
 ·rw[jK] at hj
  split at hj
  ·rename_i e;subst e;injection hj with hj;subst hj;exact hk
  ·obtain ⟨hne,hna⟩:=hn j c hj
   exact ((h.ok j c hj).up hb hu hD).frame hβ hne hna
 ·rw[jK] at h1 h2
  by_cases c1':k=j1<;>by_cases c2':k=j2
  ·omega
  ·rw[if_neg c2'] at h2
   subst c1'
   rw[hβ j2 (fun e=>c2' e.symm)] at e2
   have:=hlt' j2 _ h2 b' e2
   simp [qD.set] at e1
   omega
  ·rw[if_neg c1'] at h1
   subst c2'
   rw[hβ j1 (fun e=>c1' e.symm)] at e1
   have:=hlt' j1 _ h1 b' e1
   simp [qD.set] at e2
   omega
  ·rw[if_neg c1'] at h1
   rw[if_neg c2'] at h2
   rw[hβ j1 (fun e=>c1' e.symm)] at e1
   rw[hβ j2 (fun e=>c2' e.symm)] at e2
   exact h.inj j1 j2 _ _ h1 h2 b' e1 e2
theorem Mem.write{w w':World}{D:qE}{β:qD}{bs:BS}{k b:Nat}{old cs:List SV}(h:Mem w D β bs)(hw:Wrote b w w')(hp:∀ t o,¬ D t b o)(hkb:β k=some b)(hold:kD bs k=some old)(hk:vA w' D β k cs):Mem w' D β ((k,some cs)::bs):=by
 refine ⟨fun j c hj=>?_,fun j1 j2 c1 c2 h1 h2 b' e1 e2=>?_⟩
 ·rw[jK] at hj
  split at hj
  ·rename_i e;subst e;injection hj with hj;subst hj;exact hk
  ·rename_i hne
   exact hw.blk hp (fun e=>hne (h.inj k j _ _ hold hj b hkb e)) (h.ok j c hj)
 ·have g:∀ j c,kD ((k,some cs)::bs) j=some c→∃ c',kD bs j=some c':=fun j c hj=>by
   rw[jK] at hj
   split at hj
   ·rename_i e;subst e;exact ⟨_,hold⟩
   ·exact ⟨_,hj⟩
  obtain ⟨d1,g1⟩:=g j1 c1 h1
  obtain ⟨d2,g2⟩:=g j2 c2 h2
  exact h.inj j1 j2 d1 d2 g1 g2 b' e1 e2
section
variable {P:Program} {n:Fr} {ops:Array Oper} {C:eP}
theorem step_sound{st st':PS}{o:Oper}(h:Step P n ops st o st')(hn:C.n=n){a:Act}{w:World}(hs:nR C a w st){Q:Exit→Act→World→Prop}{K:Act→World→Prop}(hk:∀ a' w',nR C a' w' st'→K a' w') :
  if Region.wanted o (yielded ops a.tmps) then o.wp P a w K Q else K (a.put o.dst undef) w:=by
 have hsim:=hs
 obtain ⟨D,β,hs⟩:=hs
 have hop:Opnds w D β a o (jW st.sl):=fun y _=>by
  cases y with
  |tmp t=>exact hs.slots t
  |const v=>exact uT.val v
  |func f=>exact uT.val _
  |global g=>trivial
 have hwant:∀ bv,xD ops st.sl o=some bv→Region.wanted o (yielded ops a.tmps)=bv:=fun bv hg=>wanted_of hg fun j want d _ _=>hs.slots d
 subst hn
 cases h with
 |e h hg hd hrd=>
  rename_i rd x
  rw[hwant true hg,if_pos rfl]
  refine Oper.wp_mono (fun a' w' hp=>hk a' w' ?_) (h a w D β Q hop (fun p hp=>hs.mem.ok _ _ (hrd p hp)) hs.base.dok)
  obtain ⟨v,D',rfl,h1,h2,h3⟩:=hp
  refine ⟨D',β,(hs.base.up h1 h2).put hd _,hs.mem.up h1 h2 hs.base.dok,hs.high,fun t=>?_⟩
  rw[vB hs.base.size hd,uV]
  split
  ·exact h3
  ·exact (hs.slots t).up h1 h2 hs.base.dok
 |n h hg hd hf=>
  rename_i k cs x
  rw[hwant true hg,if_pos rfl]
  refine Oper.wp_mono (fun a' w' hp=>hk a' w' ?_) (h a w D β Q hop hs.base.dok)
  obtain ⟨v,D',b,rfl,h1,h2,h3,h4,h5,h6,h7⟩:=hp
  have hβ:∀ j,j≠k→(β.set k b) j=β j:=fun j hj=>by simp [qD.set,hj]
  refine ⟨D',β.set k b,(hs.base.up h1 h2).put hd _,hs.mem.new h1 h2 hs.base.dok h3 (fun j c hj=>eL hf hj) h6,fun j c hj b' hb'=>?_,fun t=>?_⟩
  ·rw[jK] at hj
   split at hj
   ·rename_i e;subst e
    simp [qD.set] at hb'
    subst hb'
    exact hs.base.fresh h3
   ·rename_i hne
    rw[hβ j (fun e=>hne e.symm)] at hb'
    exact hs.high j c hj b' hb'
  ·rw[vB hs.base.size hd,uV]
   split
   ·exact h7
   ·exact ((hs.slots t).up h1 h2 hs.base.dok).frame hβ (fE hf t)
 |t h hg hd hb=>
  rename_i k old cs
  rw[hwant true hg,if_pos rfl]
  refine Oper.wp_mono (fun a' w' hp=>hk a' w' ?_) (h a w D β Q hop (hs.mem.ok _ _ hb) hs.base.dok)
  obtain ⟨rfl,b,h1,h2,h3,h4⟩:=hp
  refine ⟨D,β,(hs.base.wrote h2 (hs.high k _ hb b h1) (blk_heap (hs.mem.ok _ _ hb) h1) h3).put hd _,hs.mem.write h2 h3 h1 hb h4,fun j c hj b' hb'=>?_,fun t=>?_⟩
  ·rw[jK] at hj
   split at hj
   ·rename_i e;subst e;exact hs.high k _ hb b' hb'
   ·exact hs.high j c hj b' hb'
  ·rw[vB hs.base.size hd,uV]
   split
   ·trivial
   ·exact h2.repS h3 (hs.slots t)
 |skip hg hd=>
  rw[hwant false hg]
  refine hk _ _ ⟨D,β,hs.base.put hd _,hs.mem,hs.high,fun t=>?_⟩
  rw[vB hs.base.size hd,uV]
  split
  ·exact rep_undef _ _
  ·exact hs.slots t
 |sem h hg=>
  rw[hwant true hg,if_pos rfl]
  exact Oper.wp_mono (fun a' w' hp=>hk a' w' hp) (h C a w Q rfl hsim)
def fen(n:Fr):Fence:={ Fence.wide with round:=n.rd }
def xP(o:Oper):Bool:=match o.op with
 |.defer _=>false
 |_=>true
theorem fQ{N:Nat}{o:Oper}{a:Act}{w:World}{K:Act→World→Prop}{Q:Exit→Act→World→Prop}(hp:xP o=true)(h:o.wp P a w K Q):o.wpIn (fen n) N P a w K Q:=by
 have hne:∀ c,o.op≠.defer c:=fun c e=>by simp [xP,e] at hp
 refine ⟨fun _ _=>trivial,?_⟩
 rw[Oper.semAt_eq _ _ _ hne]
 unfold Oper.wp at h
 generalize (execOp a.eval o).run P w=r at h
 cases r with
 |ok x w'=>
  cases x<;>simp only[Oper.upon] at h
  case value v=>exact h
  case skip=>exact h
  case defer d=>exact h
  case enter f args=>exact ⟨fun e=>by simp [fen,Fence.wide] at e,callsIn_wide.2 h⟩
  case row row args=>
   refine ⟨fun e=>by simp [fen,Fence.wide] at e,fun c cs _=>?_⟩
   obtain ⟨v,w'',h1,h2⟩:=h c cs
   exact ⟨v,w'',h1,stepsIn_wide.2 h2⟩
 |halt x w'=>cases x<;>simp only[Oper.upon] at h;exact h
theorem dI{st st':PS}{l:List Oper}(h:Steps P n ops st l st')(hp:l.all xP=true)(hn:C.n=n){N:Nat}{Q:Exit→Act→World→Prop}(hk:∀ a' w',nR C a' w' st'→Q .normal a' w'):∀ {a:Act} {w:World},nR C a w st→wpListIn (fen n) N P ops Q l a w:=by
 induction h with
 |nil=>intro a w hs;exact wpListIn_nil (hk a w hs)
 |cons h hr ih=>
  intro a w hs
  simp only[List.all_cons,Bool.and_eq_true] at hp
  refine wpListIn_step fun K hK=>?_
  have h1:=step_sound h hn hs (Q:=Q) fun a' w' hs'=>hK a' w' (ih hp.2 hk hs')
  split
  ·rename_i e;rw[if_pos e] at h1;exact fQ hp.1 h1
  ·rename_i e;rw[if_neg e] at h1;exact ⟨fun _ _=>trivial,h1⟩
end
def clear1(news:List Nat)(x:SV):Bool:=news.all fun k=>!(x.names k)
def clearL(news:List Nat)(cs:List SV):Bool:=news.all fun k=>!(qM k cs)
def tmpOf:Operand→List Tmp
 |.tmp t=>[t]
 |_=>[]
def hH(ops:Array Oper)(o:Oper):List Tmp :=
 (o.op.operands.toList.flatMap tmpOf)++match o.guard with
  |some (j,_)=>((ops[j]?).bind (·.dst)).toList
  |none=>[]
def clearR(ops:Array Oper)(S:SL)(o:Oper)(news:List Nat)(x:SV):Bool:=news.all fun k=>!(x.names k)||(hH ops o).any fun d=>(jW S d).names k
def clearLR(ops:Array Oper)(S:SL)(o:Oper)(news:List Nat)(cs:List SV):Bool:=news.all fun k=>!(qM k cs)||(hH ops o).any fun d=>(jW S d).names k
def fO(β:qD)(B:BS)(b:Nat):Prop:=∃ k c,kD B k=some c∧β k=some b
structure SEff (w:World) (D:qE) (β:qD) (old new:BS) (mv:List Nat) (v:Value) (x:SV) (w':World) (D':qE) (β':qD):Prop where
 below:mO (fO β old) w.heap.size w w'
 keep:∀ t g o,D t g o→w'.cell? ⟨g,o,none⟩=w.cell? ⟨g,o,none⟩
 oth:∀ (k:Nat) (o:Obj),w.heap[k]?=some o→o.isCells=false→w'.heap[k]?=some o
 up:∀ t g o,D t g o→D' t g o
 dnew:∀ t g o,D' t g o→D t g o∨w.heap.size≤g∨fO β old g
 dok:DOk D' w'
 mem:Mem w' D' β' new
 high:∀ k c,kD new k=some c→∀ b,β' k=some b→w.heap.size≤b∨fO β old b
 stay:∀ k,k∉mv→β' k=β k
 res:qG w' D' β' v x
def SOk(P:Program)(o:Oper)(S:Nat→SV)(old new:BS)(mv:List Nat)(x:SV):Prop :=
 ∀ (a:Act) (w:World) (D:qE) (β:qD) (Q:Exit→Act→World→Prop),Opnds w D β a o S→Mem w D β old→DOk D w→o.wp P a w (fun a' w'=>∃ v D' β',a'=a.put o.dst v∧SEff w D β old new mv v x w' D' β') Q
def clrM(ks:List Nat)(k:Nat)(st:PS):Prop:=(∀ p∈st.sl,p.2.names k=false)∧∀ p∈st.bs,p.1∈ks∨∀ c,p.2=some c→qM k c=false
theorem mp_cells{ob:Obj}(h:Obj.isMp ob=true):ob.isCells=false:=by cases ob<;>first | rfl | cases h
theorem SEff.repS{w w':World}{D D':qE}{β β':qD}{old new:BS}{mv:List Nat}{v:Value}{x:SV}(h:SEff w D β old new mv v x w' D' β'){u:Value}{y:SV}(hn:∀ k∈mv,y.names k=false)(hu:qG w D β u y):qG w' D' β' u y:=by
 have hnm:∀ k,y.names k=true→β' k=β k:=fun k hk=>h.stay k fun hm=>by rw[hn k hm] at hk;cases hk
 have hmono:∀ {v:Value} {d:jQ},uT w D v d→uT w' D' v d:=fun hr=>uT.mono (fun t g o hd=>⟨h.up _ _ _ hd,h.keep t g o hd⟩) hr
 have hown:∀ {k t s n:Nat} {v:Value},β' k=β k→((β k=none∧n=0∧v=.slice none 0 0)∨∃ b cap vs,β k=some b∧v=.slice (some ⟨b,0,none⟩) n cap∧w.heap[b]?=some (.cells vs t (0,0))∧vs.size=cap*s∧n≤cap∧cap≤maxLen) →
   (β' k=none∧n=0∧v=.slice none 0 0)∨∃ b cap vs,β' k=some b∧v=.slice (some ⟨b,0,none⟩) n cap∧w'.heap[b]?=some (.cells vs t (0,0))∧vs.size=cap*s∧n≤cap∧cap≤maxLen:=fun e hu=>by
  rcases hu with ⟨h1,h2⟩ | ⟨b,cap,us,h1,h2,h3,h4,h5⟩
  ·exact .inl ⟨e.trans h1,h2⟩
  ·obtain ⟨us',g1,g2⟩:=h.below.shape b (uN h3) us _ _ h3
   exact .inr ⟨b,cap,us',e.trans h1,h2,g1,g2.trans h4,h5⟩
 cases y with
 |d x=>exact hmono hu
 |ref k o=>obtain ⟨b,h1,h2⟩:=hu;exact ⟨b,(hnm k (by simp [SV.names])).trans h1,h2⟩
 |view k o n=>obtain ⟨b,cap,h1,h2⟩:=hu;exact ⟨b,cap,(hnm k (by simp [SV.names])).trans h1,h2⟩
 |clo f' l=>
  obtain ⟨us,h1,h2,h3⟩:=hu
  refine ⟨us,h1,h2,fun i k hk=>?_⟩
  obtain ⟨b,h4,h5⟩:=h3 i k hk
  exact ⟨b,(hnm k (List.any_eq_true.2 ⟨k,List.mem_of_getElem? hk,by simp⟩)).trans h4,h5⟩
 |own k t s n=>exact hown (hnm k (by simp [SV.names])) hu
 |emp=>exact hu
 |hob u b ob=>exact ⟨hu.1,h.oth _ _ hu.2.1 (mp_cells hu.2.2),hu.2.2⟩
 |refx k o b=>exact ⟨(hnm k (by simp [SV.names])).trans hu.1,hu.2⟩
 |bnd f k o=>obtain ⟨b,h1,h2⟩:=hu;exact ⟨b,(hnm k (by simp [SV.names])).trans h1,h2⟩
 |ownx k t s n u=>exact ⟨hu.1,hown (hnm k (by simp [SV.names])) hu.2⟩
 |pr k t s n x=>
  obtain ⟨v1,v2,e,hu,hu2⟩:=hu
  exact ⟨v1,v2,e,hown (hnm k (by simp [SV.names])) hu,hmono hu2⟩
 |junk=>trivial
theorem SEff.blk{w w':World}{D D':qE}{β β':qD}{old new:BS}{mv:List Nat}{v:Value}{x:SV}(h:SEff w D β old new mv v x w' D' β'){k:Nat}{c:List SV}(hk:k∉mv)(hb:∀ b,β k=some b→¬ fO β old b)(hn:∀ q∈mv,qM q c=false)(hu:vA w D β k c):vA w' D' β' k c:=by
 rcases hu with ⟨g1,g2⟩ | ⟨b,us,T,g1,g2,g3,g4,g5⟩
 ·exact .inl ⟨(h.stay k hk).trans g1,g2⟩
 ·have hlt:=uN g2
  refine .inr ⟨b,us,T,(h.stay k hk).trans g1,(h.below.block b hlt (hb b g1)).trans g2,g3,fun i x hx=>?_,fun t o hdd=>?_⟩
  ·obtain ⟨u,e1,e2,e3⟩:=g4 i x hx
   refine ⟨u,e1,e2,h.repS (fun q hq=>?_) e3⟩
   have:=hn q hq
   simp only[qM,List.any_eq_false] at this
   simpa using this x (List.mem_of_getElem? hx)
  ·rcases h.dnew t b o hdd with h1 | h1 | h1
   ·exact g5 t o h1
   ·omega
   ·exact hb b g1 h1
theorem bget_keyed{X Z:BS}{j:Nat}(h:j∈X.map (·.1)):kD (X++Z) j=kD X j:=by
 induction X with
 |nil=>simp at h
 |cons p X ih=>
  obtain ⟨k,x⟩:=p
  rw[List.cons_append,jK,jK]
  split
  ·rfl
  ·rename_i hne
   refine ih ?_
   rw[List.map_cons,List.mem_cons] at h
   rcases h with h | h
   ·exact absurd h.symm hne
   ·exact h
theorem bget_other{X Z:BS}{j:Nat}(h:j∉X.map (·.1)):kD (X++Z) j=kD Z j:=by
 induction X with
 |nil=>rfl
 |cons p X ih=>
  obtain ⟨k,x⟩:=p
  rw[List.map_cons,List.mem_cons,not_or] at h
  rw[List.cons_append,jK,if_neg (fun e=>h.1 e.symm)]
  exact ih h.2
theorem bget_fst{X:BS}{j:Nat}(h:j∈X.map (·.1)):(j,kD X j)∈X:=by
 induction X with
 |nil=>simp at h
 |cons p X ih=>
  obtain ⟨k,x⟩:=p
  rw[jK]
  split
  ·rename_i e;subst e;exact .head _
  ·rename_i hne
   rw[List.map_cons,List.mem_cons] at h
   rcases h with h | h
   ·exact absurd h.symm hne
   ·exact .tail _ (ih h)
theorem bget_in{X:BS}{j:Nat}{c:List SV}(h:kD X j=some c):j∈X.map (·.1)∧(j,some c)∈X:=⟨List.mem_map.2 ⟨_,cJ h,rfl⟩,cJ h⟩
inductive gY (P:Program) (n:Fr) (ops:Array Oper) (news:List Nat) (st:PS) (o:Oper):List Nat→List Nat→List Nat→PS→Prop
 |e {rd:List (Nat × List SV)} {x:SV} (h:qX P o (jW st.sl) rd x) (hg:xD ops st.sl o=some true) (hd:yX n o.dst=true) (hrd:∀ p∈rd,kD st.bs p.1=some p.2) (hn:clearR ops st.sl o news x=true) :
   gY P n ops news st o news (rd.map (·.1)) [] ⟨eY o.dst x st.sl,st.bs⟩
 |n {k:Nat} {cs:List SV} {x:SV} (h:NOk P o (jW st.sl) k cs x) (hg:xD ops st.sl o=some true) (hd:yX n o.dst=true) (hf:yD k st=true) (hn:clear1 news x=true) (hc:clearL news cs=true) :
   gY P n ops news st o (k::news) [] [k] ⟨eY o.dst x st.sl,(k,some cs)::st.bs⟩
 |t {k:Nat} {old cs:List SV} (h:TOk P o (jW st.sl) k old cs) (hg:xD ops st.sl o=some true) (hd:yX n o.dst=true) (hb:kD st.bs k=some old) (hc:clearLR ops st.sl o news cs=true) :
   gY P n ops news st o news [k] [k] ⟨eY o.dst .junk st.sl,(k,some cs)::st.bs⟩
 |skip (hg:xD ops st.sl o=some false) (hd:yX n o.dst=true):gY P n ops news st o news [] [] ⟨eY o.dst (.d (.tup [])) st.sl,st.bs⟩
 |a {k k':Nat} {old cs:List SV} {x:SV} (h:AOk P o (jW st.sl) k k' old cs x) (hg:xD ops st.sl o=some true) (hd:yX n o.dst=true) (hb:kD st.bs k=some old) (hf:yD k' st=true) (hne:k≠k') (hn:clear1 news x=true) (hc:clearL news cs=true) :
   gY P n ops news st o (k'::news) [k] [k',k] ⟨eY o.dst x st.sl,(k',some cs)::(k,none)::st.bs⟩
 |s {old new:BS} {mv wk:List Nat} {x:SV} (h:SOk P o (jW st.sl) old new mv x) (hg:xD ops st.sl o=some true) (hd:yX n o.dst=true) (hb:∀ p∈old,∃ c,p.2=some c∧kD st.bs p.1=some c) (hks:new.map (·.1)=old.map (·.1))
   (hwk:∀ k∈wk,k∈old.map (·.1)) (hst:∀ k∈old.map (·.1),k∉wk→kD new k=kD old k) (hm:∀ k∈mv,k∈wk∧clrM wk k st) (hn:∀ k,k∈mv∨k∈news→x.names k=false) (hc:∀ p∈new,∀ c,p.2=some c→∀ k∈news,qM k c=true→k∈mv) :
   gY P n ops news st o (mv++news) (old.map (·.1)) wk ⟨eY o.dst x st.sl,new++st.bs⟩
inductive DSteps (P:Program) (n:Fr) (ops:Array Oper):List Nat→PS→List Oper→List (List Nat × List Nat)→PS→Prop
 |nil {news:List Nat} {st:PS}:DSteps P n ops news st [] [] st
 |cons {news dL r w:List Nat} {st st1 st2:PS} {o:Oper} {l:List Oper} {acc:List (List Nat × List Nat)} (h:gY P n ops news st o dL r w st1) (hr:DSteps P n ops dL st1 l acc st2):DSteps P n ops news st (o::l) ((r,w)::acc) st2
def directB(ops:Array Oper)(j i:Nat):Bool:=match ops[j]? with
 |some o=>o.after.any fun e=>Region.binds .any e&&Nat.beq e.on i
 |none=>false
def ancB(ops:Array Oper):Nat→Nat→Nat→Bool
 |0,_,_=>false
 |f+1,j,i=>directB ops j i||match ops[j]? with
  |some o=>o.after.any fun e=>Region.binds .any e&&ancB ops f e.on i
  |none=>false
def memB(l:List Nat)(k:Nat):Bool:=l.any (Nat.beq k)
def dstIn(o:Oper)(l:List Tmp):Bool:=match o.dst with
 |some d=>memB l d
 |none=>false
def meetB(a b:List Nat):Bool:=a.any (memB b)
def needB(ops:Array Oper)(acc:List (List Nat × List Nat))(i j:Nat):Bool :=
 match ops[i]?,ops[j]?,acc[i]?,acc[j]? with
 |some oi,some oj,some (ri,wi),some (rj,wj)=>dstIn oi (hH ops oj)||dstIn oj (hH ops oi)||dstIn oi oj.dst.toList||meetB wi rj||meetB wi wj||meetB wj ri
 |_,_,_,_=>true
def allPairs(m:Nat)(p:Nat→Nat→Bool):Bool:=(List.range m).all fun j=>(List.range j).all fun i=>p i j
def orderB(ops:Array Oper)(acc:List (List Nat × List Nat)):Bool :=
 Nat.beq acc.length ops.size&&allPairs ops.size fun i j=>!(needB ops acc i j)||ancB ops ops.size j i
theorem memB_iff{l:List Nat}{k:Nat}:memB l k=true↔k∈l:=by
 simp only[memB,List.any_eq_true]
 constructor
 ·rintro ⟨x,hx,h⟩
  have:=Nat.eq_of_beq_eq_true h
  subst this;exact hx
 ·intro h;exact ⟨k,h,by simp⟩
theorem meetB_of{a b:List Nat}{k:Nat}(h1:k∈a)(h2:k∈b):meetB a b=true:=by
 simp only[meetB,List.any_eq_true]
 exact ⟨k,h1,memB_iff.2 h2⟩
section
variable {P:Program} {n:Fr} {ops:Array Oper}
structure Line (P:Program) (n:Fr) (ops:Array Oper) (f:Nat→PS) (g r w:Nat→List Nat):Prop where
 step:∀ (i:Nat) o,ops[i]?=some o→gY P n ops (g i) (f i) o (g (i+1)) (r i) (w i) (f (i+1))
theorem line_of:∀ {l:List Oper} {news:List Nat} {st st':PS} {acc:List (List Nat × List Nat)},DSteps P n ops news st l acc st' →
  ∃ (f:Nat→PS) (g:Nat→List Nat),f 0=st∧f l.length=st'∧g 0=news∧acc.length=l.length∧∀ (i:Nat) o,l[i]?=some o→∃ r w,acc[i]?=some (r,w)∧gY P n ops (g i) (f i) o (g (i+1)) r w (f (i+1)):=by
 intro l
 induction l with
 |nil=>
  intro news st st' acc h
  cases h
  exact ⟨fun _=>st,fun _=>news,rfl,rfl,rfl,rfl,by simp⟩
 |cons o l ih=>
  intro news st st' acc h
  cases h with
  |cons h hr=>
   rename_i dL r w st1 acc
   obtain ⟨f,g,h1,h2,h3,h4,h5⟩:=ih hr
   refine ⟨fun i=>match i with | 0=>st | i+1=>f i,fun i=>match i with | 0=>news | i+1=>g i,rfl,h2,rfl,by simp [h4],fun i o' ho=>?_⟩
   cases i with
   |zero=>
    simp at ho
    subst ho
    exact ⟨r,w,rfl,by simpa [h1,h3] using h⟩
   |succ i=>exact h5 i o' (by simpa using ho)
end
def L(listed:Array Bool)(i:Nat):Prop:=listed.getD i false=true
def Closed(ops:Array Oper)(listed:Array Bool):Prop:=∀ (j:Nat) o,ops[j]?=some o→L listed j→∀ e∈o.after,Region.binds .any e=true→L listed e.on
theorem direct_listed{ops:Array Oper}{listed:Array Bool}{j i:Nat}(hd:directB ops j i=true)(hc:∀ o,ops[j]?=some o→∀ e∈o.after,Region.binds .any e=true→L listed e.on):L listed i:=by
 unfold directB at hd
 split at hd
 ·rename_i o ho
  rw[← Array.any_toList,List.any_eq_true] at hd
  obtain ⟨e,he,h⟩:=hd
  simp only[Bool.and_eq_true] at h
  have:=Nat.eq_of_beq_eq_true h.2
  subst this
  exact hc o ho e (Array.mem_toList_iff.1 he) h.1
 ·cases hd
theorem cC{ops:Array Oper}{listed:Array Bool}(hcl:Closed ops listed):∀ (f j i:Nat),ancB ops f j i=true→(∀ o,ops[j]?=some o→∀ e∈o.after,Region.binds .any e=true→L listed e.on)→L listed i
 |0,j,i,h,_=>by simp [ancB] at h
 |f+1,j,i,h,hc=>by
  simp only[ancB,Bool.or_eq_true] at h
  rcases h with h | h
  ·exact direct_listed h hc
  ·split at h
   ·rename_i o ho
    rw[← Array.any_toList,List.any_eq_true] at h
    obtain ⟨e,he,h⟩:=h
    simp only[Bool.and_eq_true] at h
    have hl:=hc o ho e (Array.mem_toList_iff.1 he) h.1
    exact cC hcl f e.on i h.2 fun o' ho'=>hcl e.on o' ho' hl
   ·cases h
def gP(ops:Array Oper)(i:Nat):Option Tmp:=(ops[i]?).bind (·.dst)
def CurS(ops:Array Oper)(f:Nat→PS)(A:Nat→Prop)(t:Tmp)(x:SV):Prop :=
 (∃ i,i<ops.size∧A i∧gP ops i=some t∧(∀ j,i<j→j<ops.size→A j→gP ops j≠some t)∧x=jW (f (i+1)).sl t) ∨
 ((∀ i,i<ops.size→A i→gP ops i≠some t)∧x=jW (f 0).sl t)
def gC(ops:Array Oper)(f:Nat→PS)(w:Nat→List Nat)(A:Nat→Prop)(k:Nat)(c:Option (List SV)):Prop :=
 (∃ i,i<ops.size∧A i∧k∈w i∧(∀ j,i<j→j<ops.size→A j→k∉w j)∧c=kD (f (i+1)).bs k) ∨
 ((∀ i,i<ops.size→A i→k∉w i)∧c=kD (f 0).bs k)
section
variable {P:Program} {n:Fr} {ops:Array Oper} {f:Nat→PS} {g r w:Nat→List Nat}
theorem dstep_slot{news dL rr ww:List Nat}{st st':PS}{o:Oper}(h:gY P n ops news st o dL rr ww st'){t:Tmp}(ht:o.dst≠some t):jW st'.sl t=jW st.sl t:=by
 cases h<;>simp only[uV,ht,if_false]
theorem dstep_blk{news dL rr ww:List Nat}{st st':PS}{o:Oper}(h:gY P n ops news st o dL rr ww st'){k:Nat}(hk:k∉ww):kD st'.bs k=kD st.bs k:=by
 cases h with
 |e=>rfl
 |n=>simp at hk;simp only[jK];rw[if_neg (fun e=>hk e.symm)]
 |t=>simp at hk;simp only[jK];rw[if_neg (fun e=>hk e.symm)]
 |skip=>rfl
 |a=>simp at hk;simp only[jK];rw[if_neg (fun e=>hk.1 e.symm),if_neg (fun e=>hk.2 e.symm)]
 |s _ _ _ hb hks _ hst=>
  rename_i old new mv x _ _ _ _ _ _ _
  by_cases hj:k∈old.map (·.1)
  ·obtain ⟨c,e1,e2⟩:=hb _ (bget_fst hj)
   show kD (new++st.bs) k=kD st.bs k
   rw[bget_keyed (by rw[hks];exact hj),hst k hj hk,e2]
   exact e1
  ·exact bget_other (by rw[hks];exact hj)
theorem curS_text(hf:Line P n ops f g r w)(A:Nat→Prop)(t:Tmp):∀ i,i≤ops.size→(∀ j,j<i→gP ops j=some t→A j)→(∀ j,i≤j→j<ops.size→A j→gP ops j≠some t)→CurS ops f A t (jW (f i).sl t)
 |0,_,_,h2=>.inr ⟨fun i hi ha=>h2 i (Nat.zero_le _) hi ha,rfl⟩
 |i+1,hi,h1,h2=>by
  have hlt:i<ops.size:=by omega
  have ho:ops[i]?=some ops[i]:=Array.getElem?_eq_getElem hlt
  by_cases hd:gP ops i=some t
  ·exact .inl ⟨i,hlt,h1 i (by omega) hd,hd,fun j hj hj2 ha=>h2 j (by omega) hj2 ha,rfl⟩
  ·have hst:=hf.step i _ ho
   have hdo:(ops[i]).dst≠some t:=fun e=>hd (by simp [gP,ho,e])
   rw[dstep_slot hst hdo]
   refine curS_text hf A t i (by omega) (fun j hj=>h1 j (by omega)) (fun j hj hj2 ha=>?_)
   rcases Nat.lt_or_ge i j with h | h
   ·exact h2 j (by omega) hj2 ha
   ·obtain rfl:j=i:=by omega
    exact hd
theorem curB_text(hf:Line P n ops f g r w)(A:Nat→Prop)(k:Nat):∀ i,i≤ops.size→(∀ j,j<i→k∈w j→A j)→(∀ j,i≤j→j<ops.size→A j→k∉w j)→gC ops f w A k (kD (f i).bs k)
 |0,_,_,h2=>.inr ⟨fun i hi ha=>h2 i (Nat.zero_le _) hi ha,rfl⟩
 |i+1,hi,h1,h2=>by
  have hlt:i<ops.size:=by omega
  have ho:ops[i]?=some ops[i]:=Array.getElem?_eq_getElem hlt
  by_cases hd:k∈w i
  ·exact .inl ⟨i,hlt,h1 i (by omega) hd,hd,fun j hj hj2 ha=>h2 j (by omega) hj2 ha,rfl⟩
  ·have hst:=hf.step i _ ho
   rw[dstep_blk hst hd]
   refine curB_text hf A k i (by omega) (fun j hj=>h1 j (by omega)) (fun j hj hj2 ha=>?_)
   rcases Nat.lt_or_ge i j with h | h
   ·exact h2 j (by omega) hj2 ha
   ·obtain rfl:j=i:=by omega
    exact hd
theorem curB_uniq{A:Nat→Prop}{k:Nat}{c c':Option (List SV)}(h:gC ops f w A k c)(h':gC ops f w A k c'):c=c':=by
 rcases h with ⟨i,h1,h2,h3,h4,rfl⟩ | ⟨h1,rfl⟩
 ·rcases h' with ⟨j,g1,g2,g3,g4,rfl⟩ | ⟨g1,rfl⟩
  ·rcases Nat.lt_trichotomy i j with h | h | h
   ·exact absurd g3 (h4 j h g1 g2)
   ·subst h;rfl
   ·exact absurd h3 (g4 i h h1 h2)
  ·exact absurd h3 (g1 i h1 h2)
 ·rcases h' with ⟨j,g1,g2,g3,g4,rfl⟩ | ⟨g1,rfl⟩
  ·exact absurd g3 (h1 j g1 g2)
  ·rfl
theorem curS_old{A A':Nat→Prop}{i:Nat}(hA:∀ j,A' j↔(A j∨j=i)){t:Tmp}{x:SV}(ht:gP ops i≠some t)(h:CurS ops f A' t x):CurS ops f A t x:=by
 rcases h with ⟨j,h1,h2,h3,h4,h5⟩ | ⟨h1,h2⟩
 ·refine .inl ⟨j,h1,?_,h3,fun j' a b c=>h4 j' a b ((hA j').2 (.inl c)),h5⟩
  rcases (hA j).1 h2 with h | h
  ·exact h
  ·subst h;exact absurd h3 ht
 ·exact .inr ⟨fun j a b=>h1 j a ((hA j).2 (.inl b)),h2⟩
theorem curS_new{A A':Nat→Prop}{i:Nat}(hi:i<ops.size)(hA:∀ j,A' j↔(A j∨j=i)){t:Tmp}{x:SV}(ht:gP ops i=some t)(hlate:∀ j,i<j→j<ops.size→A j→gP ops j≠some t)(h:CurS ops f A' t x):x=jW (f (i+1)).sl t:=by
 rcases h with ⟨j,h1,h2,h3,h4,h5⟩ | ⟨h1,h2⟩
 ·rcases Nat.lt_trichotomy j i with h | h | h
  ·exact absurd ht (h4 i h hi ((hA i).2 (.inr rfl)))
  ·subst h;exact h5
  ·rcases (hA j).1 h2 with h' | h'
   ·exact absurd h3 (hlate j h h1 h')
   ·omega
 ·exact absurd ht (h1 i hi ((hA i).2 (.inr rfl)))
theorem curB_old{A A':Nat→Prop}{i:Nat}(hA:∀ j,A' j↔(A j∨j=i)){k:Nat}{c:Option (List SV)}(ht:k∉w i)(h:gC ops f w A' k c):gC ops f w A k c:=by
 rcases h with ⟨j,h1,h2,h3,h4,h5⟩ | ⟨h1,h2⟩
 ·refine .inl ⟨j,h1,?_,h3,fun j' a b c=>h4 j' a b ((hA j').2 (.inl c)),h5⟩
  rcases (hA j).1 h2 with h | h
  ·exact h
  ·subst h;exact absurd h3 ht
 ·exact .inr ⟨fun j a b=>h1 j a ((hA j).2 (.inl b)),h2⟩
theorem curB_new{A A':Nat→Prop}{i:Nat}(hi:i<ops.size)(hA:∀ j,A' j↔(A j∨j=i)){k:Nat}{c:Option (List SV)}(ht:k∈w i)(hlate:∀ j,i<j→j<ops.size→A j→k∉w j)(h:gC ops f w A' k c):c=kD (f (i+1)).bs k:=by
 rcases h with ⟨j,h1,h2,h3,h4,h5⟩ | ⟨h1,h2⟩
 ·rcases Nat.lt_trichotomy j i with h | h | h
  ·exact absurd ht (h4 i h hi ((hA i).2 (.inr rfl)))
  ·subst h;exact h5
  ·rcases (hA j).1 h2 with h' | h'
   ·exact absurd h3 (hlate j h h1 h')
   ·omega
 ·exact absurd ht (h1 i hi ((hA i).2 (.inr rfl)))
theorem dstep_news{news dL rr ww:List Nat}{st st':PS}{o:Oper}(h:gY P n ops news st o dL rr ww st'):∀ k∈news,k∈dL:=by
 intro k hk
 cases h with
 |e=>exact hk
 |n=>exact List.mem_cons_of_mem _ hk
 |t=>exact hk
 |skip=>exact hk
 |a=>exact List.mem_cons_of_mem _ hk
 |s=>exact List.mem_append_right _ hk
theorem curS_from{A:Nat→Prop}{t:Tmp}{x:SV}(h:CurS ops f A t x):x=jW (f 0).sl t∨∃ i,i<ops.size∧A i∧gP ops i=some t∧x=jW (f (i+1)).sl t:=by
 rcases h with ⟨i,h1,h2,h3,_,h5⟩ | ⟨_,h2⟩
 ·exact .inr ⟨i,h1,h2,h3,h5⟩
 ·exact .inl h2
theorem news_mono(hf:Line P n ops f g r w):∀ {i j:Nat},i≤j→j≤ops.size→∀ k∈g i,k∈g j:=by
 intro i j hij
 induction j with
 |zero=>intro _ k hk;obtain rfl:i=0:=(by omega);exact hk
 |succ j ih=>
  intro hj k hk
  rcases Nat.lt_or_ge i (j+1) with h | h
  ·have h1:=ih (by omega) (by omega) k hk
   exact dstep_news (hf.step j _ (Array.getElem?_eq_getElem (show j<ops.size by omega))) k h1
  ·obtain rfl:i=j+1:=(by omega)
   exact hk
theorem sl_suffix(hf:Line P n ops f g r w){j:Nat}:∀ {i:Nat},j≤i→i≤ops.size→∃ l,(f i).sl=l++(f j).sl:=by
 intro i
 induction i with
 |zero=>intro h _;obtain rfl:j=0:=(by omega);exact ⟨[],rfl⟩
 |succ i ih=>
  intro hj hi
  rcases Nat.lt_or_ge j (i+1) with h | h
  ·obtain ⟨l,hl⟩:=ih (by omega) (by omega)
   have hp:∀ (dst:Option Tmp) (x:SV),∃ l',eY dst x (f i).sl=l'++(f j).sl:=fun dst x=>by
    cases dst with
    |none=>exact ⟨l,hl⟩
    |some d=>exact ⟨(d,x)::l,by simp [eY,hl]⟩
   have hst:=hf.step i _ (Array.getElem?_eq_getElem (show i<ops.size by omega))
   generalize f (i+1)=st' at hst ⊢
   generalize r i=rr at hst
   generalize w i=ww at hst
   generalize g (i+1)=gg at hst
   cases hst<;>exact hp _ _
  ·obtain rfl:j=i+1:=(by omega)
   exact ⟨[],rfl⟩
theorem bs_suffix(hf:Line P n ops f g r w){j:Nat}:∀ {i:Nat},j≤i→i≤ops.size→∃ l,(f i).bs=l++(f j).bs:=by
 intro i
 induction i with
 |zero=>intro h _;obtain rfl:j=0:=(by omega);exact ⟨[],rfl⟩
 |succ i ih=>
  intro hj hi
  rcases Nat.lt_or_ge j (i+1) with h | h
  ·obtain ⟨l,hl⟩:=ih (by omega) (by omega)
   have hst:=hf.step i _ (Array.getElem?_eq_getElem (show i<ops.size by omega))
   generalize f (i+1)=st' at hst ⊢
   generalize r i=rr at hst
   generalize w i=ww at hst
   generalize g (i+1)=gg at hst
   cases hst with
   |e=>exact ⟨l,hl⟩
   |n=>rename_i k cs x _ _ _ _ _ _;exact ⟨(k,some cs)::l,by simp [hl]⟩
   |t=>rename_i k old cs _ _ _ _ _;exact ⟨(k,some cs)::l,by simp [hl]⟩
   |skip=>exact ⟨l,hl⟩
   |a=>rename_i k k' old cs x _ _ _ _ _ _ _ _;exact ⟨(k',some cs)::(k,none)::l,by simp [hl]⟩
   |s=>rename_i old new mv x _ _ _ _ _ _ _ _ _ _;exact ⟨new++l,by simp [hl]⟩
  ·obtain rfl:j=i+1:=(by omega)
   exact ⟨[],rfl⟩
theorem fresh_sl{k:Nat}{st:PS}(h:yD k st=true){l r:SL}(hl:st.sl=l++r)(t:Tmp):(jW r t).names k=false:=by
 have h':yD k ⟨r,[]⟩=true:=by
  simp only[yD,Bool.and_eq_true,List.all_eq_true,List.all_nil,and_true] at h ⊢
  exact fun p hp=>h.1 p (by rw[hl];exact List.mem_append_right _ hp)
 exact fE h' t
theorem fresh_bs{k:Nat}{st:PS}(h:yD k st=true){l r:BS}(hl:st.bs=l++r){j:Nat}{c:List SV}(hj:kD r j=some c):j≠k∧qM k c=false:=by
 have h':yD k ⟨[],r⟩=true:=by
  simp only[yD,Bool.and_eq_true,List.all_eq_true,List.all_nil,true_and] at h ⊢
  exact fun p hp=>h.2 p (by rw[hl];exact List.mem_append_right _ hp)
 exact eL h' hj
theorem sl_clr{k:Nat}{ks:List Nat}{st:PS}(h:clrM ks k st){l r:SL}(hl:st.sl=l++r)(t:Tmp):(jW r t).names k=false:=by
 have h':∀ p∈r,p.2.names k=false:=fun p hp=>h.1 p (by rw[hl];exact List.mem_append_right _ hp)
 clear hl
 induction r with
 |nil=>rfl
 |cons p r ih=>
  obtain ⟨j,x⟩:=p
  rw[qO]
  split
  ·exact h' (j,x) (by simp)
  ·exact ih fun q hq=>h' q (by simp [hq])
theorem clear_slot{news dL rr ww:List Nat}{st st':PS}{o:Oper}(h:gY P n ops news st o dL rr ww st'){k:Nat}(hk:k∈news){d:Tmp}(hd:o.dst=some d):(jW st'.sl d).names k=false∨∃ t∈hH ops o,(jW st.sl t).names k=true:=by
 cases h with
 |e _ _ _ _ hn=>
  simp only[uV,hd,if_true]
  simp only[clearR,List.all_eq_true] at hn
  have h1:=hn k hk
  rw[Bool.or_eq_true,List.any_eq_true] at h1
  rcases h1 with h1 | h1
  ·left;simpa using h1
  ·exact .inr h1
 |n _ _ _ _ hn _=>
  simp only[uV,hd,if_true]
  simp only[clear1,List.all_eq_true] at hn
  left;simpa using hn k hk
 |t=>simp only[uV,hd,if_true];exact .inl rfl
 |skip=>simp only[uV,hd,if_true];exact .inl rfl
 |a _ _ _ _ _ _ hn _=>
  simp only[uV,hd,if_true]
  simp only[clear1,List.all_eq_true] at hn
  left;simpa using hn k hk
 |s _ _ _ _ _ _ _ _ hn _=>
  simp only[uV,hd,if_true]
  exact .inl (hn k (.inr hk))
theorem clear_blk{news dL rr ww:List Nat}{st st':PS}{o:Oper}(h:gY P n ops news st o dL rr ww st'){k:Nat}(hk:k∈news){j:Nat}(hj:j∈ww){c:List SV}(hc:kD st'.bs j=some c):qM k c=false∨(∃ t∈hH ops o,(jW st.sl t).names k=true)∨k∈ww:=by
 have g:∀ x,clearL news x=true→qM k x=false:=fun x hx=>by
  simp only[clearL,List.all_eq_true] at hx
  simpa using hx k hk
 cases h with
 |e=>simp at hj
 |n _ _ _ _ _ hcl=>
  simp at hj;subst hj
  simp only[jK,if_true,Option.some.injEq] at hc
  subst hc;exact .inl (g _ hcl)
 |t _ _ _ _ hcl=>
  simp at hj;subst hj
  simp only[jK,if_true,Option.some.injEq] at hc
  subst hc
  simp only[clearLR,List.all_eq_true] at hcl
  have h1:=hcl k hk
  rw[Bool.or_eq_true,List.any_eq_true] at h1
  rcases h1 with h1 | h1
  ·left;simpa using h1
  ·exact .inr (.inl h1)
 |skip=>simp at hj
 |a _ _ _ _ _ hne _ hcl=>
  simp at hj
  rcases hj with rfl | rfl
  ·simp only[jK,if_true,Option.some.injEq] at hc
   subst hc;exact .inl (g _ hcl)
  ·rw[jK,if_neg (fun e=>hne e.symm),jK,if_pos rfl] at hc
   cases hc
 |s _ _ _ _ hks hwk _ hm _ hcl=>
  rename_i old new mv x _ _ _ _ _ _
  rw[bget_keyed (by rw[hks];exact hwk j hj)] at hc
  cases hb:qM k c with
  |false=>exact .inl rfl
  |true=>exact .inr (.inr (hm k (hcl _ (cJ hc) c rfl k hk hb)).1)
end
def backB(ops:Array Oper):Bool:=(List.range ops.size).all fun j=>match ops[j]? with
 |some o=>o.after.all fun e=>!(Region.binds .any e)||Nat.blt e.on j
 |none=>true
structure Inv (C:eP) (ops:Array Oper) (f:Nat→PS) (w:Nat→List Nat) (A:Nat→Prop) (a:Act) (wd:World) (D:qE) (β:qD):Prop where
 base:Base C a wd D
 slots:∀ t x,CurS ops f A t x→qG wd D β (a.tmps.getD t undef) x
 blks:∀ k cs,gC ops f w A k (some cs)→vA wd D β k cs
 inj:∀ k1 k2 c1 c2,gC ops f w A k1 (some c1)→gC ops f w A k2 (some c2)→∀ b,β k1=some b→β k2=some b→k1=k2
 high:∀ k c,gC ops f w A k (some c)→∀ b,β k=some b→C.own b
def Needs(ops:Array Oper)(r w:Nat→List Nat)(i j:Nat):Prop :=
 ∀ oi oj,ops[i]?=some oi→ops[j]?=some oj→(∃ d,oi.dst=some d∧d∈hH ops oj)∨(∃ d,oj.dst=some d∧d∈hH ops oi)∨(∃ d,oi.dst=some d∧oj.dst=some d)∨(∃ k,k∈w i∧k∈r j)∨(∃ k,k∈w i∧k∈w j)∨(∃ k,k∈w j∧k∈r i)→ancB ops ops.size j i=true
theorem dstIn_of{o:Oper}{l:List Tmp}{d:Tmp}(h:o.dst=some d)(hm:d∈l):dstIn o l=true:=by
 simp only[dstIn,h];exact memB_iff.2 hm
theorem needs_of{ops:Array Oper}{acc:List (List Nat × List Nat)}{r w:Nat→List Nat}(h:orderB ops acc=true)(hacc:∀ i,i<ops.size→acc[i]?=some (r i,w i)){i j:Nat}(hij:i<j)(hj:j<ops.size):Needs ops r w i j:=by
 intro oi oj hoi hoj hd
 simp only[orderB,Bool.and_eq_true,allPairs,List.all_eq_true,List.mem_range] at h
 have h1:=h.2 j hj i hij
 simp only[Bool.or_eq_true,Bool.not_eq_true'] at h1
 rcases h1 with h1 | h1
 ·simp only[needB,hoi,hoj,hacc i (by omega),hacc j hj,Bool.or_eq_false_iff] at h1
  obtain ⟨⟨⟨⟨⟨q1,q2⟩,q3⟩,q4⟩,q5⟩,q6⟩:=h1
  rcases hd with ⟨d,h2,h3⟩ | ⟨d,h2,h3⟩ | ⟨d,h2,h3⟩ | ⟨k,h2,h3⟩ | ⟨k,h2,h3⟩ | ⟨k,h2,h3⟩
  ·rw[dstIn_of h2 h3] at q1;cases q1
  ·rw[dstIn_of h2 h3] at q2;cases q2
  ·rw[dstIn_of h2 (by simp [h3])] at q3;cases q3
  ·rw[meetB_of h2 h3] at q4;cases q4
  ·rw[meetB_of h2 h3] at q5;cases q5
  ·rw[meetB_of h2 h3] at q6;cases q6
 ·exact h1
theorem countP_lt{p q:Nat→Bool}{i:Nat}:∀ {l:List Nat},(∀ x∈l,p x=true→q x=true)→i∈l→q i=true→p i=false→l.countP p<l.countP q
 |[],_,h,_,_=>by simp at h
 |y::l,hpq,hi,hq,hp=>by
  simp only[List.countP_cons]
  have hle:l.countP p≤l.countP q:=List.countP_mono_left fun x hx=>hpq x (by simp [hx])
  rcases List.mem_cons.1 hi with rfl | hi
  ·rw[hq,hp];simp;omega
  ·have:=countP_lt (fun x hx=>hpq x (by simp [hx])) hi hq hp
   have h1:=hpq y (by simp)
   by_cases hy:p y=true
   ·rw[hy,h1 hy];simp;omega
   ·simp only[hy]
    split<;>simp at *<;>omega
section
variable {P:Program} {n:Fr} {ops:Array Oper} {f:Nat→PS} {g r w:Nat→List Nat} {C:eP} {Q:Exit→Act→World→Prop}
theorem all_listed{listed:Array Bool}(hb:backB ops=true)(hr:Region.ready .any ops listed=[])(hsz:listed.size=ops.size):∀ i,i<ops.size→L listed i:=by
 intro i
 induction i using Nat.strongRecOn with
 |_ i ih=>
  intro hi
  rcases hL:listed.getD i false with _ | _
  ·exfalso
   have:i∈Region.ready .any ops listed:=by
    rw[mem_ready]
    refine ⟨?_,ops[i],Array.getElem?_eq_getElem hi,fun e he hbd=>?_⟩
    ·rw[Array.getD_eq_getD_getElem?] at hL ⊢
     have hlt:i<listed.size:=by omega
     simp only[Array.getElem?_eq_getElem hlt,Option.getD_some] at hL ⊢
     exact hL
    ·simp only[backB,List.all_eq_true,List.mem_range] at hb
     have h1:=hb i hi
     rw[Array.getElem?_eq_getElem hi] at h1
     simp only[Array.all_eq_true_iff_forall_mem,Bool.or_eq_true,Bool.not_eq_true'] at h1
     rcases h1 e he with h2 | h2
     ·rw[hbd] at h2;cases h2
     ·have hlt:e.on<i:=Nat.le_of_ble_eq_true h2
      exact ih e.on hlt (by omega)
   rw[hr] at this
   cases this
  ·exact hL
theorem inv_end(hf:Line P n ops f g r w){A:Nat→Prop}(hA:∀ i,i<ops.size→A i){a:Act}{wd:World}{D:qE}{β:qD}(h:Inv C ops f w A a wd D β):SimAt C a wd (f ops.size) D β:=by
 have hS:∀ t,CurS ops f A t (jW (f ops.size).sl t):=fun t=>curS_text hf A t ops.size (Nat.le_refl _) (fun j hj _=>hA j hj) (fun j h1 h2=>by omega)
 have hB:∀ k c,kD (f ops.size).bs k=some c→gC ops f w A k (some c):=fun k c hc=>hc▸curB_text hf A k ops.size (Nat.le_refl _) (fun j hj _=>hA j hj) (fun j h1 h2=>by omega)
 exact ⟨h.base,⟨fun k cs hk=>h.blks k cs (hB k cs hk),fun k1 k2 c1 c2 h1 h2=>h.inj k1 k2 c1 c2 (hB _ _ h1) (hB _ _ h2)⟩,fun k c hk=>h.high k c (hB k c hk),fun t=>h.slots t _ (hS t)⟩
end
end Go.Fid
