/- Part 7 of a proof: rules, plain facts, and functions walked. -/
import Derived.Test.YtciingpdmjepgabGreatDoorM6
set_option linter.all false
namespace Go.Fid
open Go.RowKit (Below)
def yL(k:Nat):SL->SL
 |[]=>[]
 |(t,x)::r=>(t,bif x.names k then .junk else x)::yL k r
theorem eU(k:Nat):∀ (l:SL) (t:Nat),kA (yL k l) t=bif (kA l t).names k then .junk else kA l t
 |[],t=>rfl
 |(j,x)::r,t=>by
  simp only[yL,qM]
  split
  ·rfl
  ·exact eU k r t
theorem forget_slot{w:World}{D:kV}{β:kY}{v:Value}{k:Nat}{x:SV}(h:x.names k=false->qC w D β v x):qC w D β v (bif x.names k then .junk else x):=by
 cases hx:x.names k with
 |true=>trivial
 |false=>exact h hx
theorem Mem.mask{w:World}{D:kV}{β:kY}{bs:BS}(h:Mem w D β bs)(k:Nat):Mem w D β ((k,none)::bs) :=
 ⟨fun j c hj=>by
  rw[jI] at hj
  split at hj
  ·cases hj
  ·exact h.ok j c hj,fun j1 j2 c1 c2 h1 h2=>by
  rw[jI] at h1 h2
  split at h1
  ·cases h1
  ·split at h2
   ·cases h2
   ·exact h.inj j1 j2 c1 c2 h1 h2⟩
theorem Mem.unmask{w:World}{D:kV}{β:kY}{bs:BS}{k:Nat}{cs:List SV}(h:Mem w D β ((k,some cs)::(k,none)::bs)):Mem w D β ((k,some cs)::bs):=by
 have e:∀ j,jY ((k,some cs)::bs) j=jY ((k,some cs)::(k,none)::bs) j:=fun j=>by
  simp only[jI]
  split<;>rfl
 exact ⟨fun j c hj=>h.ok j c (e j▸hj),fun j1 j2 c1 c2 h1 h2=>h.inj j1 j2 c1 c2 (e j1▸h1) (e j2▸h2)⟩
section
variable {P:Program} {n:Fr} {C:Ctx} {a:Act} {w:World} {st:PS} {D:kV} {β:kY} {dst:Option Tmp} {k:Nat} {cs:List SV} {x:SV}
theorem grew_new(hs:fQ C a w st D β){w':World}{b:Nat}{v:Value}(hb:Below w.heap.size w w')(hge:w.heap.size<=b)(hd:yH C.n dst=true)(hB:∀ j c,j≠k->jY st.bs j=some c->kZ k c=false)
  (hk:uA w' D (β.set k b) k cs) (hx:qC w' D (β.set k b) v x):cI C (a.put dst v) w' ⟨fF dst x (yL k st.sl),(k,some cs)::st.bs⟩:=by
 have hβ:∀ j,j≠k->(β.set k b) j=β j:=fun j hj=>by simp [kY.set,hj]
 have hu:aF D D w w':=aF.of_same D
 refine ⟨D,β.set k b,(hs.base.up hb hu).put hd _,((hs.mem.mask k).new hb hu hs.base.dok hge (fun j c hj=>?_) hk).unmask,fun j c hj b' hb'=>?_,fun t=>?_⟩
 ·rw[jI] at hj
  split at hj
  ·cases hj
  ·rename_i hne;exact ⟨fun e=>hne e.symm,hB j c (fun e=>hne e.symm) hj⟩
 ·rw[jI] at hj
  split at hj
  ·rename_i e;subst e
   simp [kY.set] at hb'
   subst hb'
   exact hs.base.fresh (by omega)
  ·rename_i hne
   rw[hβ j (fun e=>hne e.symm)] at hb'
   exact hs.high j c hj b' hb'
 ·rw[uP hs.base.size hd,uH]
  split
  ·exact hx
  ·rw[eU]
   exact forget_slot fun hn=>((hs.slots t).up hb hu hs.base.dok).frame hβ hn
theorem grew_room(hs:fQ C a w st D β){w':World}{b:Nat}{v:Value}{old:List SV}(hw:Wrote b w w')(hkb:β k=some b)(hp:∀ t o,¬ D t b o)(bQ:jY st.bs k=some old)(hd:yH C.n dst=true)
  (hk:uA w' D β k cs) (hx:qC w' D β v x):cI C (a.put dst v) w' ⟨fF dst x (yL k st.sl),(k,some cs)::st.bs⟩:=by
 refine ⟨D,β,(hs.base.wrote hw (hs.high k _ bQ b hkb) (blk_heap (hs.mem.ok k _ bQ) hkb) hp).put hd _,hs.mem.write hw hp hkb bQ hk,fun j c hj b' hb'=>?_,fun t=>?_⟩
 ·rw[jI] at hj
  split at hj
  ·rename_i e;subst e;exact hs.high k _ bQ b' hb'
  ·exact hs.high j c hj b' hb'
 ·rw[uP hs.base.size hd,uH]
  split
  ·exact hx
  ·rw[eU]
   exact forget_slot fun _=>hw.repS hp (hs.slots t)
theorem grew_same(hs:fQ C a w st D β){v:Value}(hd:yH C.n dst=true)(hk:uA w D β k cs)(bQ:∃ old,jY st.bs k=some old)(hx:qC w D β v x):cI C (a.put dst v) w ⟨fF dst x (yL k st.sl),(k,some cs)::st.bs⟩:=by
 obtain ⟨old,bQ⟩:=bQ
 refine ⟨D,β,hs.base.put hd _,⟨fun j c hj=>?_,fun j1 j2 c1 c2 h1 h2=>?_⟩,fun j c hj b' hb'=>?_,fun t=>?_⟩
 ·rw[jI] at hj
  split at hj
  ·rename_i e;subst e;injection hj with hj;subst hj;exact hk
  ·exact hs.mem.ok j c hj
 ·have g:∀ j c,jY ((k,some cs)::st.bs) j=some c->∃ c',jY st.bs j=some c':=fun j c hj=>by
   rw[jI] at hj
   split at hj
   ·rename_i e;subst e;exact ⟨_,bQ⟩
   ·exact ⟨_,hj⟩
  obtain ⟨d1,g1⟩:=g j1 c1 h1
  obtain ⟨d2,g2⟩:=g j2 c2 h2
  exact hs.mem.inj j1 j2 d1 d2 g1 g2
 ·rw[jI] at hj
  split at hj
  ·rename_i e;subst e;exact hs.high k _ bQ b' hb'
  ·exact hs.high j c hj b' hb'
 ·rw[uP hs.base.size hd,uH]
  split
  ·exact hx
  ·rw[eU]
   exact forget_slot fun _=>hs.slots t
end
theorem bP{w:World}{D:kV}{t:TypeId}{s:Nat}{es:List jT}{v:Value}(h:uN w D v (.sl t s es)) :
  ∃ (ao:Option Addr) (c:Nat) (us:List Value),v=.slice ao es.length c/\es.length<=c/\us.length=es.length*s/\(kR es).length=es.length*s/\(∀ u∈us,u.oneCell'=true)/\(∀ (i:Nat) u d,us[i]?=some u->(kR es)[i]?=some d->uN w D u d) /\
   (0<es.length->∃ ad:Addr,ao=some ad/\∀ (j:Nat) u,us[j]?=some u->w.cell? (ad.add j)=some u):=by
 cases h with
 |sl g off u hn hc hm hs ha hD hu h1 hr=>
  rename_i a nn cap
  have hfl:=uQ hs
  refine ⟨a,cap,(List.range (kR es).length).map u,by rw[hn],by omega,by simp [hfl],hfl,?_,?_,?_⟩
  ·intro x hx
   obtain ⟨i,hi,rfl⟩:=List.mem_map.1 hx
   exact h1 i (List.mem_range.1 hi)
  ·intro i x d hx hd
   rw[List.getElem?_map,Option.map_eq_some_iff] at hx
   obtain ⟨j,hj,rfl⟩:=hx
   have hji:j=i:=by
    rw[List.getElem?_range (heapless hd)] at hj
    injection hj with hj
    exact hj.symm
   subst hji
   exact hr j d hd
  ·intro h0
   refine ⟨⟨g,off,none⟩,ha (by omega),fun j x hx=>?_⟩
   rw[List.getElem?_map,Option.map_eq_some_iff] at hx
   obtain ⟨i,hi,rfl⟩:=hx
   have hlt:i<(kR es).length:=by
    have:=List.mem_of_getElem? hi
    exact List.mem_range.1 this
   have hij:i=j:=by
    have hj:j<(kR es).length:=by
     have:=(List.getElem?_eq_some_iff.1 hi).1
     simpa using this
    rw[List.getElem?_range hj] at hi
    injection hi with hi
    exact hi.symm
   subst hij
   rw[Addr.add_lit]
   exact hu i hlt
where
 heapless {es:List jT} {i:Nat} {d:jT} (h:(kR es)[i]?=some d):i<(kR es).length:=(List.getElem?_eq_some_iff.1 h).1
theorem app_blk{w:World}{D:kV}{β:kY}{b:Nat}{arr:List Value}{E:TypeId}{k:Nat}{es:List jT}(hkb:β k=some b)(cE:w.heap[b]?=some (.cells arr.toArray E (0,0)))(qL:(kR es).length<=arr.length)
  (h:∀ (i:Nat) d,(kR es)[i]?=some d->∃ u,arr[i]?=some u/\u.oneCell'=true/\uN w D u d) (hp:∀ t o,¬ D t b o):uA w D β k ((kR es).map .d):=by
 refine .inr ⟨b,arr.toArray,E,hkb,cE,by simpa using qL,fun i x hx=>?_,hp⟩
 rw[List.getElem?_map,Option.map_eq_some_iff] at hx
 obtain ⟨d,hd,rfl⟩:=hx
 obtain ⟨u,e1,e2,e3⟩:=h i d hd
 exact ⟨u,by simpa using e1,e2,e3⟩
section
variable {P:Program} {o:Oper} {st:PS}
theorem app_sound{T E t':TypeId}{x y:Operand}{k s m bytes:Nat}{zv:List Value}{es es':List jT}{cs:List SV}{N:Fr}(ho:o.op=.call { callee:=.builtin .append,args:=#[x,y],argTypes:=#[T,T] })
  (hd:yH N o.dst=true) (hT:uB P T=some (E,s)) (hz:vP P E=some zv) (hzl:zv.length=s) (hby:vJ P E=some bytes) (hx:ev (kA st.sl) x=.own k E s m) (hb:jY st.bs k=some cs) (hcs:cs=(kR es).map .d)
  (hes:(kR es).length=m*s) (hy:ev (kA st.sl) y=.d (.sl t' s es')) (hbig:m+es'.length<=maxLen) (hbig':(m+es'.length)*bytes<=140737488355328) (hB:∀ j c,j≠k->jY st.bs j=some c->kZ k c=false)
  (C:Ctx) (a:Act) (w:World) (Q:Exit->Act->World->Prop) (hn:C.n=N) (hs:cI C a w st) :
  o.wp P a w (fun a' w'=>cI C a' w' ⟨fF o.dst (.own k E s (m+es'.length)) (yL k st.sl),(k,some ((kR (es++es')).map .d))::st.bs⟩) Q:=by
 obtain ⟨D,β,hs⟩:=hs
 subst hn
 subst hcs
 have hev:∀ q:Operand,qC w D β (a.eval q) (ev (kA st.sl) q):=fun q=>by
  cases q with
  |tmp t=>exact hs.slots t
  |const v=>exact uN.val v
  |func f=>exact uN.val _
  |global g=>trivial
 have h1:=hev x
 have h2:=hev y
 rw[hx] at h1
 rw[hy] at h2
 obtain ⟨ao,c,us,hyv,hcc,hul,hfl',eO,hrep,had⟩:=bP h2
 obtain ⟨i,z,z1,z2,z3⟩:=eZ hz
 obtain ⟨j,f1,f2,f3⟩:=gQ hT
 have hij:i=j:=by rw[z1] at f2;injection f2
 subst hij
 have hbi:i.bytes=bytes:=by
  unfold vJ at hby
  rw[z1] at hby
  simpa using hby
 subst hbi
 have hzs:z.cells.size=s:=by rw[z3];simpa using hzl
 have hml:(maxLen:Int)<=9223372036854775807:=by decide
 have hblk:=hs.mem.ok k _ hb
 have hflat:kR (es++es')=kR es++kR es':=eR es es'
 have hfll:(kR (es++es')).length=(m+es'.length)*s:=by rw[hflat,List.length_append,hes,hfl',Nat.add_mul]
 by_cases hm0:es'.length=0
 ·have hnil:es'=[]:=List.eq_nil_of_length_eq_zero hm0
  subst hnil
  have hrun:(Builtin.append_ #[T,T] o.type #[a.eval x,a.eval y]).run P w=.ok (a.eval x) w:=by
   rw[hyv]
   have e0:([]:List jT).length=0:=rfl
   have hu0:us=[]:=List.eq_nil_of_length_eq_zero (by simpa using hul)
   rcases h1 with ⟨_,_,hv⟩ | ⟨b,cap,vs,_,hv,cE,_,hmc,_⟩
   ·rw[hv,e0]
    cases ao with
    |none=>simp [Builtin.append_,run_underlying f1,sizeOf,typeInfo,z1,Builtin.lenOf,Builtin.firstCells]
    |some ad=>simp [Builtin.append_,run_underlying f1,sizeOf,typeInfo,z1,Builtin.lenOf,Builtin.firstCells,loadCells,loadCellsFrom]
   ·rw[hv,e0]
    cases ao with
    |none=>simp [Builtin.append_,run_underlying f1,sizeOf,typeInfo,z1,Builtin.lenOf,Builtin.firstCells,hmc,storeCells]
    |some ad=>simp [Builtin.append_,run_underlying f1,sizeOf,typeInfo,z1,Builtin.lenOf,Builtin.firstCells,hmc,storeCells,loadCells,loadCellsFrom]
  have hx':qC w D β (a.eval x) (.own k E s (m+([]:List jT).length)):=h1
  have:=grew_same (dst:=o.dst) (cs:=(kR (es++[])).map .d) (k:=k) hs hd (by simpa using hblk) ⟨_,hb⟩ hx'
  unfold Oper.wp execOp
  simp only[ho,resolve,invoke,builtin,Sem.run_bind,Sem.run_pure,Result.andThen_ok,List.map_toArray,List.map_cons,List.map_nil,hrun]
  exact this
 ·obtain ⟨ad,rfl,hcell⟩:=had (by omega)
  rcases h1 with ⟨hk0,hm,hv⟩ | ⟨b,cap,vs,hkb,hv,cE,hvs,hmc,hcap⟩
  ·subst hm
   have hbytes:es'.length*i.bytes<=281474976710656:=by rw[Nat.zero_add] at hbig';omega
   have hr:=run_append_nil (P:=P) w T o.type E i z f1 z1 z2 ad es'.length c us (by rw[hul,f3]) hcell (by omega) (by omega) hbytes
   have hes0:kR es=[]:=List.eq_nil_of_length_eq_zero (by simpa using hes)
   have hge:=grownCap_ge w es'.length 0 E
   have hcm:=grownCap_le_maxLen w es'.length 0 E (by omega)
   generalize grownCap w es'.length 0 E=G at hr hge hcm
   have gC:Below w.heap.size w (w.drew.alloc (.cells (us.toArray++Builtin.zeroCells z.cells (G-es'.length)) E)):=⟨rfl,rfl,rfl,by simp,fun q hq=>heap_alloc_old w.drew _ hq⟩
   have hblk':uA (w.drew.alloc (.cells (us.toArray++Builtin.zeroCells z.cells (G-es'.length)) E)) D (β.set k w.heap.size) k ((kR (es++es')).map .d):=by
    have earr:us.toArray++Builtin.zeroCells z.cells (G-es'.length)=(us++(Builtin.zeroCells z.cells (G-es'.length)).toList).toArray:=by apply Array.ext';simp
    refine app_blk (b:=w.heap.size) (E:=E) (arr:=us++(Builtin.zeroCells z.cells (G-es'.length)).toList) (by simp [kY.set]) (by rw[<- earr];exact heap_alloc_new w.drew _) (by rw[hfll,Nat.zero_add,List.length_append];omega) ?_ (fun t q hq=>Nat.lt_irrefl _ (hs.base.dok.lt t _ q hq))
    intro q d hq
    rw[hflat,hes0,List.nil_append] at hq
    have hlt:q<us.length:=by
     have:=(List.getElem?_eq_some_iff.1 hq).1
     omega
    exact ⟨us[q],by rw[List.getElem?_append_left hlt];simp [hlt],eO _ (by simp),(hrep q us[q] d (by simp [hlt]) hq).up gC (aF.of_same D) hs.base.dok⟩
   have hx':qC (w.drew.alloc (.cells (us.toArray++Builtin.zeroCells z.cells (G-es'.length)) E)) D (β.set k w.heap.size) (.slice (some ⟨w.heap.size,0,none⟩) es'.length G) (.own k E s (0+es'.length)):=by
    rw[Nat.zero_add]
    refine .inr ⟨w.heap.size,G,_,by simp [kY.set],rfl,heap_alloc_new w.drew _,?_,hge,hcm⟩
    simp only[Array.size_append,List.size_toArray,size_zeroCells,hzs,hul,<- Nat.add_mul]
    congr 1
    omega
   have:=grew_new (dst:=o.dst) hs gC (Nat.le_refl _) hd hB hblk' hx'
   unfold Oper.wp execOp
   simp only[ho,resolve,invoke,builtin,Sem.run_bind,Sem.run_pure,Result.andThen_ok,List.map_toArray,List.map_cons,List.map_nil,hv,hyv,hr]
   exact this
  ·have hb4:∃ b' vs' T',β k=some b'/\w.heap[b']?=some (.cells vs' T' (0,0))/\((kR es).map SV.d).length<=vs'.size/\(∀ (i:Nat) x,((kR es).map SV.d)[i]?=some x->∃ u,vs'[i]?=some u/\u.oneCell'=true/\qC w D β u x)/\∀ t o,¬ D t b' o:=by
    rcases hblk with h | h
    ·exact (h.at_cells hkb cE).elim
    ·exact h
   obtain ⟨b',vs',T',e1,e2,e3,e4,e5⟩:=hb4
   have:b'=b:=by rw[hkb] at e1;injection e1 with e1;exact e1.symm
   subst this
   have:vs'=vs:=by rw[cE] at e2;injection e2 with e2;injection e2 with e2;exact e2.symm
   subst this
   have e4':∀ (q:Nat) d,(kR es)[q]?=some d->∃ u,vs'[q]?=some u/\u.oneCell'=true/\uN w D u d:=fun q d hq=>e4 q (.d d) (by rw[List.getElem?_map,hq];rfl)
   have hle:m*s<=vs'.size:=by rw[hvs];exact Nat.mul_le_mul_right _ hmc
   by_cases hroom:m+es'.length<=cap
   ·have hfit:m*s+us.length<=vs'.size:=by rw[hul,hvs,<- Nat.add_mul];exact Nat.mul_le_mul_right _ hroom
    have hr:=run_append_room (P:=P) w T o.type E i f1 z1 b' m cap vs' cE ad es'.length c us (by rw[hul,f3]) hcell eO hroom (by rw[f3];exact hfit)
    rw[f3] at hr
    have hpl:=yN (l:=vs'.toList) (off:=m*s) (new:=us) (by simpa using hfit)
    have hw:=aT w b' (vs'.toList.take (m*s)++us++vs'.toList.drop (m*s+us.length)).toArray (fun vs2 T2 f2 h=>by
     rw[cE] at h
     injection h with h
     injection h with h
     subst h
     have e:patch vs'.toList (m*s) us=vs'.toList.take (m*s)++us++vs'.toList.drop (m*s+us.length):=rfl
     rw[e] at hpl
     simpa using hpl)
    have hheap':=setRow_heap w b' vs' (vs'.toList.take (m*s)++us++vs'.toList.drop (m*s+us.length)).toArray E _ cE
    have hpg:∀ q,(vs'.toList.take (m*s)++us++vs'.toList.drop (m*s+us.length))[q]?=if q<m*s then vs'.toList[q]? else if q<m*s+us.length then us[q-m*s]? else vs'.toList[q]?:=fun q=>yS (by simpa using hfit) q
    have hblk':uA (w.setRow b' (vs'.toList.take (m*s)++us++vs'.toList.drop (m*s+us.length)).toArray) D β k ((kR (es++es')).map .d):=by
     refine app_blk hkb hheap' ?_ ?_ e5
     ·have e:patch vs'.toList (m*s) us=vs'.toList.take (m*s)++us++vs'.toList.drop (m*s+us.length):=rfl
      rw[e] at hpl
      rw[hpl,hfll,Nat.add_mul]
      simp only[Array.length_toList]
      omega
     ·intro q d hq
      rw[hpg q]
      rw[hflat] at hq
      by_cases c1:q<m*s
      ·rw[if_pos c1]
       rw[List.getElem?_append_left (by omega)] at hq
       obtain ⟨u,g1,g2,g3⟩:=e4' q d hq
       exact ⟨u,by simpa using g1,g2,hw.rep e5 g3⟩
      ·rw[List.getElem?_append_right (by omega),hes] at hq
       have hlt:q-m*s<us.length:=by
        have:=(List.getElem?_eq_some_iff.1 hq).1
        omega
       rw[if_neg c1,if_pos (by omega)]
       exact ⟨us[q-m*s],by simp [hlt],eO _ (by simp),hw.rep e5 (hrep _ _ d (by simp [hlt]) hq)⟩
    have hx':qC (w.setRow b' (vs'.toList.take (m*s)++us++vs'.toList.drop (m*s+us.length)).toArray) D β (.slice (some ⟨b',0,none⟩) (m+es'.length) cap) (.own k E s (m+es'.length)):=by
     refine .inr ⟨b',cap,_,hkb,rfl,hheap',?_,hroom,hcap⟩
     have e:patch vs'.toList (m*s) us=vs'.toList.take (m*s)++us++vs'.toList.drop (m*s+us.length):=rfl
     rw[e] at hpl
     simpa [hvs] using hpl
    have:=grew_room (dst:=o.dst) hs hw hkb e5 hb hd hblk' hx'
    unfold Oper.wp execOp
    simp only[ho,resolve,invoke,builtin,Sem.run_bind,Sem.run_pure,Result.andThen_ok,List.map_toArray,List.map_cons,List.map_nil,hv,hyv,hr]
    exact this
   ·have hol:(vs'.toList.take (m*s)).length=m*i.size:=by rw[f3,List.length_take];simp;omega
    have holds:∀ q u,(vs'.toList.take (m*s))[q]?=some u->w.cell? ((⟨b',0,none⟩:Addr).add q)=some u:=fun q u hq=>by
     rw[Addr.add_lit,Nat.zero_add,cell_of_row w b' q vs' E (0,0) cE]
     rw[List.getElem?_take] at hq
     split at hq
     ·simpa using hq
     ·cases hq
    have hr:=run_append_grow (P:=P) w T o.type E i z f1 z1 z2 ⟨b',0,none⟩ m cap (vs'.toList.take (m*s)) hol holds ad es'.length c us (by rw[hul,f3]) hcell (by omega) (by omega) (growslice_fits (by omega) hbig')
    have hge:=grownCap_ge w (m+es'.length) cap E
    have hcm:=grownCap_le_maxLen w (m+es'.length) cap E (by omega)
    generalize grownCap w (m+es'.length) cap E=G at hr hge hcm
    have gC:Below w.heap.size w (w.drew.alloc (.cells ((vs'.toList.take (m*s)).toArray++us.toArray++Builtin.zeroCells z.cells (G-(m+es'.length))) E)):=⟨rfl,rfl,rfl,by simp,fun q hq=>heap_alloc_old w.drew _ hq⟩
    have hblk':uA (w.drew.alloc (.cells ((vs'.toList.take (m*s)).toArray++us.toArray++Builtin.zeroCells z.cells (G-(m+es'.length))) E)) D (β.set k w.heap.size) k ((kR (es++es')).map .d):=by
     have earr:(vs'.toList.take (m*s)).toArray++us.toArray++Builtin.zeroCells z.cells (G-(m+es'.length))=(vs'.toList.take (m*s)++us++(Builtin.zeroCells z.cells (G-(m+es'.length))).toList).toArray:=by apply Array.ext';simp
     rw[f3] at hol
     refine app_blk (b:=w.heap.size) (E:=E) (by simp [kY.set]) (by rw[<- earr];exact heap_alloc_new w.drew _) (by rw[hfll,List.length_append,List.length_append,hol,Nat.add_mul];omega) ?_ (fun t q hq=>Nat.lt_irrefl _ (hs.base.dok.lt t _ q hq))
     intro q d hq
     rw[hflat] at hq
     by_cases c1:q<m*s
     ·rw[List.getElem?_append_left (by omega)] at hq
      obtain ⟨u,g1,g2,g3⟩:=e4' q d hq
      refine ⟨u,?_,g2,g3.up gC (aF.of_same D) hs.base.dok⟩
      rw[List.append_assoc,List.getElem?_append_left (by omega),List.getElem?_take,if_pos c1]
      simpa using g1
     ·rw[List.getElem?_append_right (by omega),hes] at hq
      have hlt:q-m*s<us.length:=by
       have:=(List.getElem?_eq_some_iff.1 hq).1
       omega
      refine ⟨us[q-m*s],?_,eO _ (by simp),(hrep _ _ d (by simp [hlt]) hq).up gC (aF.of_same D) hs.base.dok⟩
      rw[List.append_assoc,List.getElem?_append_right (by omega),hol,List.getElem?_append_left hlt]
      simp [hlt]
    have hx':qC (w.drew.alloc (.cells ((vs'.toList.take (m*s)).toArray++us.toArray++Builtin.zeroCells z.cells (G-(m+es'.length))) E)) D (β.set k w.heap.size) (.slice (some ⟨w.heap.size,0,none⟩) (m+es'.length) G) (.own k E s (m+es'.length)):=by
     refine .inr ⟨w.heap.size,G,_,by simp [kY.set],rfl,heap_alloc_new w.drew _,?_,hge,hcm⟩
     rw[f3] at hol
     simp only[Array.size_append,List.size_toArray,size_zeroCells,hzs,hul,hol,<- Nat.add_mul]
     congr 1
     omega
    have:=grew_new (dst:=o.dst) hs gC (Nat.le_refl _) hd hB hblk' hx'
    unfold Oper.wp execOp
    simp only[ho,resolve,invoke,builtin,Sem.run_bind,Sem.run_pure,Result.andThen_ok,List.map_toArray,List.map_cons,List.map_nil,hv,hyv,hr]
    exact this
end
def Clr(k:Nat)(bs:BS):Prop:=∀ j c,j≠k->jY bs j=some c->kZ k c=false
theorem zD{α:Type}(k:Nat)(f:α->jT)(l:List α):kZ k (l.map (fun g=>SV.d (f g)))=false:=by
 simp only[kZ,List.any_eq_false]
 intro x hx
 obtain ⟨g,_,rfl⟩:=List.mem_map.1 hx
 simp [SV.names]
theorem mQ(k:Nat):Clr k []:=fun j c _ h=>by simp [jY] at h
theorem nB{k:Nat}{x:Option (List SV)}{bs:BS}(h:Clr k bs):Clr k ((k,x)::bs):=fun j c hj hb=>by
 rw[jI,if_neg (fun e=>hj e.symm)] at hb
 exact h j c hj hb
theorem cX{k j:Nat}{cs:List SV}{bs:BS}(hc:kZ k cs=false)(h:Clr k bs):Clr k ((j,some cs)::bs):=fun i c hi hb=>by
 rw[jI] at hb
 split at hb
 ·injection hb with hb;subst hb;exact hc
 ·exact h i c hi hb
theorem cQ{α:Type}{k j:Nat}{f:α->jT}{l:List α}{bs:BS}(h:Clr k bs):Clr k ((j,some (l.map (fun g=>SV.d (f g))))::bs):=cX (zD k f l) h
theorem clr_d{k j:Nat}{l:List jT}{bs:BS}(h:Clr k bs):Clr k ((j,some (l.map SV.d))::bs):=cX (zD k id l) h
theorem fL{k j:Nat}{d:jT}{bs:BS}(h:Clr k bs):Clr k ((j,some (bx d))::bs):=clr_d h
section
variable {P:Program} {n:Fr} {ops:Array Oper} {S S':SL} {B B':BS} {l:List Oper} {o:Oper}
theorem nilOwn_sem{d:Tmp}(k:Nat)(E s:Nat)(ho:o.op=.assign (.const (.slice none 0 0))\/o.op=.move (.const (.slice none 0 0)))(hdst:o.dst=some d)(hd:yH n (some d)=true)(hf:zU k ⟨S,B⟩=true)
  (C:Ctx) (a:Act) (w:World) (Q:Exit->Act->World->Prop) (hn:C.n=n) (hs:cI C a w ⟨S,B⟩):o.wp P a w (fun a' w'=>cI C a' w' ⟨(d,.own k E s 0)::S,(k,some [])::B⟩) Q:=by
 subst hn
 obtain ⟨D,β,hs⟩:=hs
 have hrun:(execOp a.eval o).run P w=.ok (.value (.slice none 0 0)) w:=by
  rcases ho with ho | ho
  ·simp only[execOp,ho,Sem.run_pure];rfl
  ·simp only[execOp,ho,Sem.run_pure];rfl
 refine mF hrun ?_
 rw[hdst]
 have hβ:∀ j,j≠k->(fun j=>if j=k then none else β j:kY) j=β j:=fun j hj=>by simp [hj]
 refine ⟨D,fun j=>if j=k then none else β j,hs.base.put hd _,⟨fun j c hj=>?_,fun j1 j2 c1 c2 h1 h2 b e1 e2=>?_⟩,fun j c hj b hb=>?_,fun t=>?_⟩
 ·rw[jI] at hj
  split at hj
  ·rename_i e;subst e;injection hj with hj;subst hj
   exact .inl (.inl ⟨by simp,rfl⟩)
  ·obtain ⟨h1,h2⟩:=fZ hf hj
   exact (hs.mem.ok j c hj).frame hβ h1 h2
 ·have n1:j1≠k:=fun e=>by subst e;simp at e1
  have n2:j2≠k:=fun e=>by subst e;simp at e2
  simp only[if_neg n1] at e1
  simp only[if_neg n2] at e2
  rw[jI,if_neg (fun e=>n1 e.symm)] at h1
  rw[jI,if_neg (fun e=>n2 e.symm)] at h2
  exact hs.mem.inj j1 j2 c1 c2 h1 h2 b e1 e2
 ·have nj:j≠k:=fun e=>by subst e;simp at hb
  simp only[if_neg nj] at hb
  rw[jI,if_neg (fun e=>nj e.symm)] at hj
  exact hs.high j c hj b hb
 ·show qC w D _ ((a.put (some d) (.slice none 0 0)).tmps.getD t undef) (kA ((d,.own k E s 0)::S) t)
  rw[uP hs.base.size hd,qM]
  by_cases e:d=t
  ·rw[if_pos e,if_pos (by rw[e])]
   exact .inl ⟨by simp,rfl,rfl⟩
  ·rw[if_neg e,if_neg (fun e'=>e (by injection e'))]
   exact (hs.slots t).frame hβ (bI hf t)
end
section
variable {P:Program} {o:Oper} {S:Nat->SV}
theorem n_bso{T E:TypeId}{s len:Nat}{ps:List (Nat × Operand)}{pd:List (Nat × jT)}{zv:List Value}{zd es:List jT}{cs:List SV}(k:Nat)(ho:o.op=.buildSlice T len ps.toArray)(hT:uB P T=some (E,s))(hz:vP P E=some zv)(hzd:dV zv zd)(hzl:zd.length=s)
  (hps:ps.map (fun p=>(p.1,ev S p.2))=pd.map (fun p=>(p.1,.d p.2))) (hok:pd.all (fun p=>p.2.ok1)=true) (hbig:Nat.ble (len*s) 16777216=true) (hbig':Nat.ble len 16777216=true) (qL:es.length=len) (hs:es.map (fun e=>e.cells.length)=List.replicate len s)
  (hr:fU (fun i=>some (i*s,s)) (List.replicate len zd).flatten (pd.map fun p=>(p.1,p.2.cells))=some (kR es)) (hcs:(kR es).map .d=cs):NOk P o S k cs (.own k E s len) :=
 fun a w D β Q hop hD=>by
  subst hcs
  have hbig:=Nat.le_of_ble_eq_true hbig
  have hbig':=Nat.le_of_ble_eq_true hbig'
  have hs:∀ e∈es,e.cells.length=s:=fun e he=>by
   have:e.cells.length∈es.map (fun e=>e.cells.length):=List.mem_map_of_mem he
   rw[hs] at this
   exact (List.mem_replicate.1 this).2
  obtain ⟨i,z,z1,z2,z3⟩:=eZ hz
  obtain ⟨j,e1,e2,e3⟩:=gQ hT
  have hij:i=j:=by rw[z1] at e2;injection e2
  subst hij
  obtain ⟨q1,q2⟩:=opnds_parts (a:=a) (w:=w) (D:=D) (β:=β) hps hok (fun p hp=>hop p.2 (by
   simp only[ho,Op.operands]
   exact List.mem_toArray.2 (by simpa using List.mem_map_of_mem (f:=(·.2)) hp)))
  have hzvl:zv.length=zd.length:=(fT (w:=w) (D:=D) hzd).1
  have hzs:z.cells.size=s:=by rw[z3];simp;omega
  have hrz:=cG z.cells s len hzs
  have hzero:RepL w D ((Array.range (len*s)).map (z.cells[· % z.cells.size]!)).toList (List.replicate len zd).flatten:=by
   rw[hrz,z3]
   exact repL_zeros hzd len
  obtain ⟨cs',f1,f2⟩:=fill_spec (fun i=>some (i*s,s)) _ _ _ _ _ q1 q2 hzero hr
  have hpp:(ps.toArray.map fun p=>(p.1,a.eval p.2)).toList=ps.map fun p=>(p.1,a.eval p.2):=by simp
  have hrun:(execOp a.eval o).run P w=.ok (.value (.slice (some ⟨w.heap.size,0,none⟩) len len)) (w.alloc (.cells cs' E)):=by
   by_cases h0:len*s=0
   ·rw[h0] at f1
    simp only[Array.range_zero',Array.map_empty] at f1
    simp only[execOp,ho,Instr.buildSlice,Sem.run_bind,run_underlying e1,Result.andThen_ok,vX e2,e3,h0,if_true,Array.range_zero',Array.map_empty,hpp,Sem.run_pure]
    rw[if_neg (by omega)]
    simp only[Sem.run_bind,Sem.run_pure,Result.andThen_ok,f1,newRow,run_newObj]
    rfl
   ·simp only[execOp,ho,Instr.buildSlice,Sem.run_bind,run_underlying e1,Result.andThen_ok,vX e2,e3,h0,if_false,hpp]
    rw[if_neg (by omega)]
    simp only[Sem.run_bind,Sem.run_pure,Result.andThen_ok,run_zero z1 z2,f1,newRow,run_newObj]
    rfl
  refine npost_new (vs:=cs') (T:=E) hD f2 hrun ?_
  refine .inr ⟨w.heap.size,len,cs',by simp [kY.set],rfl,heap_alloc_new w _,?_,Nat.le_refl _,by unfold maxLen;omega⟩
  have h1:=f2.1
  rw[uQ hs,qL] at h1
  simpa using h1
end
end Go.Fid
