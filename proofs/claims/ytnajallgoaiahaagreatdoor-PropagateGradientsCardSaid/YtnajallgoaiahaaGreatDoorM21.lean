/- Part 21 of a proof: rules, plain facts, and functions walked. -/
import Derived.Test.YtnajallgoaiahaaGreatDoorM20
set_option linter.unusedVariables false
set_option linter.unusedSimpArgs false
namespace Go.Fid
open Go.RowKit (Below)
theorem app_blkG{w:World}{D:qZ}{β:qS}{b:Nat}{arr:List Value}{E:TypeId}{k:Nat}{cs:List SV}(hkb:β k=some b)(eT:w.heap[b]?=some (.cells arr.toArray E (0,0)))(uO:cs.length≤arr.length)
  (h:∀ (i:Nat) x,cs[i]?=some x→∃ u,arr[i]?=some u∧u.oneCell'=true∧qP w D β u x) (hp:∀ t o,¬ D t b o):vO w D β k cs:=by
 refine .inr ⟨b,arr.toArray,E,hkb,eT,by simpa using uO,fun i x hx=>?_,hp⟩
 obtain ⟨u,e1,e2,e3⟩:=h i x hx
 exact ⟨u,by simpa using e1,e2,e3⟩
theorem names_get{k:Nat}{cs:List SV}(h:uE k cs=false){i:Nat}{x:SV}(hx:cs[i]?=some x):x.names k=false:=by
 simp only[uE,List.any_eq_false] at h
 simpa using h x (List.mem_of_getElem? hx)
theorem app_getG{cs:List SV}{ds:List jZ}{q:Nat}{x:SV}(h:(cs++ds.map .d)[q]?=some x):(q<cs.length∧cs[q]?=some x)∨(cs.length≤q∧∃ d,ds[q-cs.length]?=some d∧x=.d d):=by
 by_cases hq:q<cs.length
 ·rw[List.getElem?_append_left hq] at h;exact .inl ⟨hq,h⟩
 ·rw[List.getElem?_append_right (by omega),List.getElem?_map,Option.map_eq_some_iff] at h
  obtain ⟨d,h1,h2⟩:=h
  exact .inr ⟨by omega,d,h1,h2.symm⟩
section
variable {P:Program} {o:Oper} {st:PS}
end
section
variable {P:Program} {o:Oper} {S:Nat→SV}
theorem app_local{T E t':TypeId}{x y:Operand}{k k' s m bytes:Nat}{zv:List Value}{es':List jZ}{cs:List SV}(ho:o.op=.call { callee:=.builtin .append,args:=#[x,y],argTypes:=#[T,T] })
  (hT:xC P T=some (E,s)) (hz:yM P E=some zv) (hzl:zv.length=s) (hby:gM P E=some bytes) (hx:ev S x=.own k E s m) (hself:uE k' cs=false)
  (hes:cs.length=m*s) (hy:ev S y=.d (.sl t' s es')) (hpos:0<es'.length) (hbig:m+es'.length≤maxLen) (hbig':(m+es'.length)*bytes≤140737488355328) :
  AOk P o S k k' cs (cs++(qJ es').map .d) (.own k' E s (m+es'.length)):=fun a w D β Q hop hblk hdok=>by
 have h1:=hop x (by simp [ho,Op.operands,Call.operands])
 have h2:=hop y (by simp [ho,Op.operands,Call.operands])
 have hβ:∀ (b j:Nat),j≠k'→(β.set k' b) j=β j:=fun b j hj=>by simp [qS.set,hj]
 rw[hx] at h1
 rw[hy] at h2
 obtain ⟨ao,c,us,hyv,hcc,hul,hfl',fY,hrep,had⟩:=iH h2
 obtain ⟨i,z,z1,z2,z3⟩:=aH hz
 obtain ⟨j,f1,f2,f3⟩:=cH hT
 have hij:i=j:=by rw[z1] at f2;injection f2
 subst hij
 have hbi:i.bytes=bytes:=by
  unfold gM at hby
  rw[z1] at hby
  simpa using hby
 subst hbi
 have hzs:z.cells.size=s:=by rw[z3];simpa using hzl
 have hml:(maxLen:Int)≤9223372036854775807:=by decide
 have hfll:(cs++(qJ es').map SV.d).length=(m+es'.length)*s:=by rw[List.length_append,List.length_map,hes,hfl',Nat.add_mul]
 ·obtain ⟨ad,rfl,hcell⟩:=had hpos
  rcases h1 with ⟨hk0,hm,hv⟩ | ⟨b,cap,vs,hkb,hv,eT,hvs,hmc,hcap⟩
  ·subst hm
   have hbytes:es'.length*i.bytes≤281474976710656:=by rw[Nat.zero_add] at hbig';omega
   have hr:=run_append_nil (P:=P) w T o.type E i z f1 z1 z2 ad es'.length c us (by rw[hul,f3]) hcell (by omega) (by omega) hbytes
   have hes0:cs=[]:=List.eq_nil_of_length_eq_zero (by simpa using hes)
   subst hes0
   have hge:=grownCap_ge w es'.length 0 E
   have hcm:=grownCap_le_maxLen w es'.length 0 E (by omega)
   generalize grownCap w es'.length 0 E=G at hr hge hcm
   have mK:Below w.heap.size w (w.drew.alloc (.cells (us.toArray++Builtin.zeroCells z.cells (G-es'.length)) E)):=⟨rfl,rfl,rfl,by simp,fun q hq=>heap_alloc_old w.drew _ hq⟩
   have hblk':vO (w.drew.alloc (.cells (us.toArray++Builtin.zeroCells z.cells (G-es'.length)) E)) D (β.set k' w.heap.size) k' ([]++(qJ es').map .d):=by
    have earr:us.toArray++Builtin.zeroCells z.cells (G-es'.length)=(us++(Builtin.zeroCells z.cells (G-es'.length)).toList).toArray:=by apply Array.ext';simp
    refine app_blkG (b:=w.heap.size) (E:=E) (arr:=us++(Builtin.zeroCells z.cells (G-es'.length)).toList) (by simp [qS.set]) (by rw[← earr];exact heap_alloc_new w.drew _) (by rw[hfll,Nat.zero_add,List.length_append];omega) ?_ (fun t q hq=>Nat.lt_irrefl _ (hdok t _ q hq))
    intro q x hq
    obtain ⟨d,hq2,rfl⟩:∃ d,(qJ es')[q]?=some d∧x=.d d:=by
     rcases app_getG hq with ⟨h1,_⟩ | ⟨_,h2⟩
     ·cases h1
     ·simpa using h2
    have hlt:q<us.length:=by
     have:=(List.getElem?_eq_some_iff.1 hq2).1
     omega
    exact ⟨us[q],by rw[List.getElem?_append_left hlt];simp [hlt],fY _ (by simp),(hrep q us[q] d (by simp [hlt]) hq2).up mK (iD.of_same D) hdok⟩
   have hx':qP (w.drew.alloc (.cells (us.toArray++Builtin.zeroCells z.cells (G-es'.length)) E)) D (β.set k' w.heap.size) (.slice (some ⟨w.heap.size,0,none⟩) es'.length G) (.own k' E s (0+es'.length)):=by
    rw[Nat.zero_add]
    refine .inr ⟨w.heap.size,G,_,by simp [qS.set],rfl,heap_alloc_new w.drew _,?_,hge,hcm⟩
    simp only[Array.size_append,List.size_toArray,size_zeroCells,hzs,hul,← Nat.add_mul]
    congr 1
    omega
   have this:APost a w D β o.dst k k' _ _ _ _:=⟨_,_,rfl,hblk',hx',.inl ⟨mK,Nat.le_refl _,by simp⟩⟩
   unfold Oper.wp execOp
   simp only[ho,resolve,invoke,builtin,Sem.run_bind,Sem.run_pure,Result.andThen_ok,List.map_toArray,List.map_cons,List.map_nil,hv,hyv,hr]
   exact this
  ·have hb4:∃ b' vs' T',β k=some b'∧w.heap[b']?=some (.cells vs' T' (0,0))∧cs.length≤vs'.size∧(∀ (i:Nat) x,cs[i]?=some x→∃ u,vs'[i]?=some u∧u.oneCell'=true∧qP w D β u x)∧∀ t o,¬ D t b' o:=by
    rcases hblk with ⟨e,_⟩ | h
    ·rw[hkb] at e;cases e
    ·exact h
   obtain ⟨b',vs',T',e1,e2,e3,e4,e5⟩:=hb4
   have:b'=b:=by rw[hkb] at e1;injection e1 with e1;exact e1.symm
   subst this
   have:vs'=vs:=by rw[eT] at e2;injection e2 with e2;injection e2 with e2;exact e2.symm
   subst this
   have hle:m*s≤vs'.size:=by rw[hvs];exact Nat.mul_le_mul_right _ hmc
   by_cases hroom:m+es'.length≤cap
   ·have hfit:m*s+us.length≤vs'.size:=by rw[hul,hvs,← Nat.add_mul];exact Nat.mul_le_mul_right _ hroom
    have hr:=run_append_room (P:=P) w T o.type E i f1 z1 b' m cap vs' eT ad es'.length c us (by rw[hul,f3]) hcell fY hroom (by rw[f3];exact hfit)
    rw[f3] at hr
    have hpl:=nU (l:=vs'.toList) (off:=m*s) (new:=us) (by simpa using hfit)
    have hw:=iC w b' (vs'.toList.take (m*s)++us++vs'.toList.drop (m*s+us.length)).toArray (fun vs2 T2 f2 h=>by
     rw[eT] at h
     injection h with h
     injection h with h
     subst h
     have e:patch vs'.toList (m*s) us=vs'.toList.take (m*s)++us++vs'.toList.drop (m*s+us.length):=rfl
     rw[e] at hpl
     simpa using hpl)
    have hheap':=setRow_heap w b' vs' (vs'.toList.take (m*s)++us++vs'.toList.drop (m*s+us.length)).toArray E _ eT
    have hpg:∀ q,(vs'.toList.take (m*s)++us++vs'.toList.drop (m*s+us.length))[q]?=if q<m*s then vs'.toList[q]? else if q<m*s+us.length then us[q-m*s]? else vs'.toList[q]?:=fun q=>mR (by simpa using hfit) q
    have hblk':vO (w.setRow b' (vs'.toList.take (m*s)++us++vs'.toList.drop (m*s+us.length)).toArray) D (β.set k' b') k' (cs++(qJ es').map .d):=by
     refine app_blkG (b:=b') (by simp [qS.set]) hheap' ?_ ?_ e5
     ·have e:patch vs'.toList (m*s) us=vs'.toList.take (m*s)++us++vs'.toList.drop (m*s+us.length):=rfl
      rw[e] at hpl
      rw[hpl,hfll,Nat.add_mul]
      simp only[Array.length_toList]
      omega
     ·intro q x hq
      rw[hpg q]
      rcases app_getG hq with ⟨c1,hq2⟩ | ⟨c1,d,hq2,rfl⟩
      ·rw[hes] at c1
       rw[if_pos c1]
       obtain ⟨u,g1,g2,g3⟩:=e4 q x hq2
       exact ⟨u,by simpa using g1,g2,(hw.repS e5 g3).frame (hβ b') (names_get hself hq2)⟩
      ·rw[hes] at c1 hq2
       have hlt:q-m*s<us.length:=by
        have:=(List.getElem?_eq_some_iff.1 hq2).1
        omega
       rw[if_neg (by omega),if_pos (by omega)]
       exact ⟨us[q-m*s],by simp [hlt],fY _ (by simp),hw.rep e5 (hrep _ _ d (by simp [hlt]) hq2)⟩
    have hx':qP (w.setRow b' (vs'.toList.take (m*s)++us++vs'.toList.drop (m*s+us.length)).toArray) D (β.set k' b') (.slice (some ⟨b',0,none⟩) (m+es'.length) cap) (.own k' E s (m+es'.length)):=by
     refine .inr ⟨b',cap,_,by simp [qS.set],rfl,hheap',?_,hroom,hcap⟩
     have e:patch vs'.toList (m*s) us=vs'.toList.take (m*s)++us++vs'.toList.drop (m*s+us.length):=rfl
     rw[e] at hpl
     simpa [hvs] using hpl
    have this:APost a w D β o.dst k k' _ _ _ _:=⟨_,_,rfl,hblk',hx',.inr ⟨hkb,hw,e5⟩⟩
    unfold Oper.wp execOp
    simp only[ho,resolve,invoke,builtin,Sem.run_bind,Sem.run_pure,Result.andThen_ok,List.map_toArray,List.map_cons,List.map_nil,hv,hyv,hr]
    exact this
   ·have hol:(vs'.toList.take (m*s)).length=m*i.size:=by rw[f3,List.length_take];simp;omega
    have holds:∀ q u,(vs'.toList.take (m*s))[q]?=some u→w.cell? ((⟨b',0,none⟩:Addr).add q)=some u:=fun q u hq=>by
     rw[Addr.add_lit,Nat.zero_add,cell_of_row w b' q vs' E (0,0) eT]
     rw[List.getElem?_take] at hq
     split at hq
     ·simpa using hq
     ·cases hq
    have hr:=run_append_grow (P:=P) w T o.type E i z f1 z1 z2 ⟨b',0,none⟩ m cap (vs'.toList.take (m*s)) hol holds ad es'.length c us (by rw[hul,f3]) hcell (by omega) (by omega) (growslice_fits (by omega) hbig')
    have hge:=grownCap_ge w (m+es'.length) cap E
    have hcm:=grownCap_le_maxLen w (m+es'.length) cap E (by omega)
    generalize grownCap w (m+es'.length) cap E=G at hr hge hcm
    have mK:Below w.heap.size w (w.drew.alloc (.cells ((vs'.toList.take (m*s)).toArray++us.toArray++Builtin.zeroCells z.cells (G-(m+es'.length))) E)):=⟨rfl,rfl,rfl,by simp,fun q hq=>heap_alloc_old w.drew _ hq⟩
    have hblk':vO (w.drew.alloc (.cells ((vs'.toList.take (m*s)).toArray++us.toArray++Builtin.zeroCells z.cells (G-(m+es'.length))) E)) D (β.set k' w.heap.size) k' (cs++(qJ es').map .d):=by
     have earr:(vs'.toList.take (m*s)).toArray++us.toArray++Builtin.zeroCells z.cells (G-(m+es'.length))=(vs'.toList.take (m*s)++us++(Builtin.zeroCells z.cells (G-(m+es'.length))).toList).toArray:=by apply Array.ext';simp
     rw[f3] at hol
     refine app_blkG (b:=w.heap.size) (E:=E) (by simp [qS.set]) (by rw[← earr];exact heap_alloc_new w.drew _) (by rw[hfll,List.length_append,List.length_append,hol,Nat.add_mul];omega) ?_ (fun t q hq=>Nat.lt_irrefl _ (hdok t _ q hq))
     intro q x hq
     rcases app_getG hq with ⟨c1,hq2⟩ | ⟨c1,d,hq2,rfl⟩
     ·rw[hes] at c1
      obtain ⟨u,g1,g2,g3⟩:=e4 q x hq2
      refine ⟨u,?_,g2,(g3.up mK (iD.of_same D) hdok).frame (fun j hj=>by simp [qS.set,hj]) (names_get hself hq2)⟩
      rw[List.append_assoc,List.getElem?_append_left (by omega),List.getElem?_take,if_pos c1]
      simpa using g1
     ·rw[hes] at c1 hq2
      have hlt:q-m*s<us.length:=by
       have:=(List.getElem?_eq_some_iff.1 hq2).1
       omega
      refine ⟨us[q-m*s],?_,fY _ (by simp),(hrep _ _ d (by simp [hlt]) hq2).up mK (iD.of_same D) hdok⟩
      rw[List.append_assoc,List.getElem?_append_right (by omega),hol,List.getElem?_append_left hlt]
      simp [hlt]
    have hx':qP (w.drew.alloc (.cells ((vs'.toList.take (m*s)).toArray++us.toArray++Builtin.zeroCells z.cells (G-(m+es'.length))) E)) D (β.set k' w.heap.size) (.slice (some ⟨w.heap.size,0,none⟩) (m+es'.length) G) (.own k' E s (m+es'.length)):=by
     refine .inr ⟨w.heap.size,G,_,by simp [qS.set],rfl,heap_alloc_new w.drew _,?_,hge,hcm⟩
     rw[f3] at hol
     simp only[Array.size_append,List.size_toArray,size_zeroCells,hzs,hul,hol,← Nat.add_mul]
     congr 1
     omega
    have this:APost a w D β o.dst k k' _ _ _ _:=⟨_,_,rfl,hblk',hx',.inl ⟨mK,Nat.le_refl _,by simp⟩⟩
    unfold Oper.wp execOp
    simp only[ho,resolve,invoke,builtin,Sem.run_bind,Sem.run_pure,Result.andThen_ok,List.map_toArray,List.map_cons,List.map_nil,hv,hyv,hr]
    exact this
end
section
variable {P:Program} {o:Oper} {S:SL}
theorem xO{st:PS}{j k s m:Nat}{T:TypeId}{pre post cs:List SV}{es:List jZ}(hj:kN st.bs j=some (pre++.own k T s m::post))(hjk:k≠j)(hb:kN st.bs k=some cs)(hes:∀ e∈es,e.cells.length=s)(hl:es.length=m)(hc:cs.take (m*s)=(qJ es).map .d) :
  xU st ⟨st.sl,(j,some (pre++.d (.sl T s es)::post))::(k,none)::st.bs⟩:=fun C a w ⟨D,β,h⟩=>by
 obtain ⟨D',h',hown⟩:=publish_core (T:=T) h hb hes hl hc
 have hj2:kN ((k,none)::st.bs) j=some (pre++.own k T s m::post):=by rw[jR,if_neg hjk];exact hj
 have conv:∀ {i c},kN ((j,some (pre++SV.d (.sl T s es)::post))::(k,none)::st.bs) i=some c→∃ c',kN ((k,none)::st.bs) i=some c':=fun {i c} hi=>by
  rw[jR] at hi
  split at hi
  ·rename_i e;subst e;exact ⟨_,hj2⟩
  ·exact ⟨c,hi⟩
 refine ⟨D',β,h'.base,⟨fun i c hi=>?_,fun i1 i2 c1 c2 q1 q2=>?_⟩,fun i c hi=>?_,h'.slots⟩
 ·rw[jR] at hi
  split at hi
  ·rename_i e;subst e
   injection hi with hi;subst hi
   rcases h'.mem.ok j _ hj2 with ⟨_,q⟩ | ⟨b,vs,T2,q1,q2,q3,q4,q5⟩
   ·simp at q
   ·refine .inr ⟨b,vs,T2,q1,q2,by simpa using q3,fun i x hx=>?_,q5⟩
    by_cases h1:i<pre.length
    ·rw[List.getElem?_append_left h1] at hx
     exact q4 i x (by rw[List.getElem?_append_left h1];exact hx)
    ·rw[List.getElem?_append_right (by omega)] at hx
     cases hq:i-pre.length with
     |zero=>
      rw[hq] at hx
      simp at hx
      subst hx
      obtain ⟨u,e1,e2,e3⟩:=q4 i (.own k T s m) (by rw[List.getElem?_append_right (by omega),hq];rfl)
      exact ⟨u,e1,e2,hown u D' e3⟩
     |succ q=>
      rw[hq] at hx
      exact q4 i x (by rw[List.getElem?_append_right (by omega),hq];simpa using hx)
  ·exact h'.mem.ok i c hi
 ·obtain ⟨d1,g1⟩:=conv q1
  obtain ⟨d2,g2⟩:=conv q2
  exact h'.mem.inj i1 i2 d1 d2 g1 g2
 ·obtain ⟨d,g⟩:=conv hi
  exact h'.high i d g
end
theorem ownCell{S:SL}{B:BS}{j:Nat}{cs:List SV}(i k E s:Nat)(hj:kN B j=some cs)(hi:cs[i]?=some (.d (.val (.slice none 0 0))))(hf:nB k ⟨S,B⟩=true) :
  xU ⟨S,B⟩ ⟨S,(j,some (cs.set i (.own k E s 0)))::(k,some [])::B⟩:=fun C a w ⟨D,β,hs⟩=>by
 have hβ:∀ q,q≠k→(fun q=>if q=k then none else β q:qS) q=β q:=fun q hq=>by simp [hq]
 have hβ0:(fun q=>if q=k then none else β q:qS) k=none:=by simp
 generalize (fun q=>if q=k then none else β q:qS)=β' at hβ hβ0
 obtain ⟨hjk,hnm⟩:=aY hf hj
 have conv:∀ {q c},q≠k→kN ((j,some (cs.set i (SV.own k E s 0)))::(k,some [])::B) q=some c→∃ c',kN B q=some c':=fun {q c} hne hq=>by
  rw[jR] at hq
  split at hq
  ·rename_i e;subst e;exact ⟨_,hj⟩
  ·rw[jR,if_neg (fun e=>hne e.symm)] at hq;exact ⟨_,hq⟩
 refine ⟨D,β',hs.base,⟨fun q c hq=>?_,fun i1 i2 c1 c2 q1 q2 b e1 e2=>?_⟩,fun q c hq b e=>?_,fun t=>(hs.slots t).frame hβ (bX hf t)⟩
 ·rw[jR] at hq
  split at hq
  ·rename_i e;subst e
   injection hq with hq;subst hq
   rcases hs.mem.ok _ cs hj with ⟨h1,h2⟩ | ⟨b,vs,T,h1,h2,h3,h4,h5⟩
   ·rw[h2] at hi;simp at hi
   ·refine .inr ⟨b,vs,T,(hβ _ hjk).trans h1,h2,by simpa using h3,fun q x hx=>?_,h5⟩
    rw[List.getElem?_set] at hx
    split at hx
    ·rename_i e;subst e
     split at hx
     ·injection hx with hx;subst hx
      obtain ⟨u,e1,e2,e3⟩:=h4 i _ hi
      exact ⟨u,e1,e2,.inl ⟨hβ0,rfl,xQ e3⟩⟩
     ·cases hx
    ·obtain ⟨u,e1,e2,e3⟩:=h4 q x hx
     exact ⟨u,e1,e2,e3.frame hβ (names_get hnm hx)⟩
  ·rw[jR] at hq
   split at hq
   ·rename_i e;subst e
    injection hq with hq;subst hq
    exact .inl ⟨hβ0,rfl⟩
   ·obtain ⟨g1,g2⟩:=aY hf hq
    exact (hs.mem.ok q c hq).frame hβ g1 g2
 ·have n1:i1≠k:=fun e=>by rw[e,hβ0] at e1;cases e1
  have n2:i2≠k:=fun e=>by rw[e,hβ0] at e2;cases e2
  obtain ⟨d1,g1⟩:=conv n1 q1
  obtain ⟨d2,g2⟩:=conv n2 q2
  exact hs.mem.inj i1 i2 d1 d2 g1 g2 b ((hβ _ n1).symm.trans e1) ((hβ _ n2).symm.trans e2)
 ·have n1:q≠k:=fun e'=>by rw[e',hβ0] at e;cases e
  obtain ⟨d,g⟩:=conv n1 hq
  exact hs.high q d g b ((hβ _ n1).symm.trans e)
theorem yG{P:Program}{n:Fr}{c:Code}{Q:Exit→PS→Prop}{S:SL}{B:BS}(j i k E s:Nat){cs:List SV}(hj:kN B j=some cs:=by kernel_rfl)(hi:cs[i]?=some (.d (.val (.slice none 0 0))):=by kernel_rfl)(h1:(S.all fun p=>!p.2.names k)=true:=by kernel_rfl)
  (h2:FrB k B:=by repeat first | exact frb_nil _ | refine frb_map rfl ?_ | refine frb_d rfl ?_ | refine frb_cs rfl rfl ?_ | refine frb_none rfl ?_) (h:qM P n c Q ⟨S,(j,some (cs.set i (.own k E s 0)))::(k,some [])::B⟩):qM P n c Q ⟨S,B⟩ :=
 jV (ownCell i k E s hj hi (freshB_of h1 h2)) h
section
variable {P:Program} {n:Fr} {ops:Array Oper} {K:SL→BS→Prop} {S:SL} {B:BS} {l:List Oper} {o:Oper} {α:Type} {T E t':TypeId} {x y:Operand} {k s m bytes:Nat} {zv:List Value}
theorem oSx{k j E s N off:Nat}{old:List SV}(hs:uF P T=some (false,1))(ho:o.op=.store T x y:=by exact rfl)(hx:ev (kY S) x=.ref k off:=by exact rfl)(hy:ev (kY S) y=.own j E s N:=by exact rfl)(hb:kN B k=some old:=by exact rfl)(hle:Nat.ble (off+1) old.length=true:=by kernel_rfl):TK P o S B k (patch old off [.own j E s N]) :=
 ⟨_,t_store ho hx hy hs (.inr ⟨⟨j,E,s,N,rfl⟩,rfl⟩) rfl (Nat.le_of_ble_eq_true hle),hb⟩
variable {news:List Nat} {acc0:List (List Nat × List Nat)}
end
def swN(k k' j:Nat):Nat:=bif Nat.beq j k then k' else j
def SV.sw(k k':Nat):SV→SV
 |.ref j o=>.ref (swN k k' j) o
 |.own j t s n=>.own (swN k k' j) t s n
 |.view j o n=>.view (swN k k' j) o n
 |.clo f ks=>.clo f (ks.map (swN k k'))
 |.pr j t s n x=>.pr (swN k k' j) t s n x
 |.refx j o b=>.refx (swN k k' j) o b
 |.bnd f j o=>.bnd f (swN k k' j) o
 |.ownx j t s n u=>.ownx (swN k k' j) t s n u
 |x=>x
theorem swN_eq(k k':Nat):swN k k' k=k':=by simp [swN]
theorem swN_ne{k k' j:Nat}(h:j≠k):swN k k' j=j:=by
 have:Nat.beq j k=false:=by rw[← Bool.not_eq_true];exact fun e=>h (Nat.eq_of_beq_eq_true e)
 simp [swN,this]
theorem qP.sw{w:World}{D:qZ}{β:qS}{k k':Nat}{v:Value}{x:SV}(h:qP w D β v (x.sw k k')):qP w D (fun j=>β (swN k k' j)) v x:=by
 cases x with
 |d x=>exact h
 |ref j o=>exact h
 |own j t s n=>exact h
 |clo f ks=>
  obtain ⟨vs,h1,h2,h3⟩:=h
  exact ⟨vs,h1,by simpa using h2,fun i j hj=>h3 i (swN k k' j) (by rw[List.getElem?_map,hj];rfl)⟩
 |emp=>exact h
 |view j o n=>exact h
 |hob u b ob=>exact h
 |pr j t s n x=>exact h
 |refx j o b=>exact h
 |bnd f j o=>exact h
 |ownx j t s n u=>exact h
 |junk=>trivial
theorem sw_of{k k':Nat}{x:SV}(h:x.names k=false):x.sw k k'=x:=by
 have key:∀ j,Nat.beq k j=false→swN k k' j=j:=fun j hj=>swN_ne (fun e=>by subst e;simp at hj)
 cases x with
 |ref j o=>simp only[SV.sw];rw[key j h]
 |own j t s n=>simp only[SV.sw];rw[key j h]
 |view j o n=>simp only[SV.sw];rw[key j h]
 |clo f ks=>
  simp only[SV.sw]
  simp only[SV.names,List.any_eq_false] at h
  have:ks.map (swN k k')=ks:=by
   conv=>rhs;rw[← List.map_id ks]
   exact List.map_congr_left fun j hj=>key j (by rw[← Bool.not_eq_true];exact h j hj)
  rw[this]
 |d x=>rfl
 |emp=>rfl
 |hob u b ob=>rfl
 |pr j t s n x=>simp only[SV.sw];rw[key j h]
 |refx j o b=>simp only[SV.sw];rw[key j h]
 |bnd f j o=>simp only[SV.sw];rw[key j h]
 |ownx j t s n u=>simp only[SV.sw];rw[key j h]
 |junk=>rfl
section
variable {P:Program}
end
section
variable {P:Program} {o:Oper} {S:Nat→SV}
end
section
variable {P:Program}
end
section
variable {P:Program} {o:Oper} {S:Nat→SV}
end
section
variable {P:Program} {n:Fr} {ops:Array Oper} {K:SL→BS→Prop} {S S0 S1:SL} {B B0 B1:BS} {l:List Oper} {o:Oper} {D:SL}
theorem zOh(k E s:Nat)(r:SK P n ops K ((dO o,.own k E s 0)::S) ((k,some [])::B) l)(h:nilK o=true:=by kernel_rfl)(g:goK n ops S o=true:=by kernel_rfl)(h1:(S.all fun p=>!p.2.names k)=true:=by kernel_rfl)
  (h2:FrB k B:=by repeat first | exact frb_nil _ | refine frb_map rfl ?_ | refine frb_d rfl ?_ | refine frb_cs rfl rfl ?_ | refine frb_none rfl ?_):SK P n ops K S B (o::l):=zO k E s r h g (freshB_of h1 h2)
end
def swJ(k k' J j:Nat)(c:List SV):List SV:=bif Nat.beq j J then c.map (SV.sw k k') else c
theorem nP{S S':SL}{B B':BS}(k k' J:Nat)(h1:S'.map (fun p=>kY S p.1)=S'.map (fun p=>p.2.sw k k'):=by kernel_rfl)(h2:B'.map (fun p=>kN B (swN k k' p.1))=B'.map (fun p=>p.2.map (swJ k k' J p.1)):=by kernel_rfl)(h3:(B'.all fun p=>!(Nat.beq p.1 k'))=true:=by kernel_rfl)
  (h4:Clr k ((k,none)::B):=by repeat first | exact clr_nil _ | refine clr_self ?_ | refine clr_map ?_ | refine clr_none ?_ | refine clr_bx ?_ | refine clr_d ?_ | refine clr_cons rfl ?_) (h5:kN B k=none:=by kernel_rfl):xU ⟨S,B⟩ ⟨S',B'⟩:=fun C a w ⟨D,β,hs⟩=>by
 have hget:∀ {l:BS},(l.map (fun p=>kN B (swN k k' p.1))=l.map (fun p=>p.2.map (swJ k k' J p.1)))→∀ {j c},kN l j=some c→kN B (swN k k' j)=some (swJ k k' J j c):=by
  intro l
  induction l with
  |nil=>intro _ j c h;simp [kN] at h
  |cons p l ih=>
   intro hl j c hj
   obtain ⟨q,y⟩:=p
   simp only[List.map_cons,List.cons.injEq] at hl
   rw[jR] at hj
   split at hj
   ·rename_i e;subst e;subst hj;rw[hl.1];rfl
   ·exact ih hl.2 hj
 have hkey:∀ {l:BS},((l.all fun p=>!(Nat.beq p.1 k'))=true)→∀ {j c},kN l j=some c→j≠k':=by
  intro l
  induction l with
  |nil=>intro _ j c h;simp [kN] at h
  |cons p l ih=>
   intro hl j c hj e
   obtain ⟨q,y⟩:=p
   simp only[List.all_cons,Bool.and_eq_true,Bool.not_eq_true'] at hl
   rw[jR] at hj
   split at hj
   ·rename_i e2;subst e2;subst e;simp at hl
   ·exact ih hl.2 hj e
 have hnk:∀ {j c},kN B j=some c→j≠k∧uE k c=false:=fun {j c} hj=>by
  have hne:j≠k:=fun e=>by subst e;rw[h5] at hj;cases hj
  exact ⟨hne,h4 j c hne (by rw[jR,if_neg (fun e=>hne e.symm)];exact hj)⟩
 have hsl:∀ {l:SL},(l.map (fun p=>kY S p.1)=l.map (fun p=>p.2.sw k k'))→∀ t,kY l t=.junk∨kY S t=(kY l t).sw k k':=by
  intro l
  induction l with
  |nil=>intro _ t;exact .inl rfl
  |cons p l ih=>
   intro hl t
   obtain ⟨q,y⟩:=p
   simp only[List.map_cons,List.cons.injEq] at hl
   rw[uZ]
   split
   ·rename_i e;subst e;exact .inr hl.1
   ·exact ih hl.2 t
 refine ⟨D,fun j=>β (swN k k' j),hs.base,⟨fun j c hj=>?_,fun j1 j2 c1 c2 q1 q2 b e1 e2=>?_⟩,fun j c hj b hb=>hs.high _ _ (hget h2 hj) b hb,fun t=>?_⟩
 ·have hc:=hget h2 hj
  obtain ⟨_,hn⟩:=hnk hc
  rcases hs.mem.ok _ _ hc with ⟨h,h'⟩ | ⟨b,vs,T,g1,g2,g3,g4,g5⟩
  ·refine .inl ⟨h,?_⟩
   unfold swJ at h'
   cases hJ:Nat.beq j J with
   |true=>rw[hJ,cond_true,List.map_eq_nil_iff] at h';exact h'
   |false=>rw[hJ,cond_false] at h';exact h'
  ·unfold swJ at hn g3 g4
   cases hJ:Nat.beq j J with
   |true=>
    rw[hJ,cond_true] at g3 g4
    refine .inr ⟨b,vs,T,g1,g2,by simpa using g3,fun i x hi=>?_,g5⟩
    obtain ⟨u,e1,e2,e3⟩:=g4 i (x.sw k k') (by rw[List.getElem?_map,hi];rfl)
    exact ⟨u,e1,e2,qP.sw e3⟩
   |false=>
    rw[hJ,cond_false] at hn g3 g4
    refine .inr ⟨b,vs,T,g1,g2,g3,fun i x hi=>?_,g5⟩
    obtain ⟨u,e1,e2,e3⟩:=g4 i x hi
    exact ⟨u,e1,e2,qP.sw (by rw[sw_of (names_get hn hi)];exact e3)⟩
 ·have:=hs.mem.inj _ _ _ _ (hget h2 q1) (hget h2 q2) b e1 e2
  have n1:=hkey h3 q1
  have n2:=hkey h3 q2
  by_cases g1:j1=k<;>by_cases g2:j2=k
  ·omega
  ·subst g1;rw[swN_eq,swN_ne g2] at this;omega
  ·subst g2;rw[swN_eq,swN_ne g1] at this;omega
  ·rw[swN_ne g1,swN_ne g2] at this;exact this
 ·show qP w D _ _ (kY S' t)
  rcases hsl h1 t with h | h
  ·rw[h];trivial
  ·have:=hs.slots t
   dsimp only at this
   rw[h] at this
   exact this.sw
section
variable {P:Program} {S:SL} {B:BS} {o:Oper} {x y:Operand} {k:Nat} {T:TypeId}
end
section
variable {P:Program} {o:Oper}
theorem oQd{S:Nat→SV}{z:SV}(d d2:jZ)(h:vR P o S [] z)(e:d=d2)(e0:z=.d d:=by kernel_rfl):vR P o S [] (.d d2):=e▸e0▸h
theorem aT{S:SL}{B:BS}{k:Nat}{z:SV}(d d2:jZ)(h:ROk P o S B k z)(e:d=d2)(e0:z=.d d:=by kernel_rfl):ROk P o S B k (.d d2):=e▸e0▸h
end
end Go.Fid
