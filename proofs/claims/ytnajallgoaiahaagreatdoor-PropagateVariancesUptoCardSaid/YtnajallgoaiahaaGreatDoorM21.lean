/- Part 21 of a proof: rules, plain facts, and functions walked. -/
import Derived.Test.YtnajallgoaiahaaGreatDoorM20
set_option linter.all false
namespace Go.Fid
open Go.RowKit (Below)
theorem bF{w:World}{D:qN}{β:qH}{b:Nat}{arr:List Value}{E:TypeId}{k:Nat}{cs:List SV}(hkb:β k=some b)(mO:w.heap[b]?=some (.cells arr.toArray E (0,0)))(uA:cs.length≤arr.length)
  (h:∀ (i:Nat) x,cs[i]?=some x→∃ u,arr[i]?=some u∧u.oneCell'=true∧qF w D β u x) (hp:∀ t o,¬ D t b o):uZ w D β k cs:=by
 refine .inr ⟨b,arr.toArray,E,hkb,mO,by simpa using uA,fun i x hx=>?_,hp⟩
 obtain ⟨u,e1,e2,e3⟩:=h i x hx
 exact ⟨u,by simpa using e1,e2,e3⟩
theorem bW{k:Nat}{cs:List SV}(h:qL k cs=false){i:Nat}{x:SV}(hx:cs[i]?=some x):x.names k=false:=by
 simp only[qL,List.any_eq_false] at h
 simpa using h x (List.mem_of_getElem? hx)
theorem bL{cs:List SV}{ds:List jX}{q:Nat}{x:SV}(h:(cs++ds.map .d)[q]?=some x):(q<cs.length∧cs[q]?=some x)∨(cs.length≤q∧∃ d,ds[q-cs.length]?=some d∧x=.d d):=by
 by_cases hq:q<cs.length
 ·rw[List.getElem?_append_left hq] at h;exact .inl ⟨hq,h⟩
 ·rw[List.getElem?_append_right (by omega),List.getElem?_map,Option.map_eq_some_iff] at h
  obtain ⟨d,h1,h2⟩:=h
  exact .inr ⟨by omega,d,h1,h2.symm⟩
section
variable {P:Program} {o:Oper} {st:PS}
theorem app_soundG{T E t':TypeId}{x y:Operand}{k s m bytes:Nat}{zv:List Value}{es':List jX}{cs:List SV}{N:Fr}(ho:o.op=.call { callee:=.builtin .append,args:=#[x,y],argTypes:=#[T,T] })
  (hd:nB N o.dst=true) (hT:vM P T=some (E,s)) (hz:yE P E=some zv) (hzl:zv.length=s) (hby:yL P E=some bytes) (hx:ev (kJ st.sl) x=.own k E s m) (hb:kD st.bs k=some cs) (hself:qL k cs=false)
  (hes:cs.length=m*s) (hy:ev (kJ st.sl) y=.d (.sl t' s es')) (hbig:m+es'.length≤maxLen) (hbig':(m+es'.length)*bytes≤140737488355328) (hB:∀ j c,j≠k→kD st.bs j=some c→qL k c=false)
  (C:bI) (a:Act) (w:World) (Q:Exit→Act→World→Prop) (hn:C.n=N) (hs:cX C a w st) :
  o.wp P a w (fun a' w'=>cX C a' w' ⟨fH o.dst (.own k E s (m+es'.length)) (nT k st.sl),(k,some (cs++(qE es').map .d))::st.bs⟩) Q:=by
 obtain ⟨D,β,hs⟩:=hs
 subst hn
 have hev:∀ q:Operand,qF w D β (a.eval q) (ev (kJ st.sl) q):=fun q=>by
  cases q with
  |tmp t=>exact hs.slots t
  |const v=>exact vI.val v
  |func f=>exact vI.val _
  |global g=>trivial
 have h1:=hev x
 have h2:=hev y
 rw[hx] at h1
 rw[hy] at h2
 obtain ⟨ao,c,us,hyv,hcc,hul,hfl',dB,hrep,had⟩:=fN h2
 obtain ⟨i,z,z1,z2,z3⟩:=fO hz
 obtain ⟨j,f1,f2,f3⟩:=mQ hT
 have hij:i=j:=by rw[z1] at f2;injection f2
 subst hij
 have hbi:i.bytes=bytes:=by
  unfold yL at hby
  rw[z1] at hby
  simpa using hby
 subst hbi
 have hzs:z.cells.size=s:=by rw[z3];simpa using hzl
 have hml:(maxLen:Int)≤9223372036854775807:=by decide
 have hblk:=hs.mem.ok k _ hb
 have hfll:(cs++(qE es').map SV.d).length=(m+es'.length)*s:=by rw[List.length_append,List.length_map,hes,hfl',Nat.add_mul]
 by_cases hm0:es'.length=0
 ·have hnil:es'=[]:=List.eq_nil_of_length_eq_zero hm0
  subst hnil
  have hrun:(Builtin.append_ #[T,T] o.type #[a.eval x,a.eval y]).run P w=.ok (a.eval x) w:=by
   rw[hyv]
   have e0:([]:List jX).length=0:=rfl
   have hu0:us=[]:=List.eq_nil_of_length_eq_zero (by simpa using hul)
   rcases h1 with ⟨_,_,hv⟩ | ⟨b,cap,vs,_,hv,mO,_,hmc,_⟩
   ·rw[hv,e0]
    cases ao with
    |none=>simp [Builtin.append_,run_underlying f1,sizeOf,typeInfo,z1,Builtin.lenOf,Builtin.firstCells]
    |some ad=>simp [Builtin.append_,run_underlying f1,sizeOf,typeInfo,z1,Builtin.lenOf,Builtin.firstCells,loadCells,loadCellsFrom]
   ·rw[hv,e0]
    cases ao with
    |none=>simp [Builtin.append_,run_underlying f1,sizeOf,typeInfo,z1,Builtin.lenOf,Builtin.firstCells,hmc,storeCells]
    |some ad=>simp [Builtin.append_,run_underlying f1,sizeOf,typeInfo,z1,Builtin.lenOf,Builtin.firstCells,hmc,storeCells,loadCells,loadCellsFrom]
  have hx':qF w D β (a.eval x) (.own k E s (m+([]:List jX).length)):=h1
  have:=grew_same (dst:=o.dst) (cs:=cs++(qE []).map .d) (k:=k) hs hd (by simpa [qE] using hblk) ⟨_,hb⟩ hx'
  unfold Oper.wp execOp
  simp only[ho,resolve,invoke,builtin,Sem.run_bind,Sem.run_pure,Result.andThen_ok,List.map_toArray,List.map_cons,List.map_nil,hrun]
  exact this
 ·obtain ⟨ad,rfl,hcell⟩:=had (by omega)
  rcases h1 with ⟨hk0,hm,hv⟩ | ⟨b,cap,vs,hkb,hv,mO,hvs,hmc,hcap⟩
  ·subst hm
   have hbytes:es'.length*i.bytes≤281474976710656:=by rw[Nat.zero_add] at hbig';omega
   have hr:=run_append_nil (P:=P) w T o.type E i z f1 z1 z2 ad es'.length c us (by rw[hul,f3]) hcell (by omega) (by omega) hbytes
   have hes0:cs=[]:=List.eq_nil_of_length_eq_zero (by simpa using hes)
   subst hes0
   have hge:=grownCap_ge w es'.length 0 E
   have hcm:=grownCap_le_maxLen w es'.length 0 E (by omega)
   generalize grownCap w es'.length 0 E=G at hr hge hcm
   have nD:Below w.heap.size w (w.drew.alloc (.cells (us.toArray++Builtin.zeroCells z.cells (G-es'.length)) E)):=⟨rfl,rfl,rfl,by simp,fun q hq=>heap_alloc_old w.drew _ hq⟩
   have hblk':uZ (w.drew.alloc (.cells (us.toArray++Builtin.zeroCells z.cells (G-es'.length)) E)) D (β.set k w.heap.size) k ([]++(qE es').map .d):=by
    have earr:us.toArray++Builtin.zeroCells z.cells (G-es'.length)=(us++(Builtin.zeroCells z.cells (G-es'.length)).toList).toArray:=by apply Array.ext';simp
    refine bF (b:=w.heap.size) (E:=E) (arr:=us++(Builtin.zeroCells z.cells (G-es'.length)).toList) (by simp [qH.set]) (by rw[← earr];exact heap_alloc_new w.drew _) (by rw[hfll,Nat.zero_add,List.length_append];omega) ?_ (fun t q hq=>Nat.lt_irrefl _ (hs.base.dok t _ q hq))
    intro q x hq
    obtain ⟨d,hq2,rfl⟩:∃ d,(qE es')[q]?=some d∧x=.d d:=by
     rcases bL hq with ⟨h1,_⟩ | ⟨_,h2⟩
     ·cases h1
     ·simpa using h2
    have hlt:q<us.length:=by
     have:=(List.getElem?_eq_some_iff.1 hq2).1
     omega
    exact ⟨us[q],by rw[List.getElem?_append_left hlt];simp [hlt],dB _ (by simp),(hrep q us[q] d (by simp [hlt]) hq2).up nD (bE.of_same D) hs.base.dok⟩
   have hx':qF (w.drew.alloc (.cells (us.toArray++Builtin.zeroCells z.cells (G-es'.length)) E)) D (β.set k w.heap.size) (.slice (some ⟨w.heap.size,0,none⟩) es'.length G) (.own k E s (0+es'.length)):=by
    rw[Nat.zero_add]
    refine .inr ⟨w.heap.size,G,_,by simp [qH.set],rfl,heap_alloc_new w.drew _,?_,hge,hcm⟩
    simp only[Array.size_append,List.size_toArray,size_zeroCells,hzs,hul,← Nat.add_mul]
    congr 1
    omega
   have:=grew_new (dst:=o.dst) hs nD (Nat.le_refl _) hd hB hblk' hx'
   unfold Oper.wp execOp
   simp only[ho,resolve,invoke,builtin,Sem.run_bind,Sem.run_pure,Result.andThen_ok,List.map_toArray,List.map_cons,List.map_nil,hv,hyv,hr]
   exact this
  ·have hb4:∃ b' vs' T',β k=some b'∧w.heap[b']?=some (.cells vs' T' (0,0))∧cs.length≤vs'.size∧(∀ (i:Nat) x,cs[i]?=some x→∃ u,vs'[i]?=some u∧u.oneCell'=true∧qF w D β u x)∧∀ t o,¬ D t b' o:=by
    rcases hblk with ⟨e,_⟩ | h
    ·rw[hkb] at e;cases e
    ·exact h
   obtain ⟨b',vs',T',e1,e2,e3,e4,e5⟩:=hb4
   have:b'=b:=by rw[hkb] at e1;injection e1 with e1;exact e1.symm
   subst this
   have:vs'=vs:=by rw[mO] at e2;injection e2 with e2;injection e2 with e2;exact e2.symm
   subst this
   have hle:m*s≤vs'.size:=by rw[hvs];exact Nat.mul_le_mul_right _ hmc
   by_cases hroom:m+es'.length≤cap
   ·have hfit:m*s+us.length≤vs'.size:=by rw[hul,hvs,← Nat.add_mul];exact Nat.mul_le_mul_right _ hroom
    have hr:=run_append_room (P:=P) w T o.type E i f1 z1 b' m cap vs' mO ad es'.length c us (by rw[hul,f3]) hcell dB hroom (by rw[f3];exact hfit)
    rw[f3] at hr
    have hpl:=hP (l:=vs'.toList) (off:=m*s) (new:=us) (by simpa using hfit)
    have hw:=fM w b' (vs'.toList.take (m*s)++us++vs'.toList.drop (m*s+us.length)).toArray (fun vs2 T2 f2 h=>by
     rw[mO] at h
     injection h with h
     injection h with h
     subst h
     have e:patch vs'.toList (m*s) us=vs'.toList.take (m*s)++us++vs'.toList.drop (m*s+us.length):=rfl
     rw[e] at hpl
     simpa using hpl)
    have hheap':=setRow_heap w b' vs' (vs'.toList.take (m*s)++us++vs'.toList.drop (m*s+us.length)).toArray E _ mO
    have hpg:∀ q,(vs'.toList.take (m*s)++us++vs'.toList.drop (m*s+us.length))[q]?=if q<m*s then vs'.toList[q]? else if q<m*s+us.length then us[q-m*s]? else vs'.toList[q]?:=fun q=>nM (by simpa using hfit) q
    have hblk':uZ (w.setRow b' (vs'.toList.take (m*s)++us++vs'.toList.drop (m*s+us.length)).toArray) D β k (cs++(qE es').map .d):=by
     refine bF hkb hheap' ?_ ?_ e5
     ·have e:patch vs'.toList (m*s) us=vs'.toList.take (m*s)++us++vs'.toList.drop (m*s+us.length):=rfl
      rw[e] at hpl
      rw[hpl,hfll,Nat.add_mul]
      simp only[Array.length_toList]
      omega
     ·intro q x hq
      rw[hpg q]
      rcases bL hq with ⟨c1,hq2⟩ | ⟨c1,d,hq2,rfl⟩
      ·rw[hes] at c1
       rw[if_pos c1]
       obtain ⟨u,g1,g2,g3⟩:=e4 q x hq2
       exact ⟨u,by simpa using g1,g2,hw.repS e5 g3⟩
      ·rw[hes] at c1 hq2
       have hlt:q-m*s<us.length:=by
        have:=(List.getElem?_eq_some_iff.1 hq2).1
        omega
       rw[if_neg (by omega),if_pos (by omega)]
       exact ⟨us[q-m*s],by simp [hlt],dB _ (by simp),hw.rep e5 (hrep _ _ d (by simp [hlt]) hq2)⟩
    have hx':qF (w.setRow b' (vs'.toList.take (m*s)++us++vs'.toList.drop (m*s+us.length)).toArray) D β (.slice (some ⟨b',0,none⟩) (m+es'.length) cap) (.own k E s (m+es'.length)):=by
     refine .inr ⟨b',cap,_,hkb,rfl,hheap',?_,hroom,hcap⟩
     have e:patch vs'.toList (m*s) us=vs'.toList.take (m*s)++us++vs'.toList.drop (m*s+us.length):=rfl
     rw[e] at hpl
     simpa [hvs] using hpl
    have:=grew_room (dst:=o.dst) hs hw hkb e5 hb hd hblk' hx'
    unfold Oper.wp execOp
    simp only[ho,resolve,invoke,builtin,Sem.run_bind,Sem.run_pure,Result.andThen_ok,List.map_toArray,List.map_cons,List.map_nil,hv,hyv,hr]
    exact this
   ·have hol:(vs'.toList.take (m*s)).length=m*i.size:=by rw[f3,List.length_take];simp;omega
    have holds:∀ q u,(vs'.toList.take (m*s))[q]?=some u→w.cell? ((⟨b',0,none⟩:Addr).add q)=some u:=fun q u hq=>by
     rw[Addr.add_lit,Nat.zero_add,cell_of_row w b' q vs' E (0,0) mO]
     rw[List.getElem?_take] at hq
     split at hq
     ·simpa using hq
     ·cases hq
    have hr:=run_append_grow (P:=P) w T o.type E i z f1 z1 z2 ⟨b',0,none⟩ m cap (vs'.toList.take (m*s)) hol holds ad es'.length c us (by rw[hul,f3]) hcell (by omega) (by omega) (growslice_fits (by omega) hbig')
    have hge:=grownCap_ge w (m+es'.length) cap E
    have hcm:=grownCap_le_maxLen w (m+es'.length) cap E (by omega)
    generalize grownCap w (m+es'.length) cap E=G at hr hge hcm
    have nD:Below w.heap.size w (w.drew.alloc (.cells ((vs'.toList.take (m*s)).toArray++us.toArray++Builtin.zeroCells z.cells (G-(m+es'.length))) E)):=⟨rfl,rfl,rfl,by simp,fun q hq=>heap_alloc_old w.drew _ hq⟩
    have hblk':uZ (w.drew.alloc (.cells ((vs'.toList.take (m*s)).toArray++us.toArray++Builtin.zeroCells z.cells (G-(m+es'.length))) E)) D (β.set k w.heap.size) k (cs++(qE es').map .d):=by
     have earr:(vs'.toList.take (m*s)).toArray++us.toArray++Builtin.zeroCells z.cells (G-(m+es'.length))=(vs'.toList.take (m*s)++us++(Builtin.zeroCells z.cells (G-(m+es'.length))).toList).toArray:=by apply Array.ext';simp
     rw[f3] at hol
     refine bF (b:=w.heap.size) (E:=E) (by simp [qH.set]) (by rw[← earr];exact heap_alloc_new w.drew _) (by rw[hfll,List.length_append,List.length_append,hol,Nat.add_mul];omega) ?_ (fun t q hq=>Nat.lt_irrefl _ (hs.base.dok t _ q hq))
     intro q x hq
     rcases bL hq with ⟨c1,hq2⟩ | ⟨c1,d,hq2,rfl⟩
     ·rw[hes] at c1
      obtain ⟨u,g1,g2,g3⟩:=e4 q x hq2
      refine ⟨u,?_,g2,(g3.up nD (bE.of_same D) hs.base.dok).frame (fun j hj=>by simp [qH.set,hj]) (bW hself hq2)⟩
      rw[List.append_assoc,List.getElem?_append_left (by omega),List.getElem?_take,if_pos c1]
      simpa using g1
     ·rw[hes] at c1 hq2
      have hlt:q-m*s<us.length:=by
       have:=(List.getElem?_eq_some_iff.1 hq2).1
       omega
      refine ⟨us[q-m*s],?_,dB _ (by simp),(hrep _ _ d (by simp [hlt]) hq2).up nD (bE.of_same D) hs.base.dok⟩
      rw[List.append_assoc,List.getElem?_append_right (by omega),hol,List.getElem?_append_left hlt]
      simp [hlt]
    have hx':qF (w.drew.alloc (.cells ((vs'.toList.take (m*s)).toArray++us.toArray++Builtin.zeroCells z.cells (G-(m+es'.length))) E)) D (β.set k w.heap.size) (.slice (some ⟨w.heap.size,0,none⟩) (m+es'.length) G) (.own k E s (m+es'.length)):=by
     refine .inr ⟨w.heap.size,G,_,by simp [qH.set],rfl,heap_alloc_new w.drew _,?_,hge,hcm⟩
     rw[f3] at hol
     simp only[Array.size_append,List.size_toArray,size_zeroCells,hzs,hul,hol,← Nat.add_mul]
     congr 1
     omega
    have:=grew_new (dst:=o.dst) hs nD (Nat.le_refl _) hd hB hblk' hx'
    unfold Oper.wp execOp
    simp only[ho,resolve,invoke,builtin,Sem.run_bind,Sem.run_pure,Result.andThen_ok,List.map_toArray,List.map_cons,List.map_nil,hv,hyv,hr]
    exact this
end
section
variable {P:Program} {o:Oper} {S:Nat→SV}
theorem app_local{T E t':TypeId}{x y:Operand}{k k' s m bytes:Nat}{zv:List Value}{es':List jX}{cs:List SV}(ho:o.op=.call { callee:=.builtin .append,args:=#[x,y],argTypes:=#[T,T] })
  (hT:vM P T=some (E,s)) (hz:yE P E=some zv) (hzl:zv.length=s) (hby:yL P E=some bytes) (hx:ev S x=.own k E s m) (hself:qL k' cs=false)
  (hes:cs.length=m*s) (hy:ev S y=.d (.sl t' s es')) (hpos:0<es'.length) (hbig:m+es'.length≤maxLen) (hbig':(m+es'.length)*bytes≤140737488355328) :
  AOk P o S k k' cs (cs++(qE es').map .d) (.own k' E s (m+es'.length)):=fun a w D β Q hop hblk hdok=>by
 have h1:=hop x (by simp [ho,Op.operands,Call.operands])
 have h2:=hop y (by simp [ho,Op.operands,Call.operands])
 have hβ:∀ (b j:Nat),j≠k'→(β.set k' b) j=β j:=fun b j hj=>by simp [qH.set,hj]
 rw[hx] at h1
 rw[hy] at h2
 obtain ⟨ao,c,us,hyv,hcc,hul,hfl',dB,hrep,had⟩:=fN h2
 obtain ⟨i,z,z1,z2,z3⟩:=fO hz
 obtain ⟨j,f1,f2,f3⟩:=mQ hT
 have hij:i=j:=by rw[z1] at f2;injection f2
 subst hij
 have hbi:i.bytes=bytes:=by
  unfold yL at hby
  rw[z1] at hby
  simpa using hby
 subst hbi
 have hzs:z.cells.size=s:=by rw[z3];simpa using hzl
 have hml:(maxLen:Int)≤9223372036854775807:=by decide
 have hfll:(cs++(qE es').map SV.d).length=(m+es'.length)*s:=by rw[List.length_append,List.length_map,hes,hfl',Nat.add_mul]
 ·obtain ⟨ad,rfl,hcell⟩:=had hpos
  rcases h1 with ⟨hk0,hm,hv⟩ | ⟨b,cap,vs,hkb,hv,mO,hvs,hmc,hcap⟩
  ·subst hm
   have hbytes:es'.length*i.bytes≤281474976710656:=by rw[Nat.zero_add] at hbig';omega
   have hr:=run_append_nil (P:=P) w T o.type E i z f1 z1 z2 ad es'.length c us (by rw[hul,f3]) hcell (by omega) (by omega) hbytes
   have hes0:cs=[]:=List.eq_nil_of_length_eq_zero (by simpa using hes)
   subst hes0
   have hge:=grownCap_ge w es'.length 0 E
   have hcm:=grownCap_le_maxLen w es'.length 0 E (by omega)
   generalize grownCap w es'.length 0 E=G at hr hge hcm
   have nD:Below w.heap.size w (w.drew.alloc (.cells (us.toArray++Builtin.zeroCells z.cells (G-es'.length)) E)):=⟨rfl,rfl,rfl,by simp,fun q hq=>heap_alloc_old w.drew _ hq⟩
   have hblk':uZ (w.drew.alloc (.cells (us.toArray++Builtin.zeroCells z.cells (G-es'.length)) E)) D (β.set k' w.heap.size) k' ([]++(qE es').map .d):=by
    have earr:us.toArray++Builtin.zeroCells z.cells (G-es'.length)=(us++(Builtin.zeroCells z.cells (G-es'.length)).toList).toArray:=by apply Array.ext';simp
    refine bF (b:=w.heap.size) (E:=E) (arr:=us++(Builtin.zeroCells z.cells (G-es'.length)).toList) (by simp [qH.set]) (by rw[← earr];exact heap_alloc_new w.drew _) (by rw[hfll,Nat.zero_add,List.length_append];omega) ?_ (fun t q hq=>Nat.lt_irrefl _ (hdok t _ q hq))
    intro q x hq
    obtain ⟨d,hq2,rfl⟩:∃ d,(qE es')[q]?=some d∧x=.d d:=by
     rcases bL hq with ⟨h1,_⟩ | ⟨_,h2⟩
     ·cases h1
     ·simpa using h2
    have hlt:q<us.length:=by
     have:=(List.getElem?_eq_some_iff.1 hq2).1
     omega
    exact ⟨us[q],by rw[List.getElem?_append_left hlt];simp [hlt],dB _ (by simp),(hrep q us[q] d (by simp [hlt]) hq2).up nD (bE.of_same D) hdok⟩
   have hx':qF (w.drew.alloc (.cells (us.toArray++Builtin.zeroCells z.cells (G-es'.length)) E)) D (β.set k' w.heap.size) (.slice (some ⟨w.heap.size,0,none⟩) es'.length G) (.own k' E s (0+es'.length)):=by
    rw[Nat.zero_add]
    refine .inr ⟨w.heap.size,G,_,by simp [qH.set],rfl,heap_alloc_new w.drew _,?_,hge,hcm⟩
    simp only[Array.size_append,List.size_toArray,size_zeroCells,hzs,hul,← Nat.add_mul]
    congr 1
    omega
   have this:APost a w D β o.dst k k' _ _ _ _:=⟨_,_,rfl,hblk',hx',.inl ⟨nD,Nat.le_refl _,by simp⟩⟩
   unfold Oper.wp execOp
   simp only[ho,resolve,invoke,builtin,Sem.run_bind,Sem.run_pure,Result.andThen_ok,List.map_toArray,List.map_cons,List.map_nil,hv,hyv,hr]
   exact this
  ·have hb4:∃ b' vs' T',β k=some b'∧w.heap[b']?=some (.cells vs' T' (0,0))∧cs.length≤vs'.size∧(∀ (i:Nat) x,cs[i]?=some x→∃ u,vs'[i]?=some u∧u.oneCell'=true∧qF w D β u x)∧∀ t o,¬ D t b' o:=by
    rcases hblk with ⟨e,_⟩ | h
    ·rw[hkb] at e;cases e
    ·exact h
   obtain ⟨b',vs',T',e1,e2,e3,e4,e5⟩:=hb4
   have:b'=b:=by rw[hkb] at e1;injection e1 with e1;exact e1.symm
   subst this
   have:vs'=vs:=by rw[mO] at e2;injection e2 with e2;injection e2 with e2;exact e2.symm
   subst this
   have hle:m*s≤vs'.size:=by rw[hvs];exact Nat.mul_le_mul_right _ hmc
   by_cases hroom:m+es'.length≤cap
   ·have hfit:m*s+us.length≤vs'.size:=by rw[hul,hvs,← Nat.add_mul];exact Nat.mul_le_mul_right _ hroom
    have hr:=run_append_room (P:=P) w T o.type E i f1 z1 b' m cap vs' mO ad es'.length c us (by rw[hul,f3]) hcell dB hroom (by rw[f3];exact hfit)
    rw[f3] at hr
    have hpl:=hP (l:=vs'.toList) (off:=m*s) (new:=us) (by simpa using hfit)
    have hw:=fM w b' (vs'.toList.take (m*s)++us++vs'.toList.drop (m*s+us.length)).toArray (fun vs2 T2 f2 h=>by
     rw[mO] at h
     injection h with h
     injection h with h
     subst h
     have e:patch vs'.toList (m*s) us=vs'.toList.take (m*s)++us++vs'.toList.drop (m*s+us.length):=rfl
     rw[e] at hpl
     simpa using hpl)
    have hheap':=setRow_heap w b' vs' (vs'.toList.take (m*s)++us++vs'.toList.drop (m*s+us.length)).toArray E _ mO
    have hpg:∀ q,(vs'.toList.take (m*s)++us++vs'.toList.drop (m*s+us.length))[q]?=if q<m*s then vs'.toList[q]? else if q<m*s+us.length then us[q-m*s]? else vs'.toList[q]?:=fun q=>nM (by simpa using hfit) q
    have hblk':uZ (w.setRow b' (vs'.toList.take (m*s)++us++vs'.toList.drop (m*s+us.length)).toArray) D (β.set k' b') k' (cs++(qE es').map .d):=by
     refine bF (b:=b') (by simp [qH.set]) hheap' ?_ ?_ e5
     ·have e:patch vs'.toList (m*s) us=vs'.toList.take (m*s)++us++vs'.toList.drop (m*s+us.length):=rfl
      rw[e] at hpl
      rw[hpl,hfll,Nat.add_mul]
      simp only[Array.length_toList]
      omega
     ·intro q x hq
      rw[hpg q]
      rcases bL hq with ⟨c1,hq2⟩ | ⟨c1,d,hq2,rfl⟩
      ·rw[hes] at c1
       rw[if_pos c1]
       obtain ⟨u,g1,g2,g3⟩:=e4 q x hq2
       exact ⟨u,by simpa using g1,g2,(hw.repS e5 g3).frame (hβ b') (bW hself hq2)⟩
      ·rw[hes] at c1 hq2
       have hlt:q-m*s<us.length:=by
        have:=(List.getElem?_eq_some_iff.1 hq2).1
        omega
       rw[if_neg (by omega),if_pos (by omega)]
       exact ⟨us[q-m*s],by simp [hlt],dB _ (by simp),hw.rep e5 (hrep _ _ d (by simp [hlt]) hq2)⟩
    have hx':qF (w.setRow b' (vs'.toList.take (m*s)++us++vs'.toList.drop (m*s+us.length)).toArray) D (β.set k' b') (.slice (some ⟨b',0,none⟩) (m+es'.length) cap) (.own k' E s (m+es'.length)):=by
     refine .inr ⟨b',cap,_,by simp [qH.set],rfl,hheap',?_,hroom,hcap⟩
     have e:patch vs'.toList (m*s) us=vs'.toList.take (m*s)++us++vs'.toList.drop (m*s+us.length):=rfl
     rw[e] at hpl
     simpa [hvs] using hpl
    have this:APost a w D β o.dst k k' _ _ _ _:=⟨_,_,rfl,hblk',hx',.inr ⟨hkb,hw,e5⟩⟩
    unfold Oper.wp execOp
    simp only[ho,resolve,invoke,builtin,Sem.run_bind,Sem.run_pure,Result.andThen_ok,List.map_toArray,List.map_cons,List.map_nil,hv,hyv,hr]
    exact this
   ·have hol:(vs'.toList.take (m*s)).length=m*i.size:=by rw[f3,List.length_take];simp;omega
    have holds:∀ q u,(vs'.toList.take (m*s))[q]?=some u→w.cell? ((⟨b',0,none⟩:Addr).add q)=some u:=fun q u hq=>by
     rw[Addr.add_lit,Nat.zero_add,cell_of_row w b' q vs' E (0,0) mO]
     rw[List.getElem?_take] at hq
     split at hq
     ·simpa using hq
     ·cases hq
    have hr:=run_append_grow (P:=P) w T o.type E i z f1 z1 z2 ⟨b',0,none⟩ m cap (vs'.toList.take (m*s)) hol holds ad es'.length c us (by rw[hul,f3]) hcell (by omega) (by omega) (growslice_fits (by omega) hbig')
    have hge:=grownCap_ge w (m+es'.length) cap E
    have hcm:=grownCap_le_maxLen w (m+es'.length) cap E (by omega)
    generalize grownCap w (m+es'.length) cap E=G at hr hge hcm
    have nD:Below w.heap.size w (w.drew.alloc (.cells ((vs'.toList.take (m*s)).toArray++us.toArray++Builtin.zeroCells z.cells (G-(m+es'.length))) E)):=⟨rfl,rfl,rfl,by simp,fun q hq=>heap_alloc_old w.drew _ hq⟩
    have hblk':uZ (w.drew.alloc (.cells ((vs'.toList.take (m*s)).toArray++us.toArray++Builtin.zeroCells z.cells (G-(m+es'.length))) E)) D (β.set k' w.heap.size) k' (cs++(qE es').map .d):=by
     have earr:(vs'.toList.take (m*s)).toArray++us.toArray++Builtin.zeroCells z.cells (G-(m+es'.length))=(vs'.toList.take (m*s)++us++(Builtin.zeroCells z.cells (G-(m+es'.length))).toList).toArray:=by apply Array.ext';simp
     rw[f3] at hol
     refine bF (b:=w.heap.size) (E:=E) (by simp [qH.set]) (by rw[← earr];exact heap_alloc_new w.drew _) (by rw[hfll,List.length_append,List.length_append,hol,Nat.add_mul];omega) ?_ (fun t q hq=>Nat.lt_irrefl _ (hdok t _ q hq))
     intro q x hq
     rcases bL hq with ⟨c1,hq2⟩ | ⟨c1,d,hq2,rfl⟩
     ·rw[hes] at c1
      obtain ⟨u,g1,g2,g3⟩:=e4 q x hq2
      refine ⟨u,?_,g2,(g3.up nD (bE.of_same D) hdok).frame (fun j hj=>by simp [qH.set,hj]) (bW hself hq2)⟩
      rw[List.append_assoc,List.getElem?_append_left (by omega),List.getElem?_take,if_pos c1]
      simpa using g1
     ·rw[hes] at c1 hq2
      have hlt:q-m*s<us.length:=by
       have:=(List.getElem?_eq_some_iff.1 hq2).1
       omega
      refine ⟨us[q-m*s],?_,dB _ (by simp),(hrep _ _ d (by simp [hlt]) hq2).up nD (bE.of_same D) hdok⟩
      rw[List.append_assoc,List.getElem?_append_right (by omega),hol,List.getElem?_append_left hlt]
      simp [hlt]
    have hx':qF (w.drew.alloc (.cells ((vs'.toList.take (m*s)).toArray++us.toArray++Builtin.zeroCells z.cells (G-(m+es'.length))) E)) D (β.set k' w.heap.size) (.slice (some ⟨w.heap.size,0,none⟩) (m+es'.length) G) (.own k' E s (m+es'.length)):=by
     refine .inr ⟨w.heap.size,G,_,by simp [qH.set],rfl,heap_alloc_new w.drew _,?_,hge,hcm⟩
     rw[f3] at hol
     simp only[Array.size_append,List.size_toArray,size_zeroCells,hzs,hul,hol,← Nat.add_mul]
     congr 1
     omega
    have this:APost a w D β o.dst k k' _ _ _ _:=⟨_,_,rfl,hblk',hx',.inl ⟨nD,Nat.le_refl _,by simp⟩⟩
    unfold Oper.wp execOp
    simp only[ho,resolve,invoke,builtin,Sem.run_bind,Sem.run_pure,Result.andThen_ok,List.map_toArray,List.map_cons,List.map_nil,hv,hyv,hr]
    exact this
end
def cG(E:TypeId)(s:Nat):Nat→List (List jX)→List SV
 |_,[]=>[]
 |k,r::rs=>.own k E s r.length::cG E s (k+1) rs
theorem rowC_get{E:TypeId}{s:Nat}:∀ (k:Nat) (rows:List (List jX)) (j:Nat),(cG E s k rows)[j]?=(rows[j]?).map fun r=>.own (k+j) E s r.length
 |_,[],j=>by simp [cG]
 |k,r::rs,0=>by simp [cG]
 |k,r::rs,j+1=>by
  simp only[cG,List.getElem?_cons_succ]
  rw[rowC_get (k+1) rs j,show k+1+j=k+(j+1) by omega]
theorem fU{E:TypeId}{s:Nat}:∀ (k:Nat) (rows:List (List jX)),(cG E s k rows).length=rows.length
 |_,[]=>rfl
 |k,r::rs=>by simp [cG,fU (k+1) rs]
theorem rowC_names{E:TypeId}{s k q:Nat}{rows:List (List jX)}(h:q<k∨k+rows.length≤q):qL q (cG E s k rows)=false:=by
 simp only[qL,List.any_eq_false]
 intro x hx
 obtain ⟨j,hj⟩:=List.getElem?_of_mem hx
 rw[rowC_get,Option.map_eq_some_iff] at hj
 obtain ⟨r,hr,rfl⟩:=hj
 have:=(List.getElem?_eq_some_iff.1 hr).1
 simp only[SV.names,Bool.not_eq_true]
 rw[← Bool.not_eq_true]
 exact fun e=>by have:=Nat.eq_of_beq_eq_true e;omega
section
variable {P:Program} {o:Oper} {S:SL}
theorem eD{st:PS}{j k s m:Nat}{T:TypeId}{pre post cs:List SV}{es:List jX}(hj:kD st.bs j=some (pre++.own k T s m::post))(hjk:k≠j)(hb:kD st.bs k=some cs)(hes:∀ e∈es,e.cells.length=s)(hl:es.length=m)(hc:cs.take (m*s)=(qE es).map .d) :
  vB st ⟨st.sl,(j,some (pre++.d (.sl T s es)::post))::(k,none)::st.bs⟩:=fun C a w ⟨D,β,h⟩=>by
 obtain ⟨D',h',hown⟩:=publish_core (T:=T) h hb hes hl hc
 have hj2:kD ((k,none)::st.bs) j=some (pre++.own k T s m::post):=by rw[jM,if_neg hjk];exact hj
 have conv:∀ {i c},kD ((j,some (pre++SV.d (.sl T s es)::post))::(k,none)::st.bs) i=some c→∃ c',kD ((k,none)::st.bs) i=some c':=fun {i c} hi=>by
  rw[jM] at hi
  split at hi
  ·rename_i e;subst e;exact ⟨_,hj2⟩
  ·exact ⟨c,hi⟩
 refine ⟨D',β,h'.base,⟨fun i c hi=>?_,fun i1 i2 c1 c2 q1 q2=>?_⟩,fun i c hi=>?_,h'.slots⟩
 ·rw[jM] at hi
  split at hi
  ·rename_i e;subst e
   injection hi with hi;subst hi
   rcases h'.mem.ok j _ hj2 with ⟨_,q⟩ | ⟨b,vs,T2,q1,q2,q3,q4,q5⟩
   ·simp at q
   ·refine .inr ⟨b,vs,T2,q1,q2,by simpa using q3,fun i x hx=>?_,q5⟩
    by_cases h1:i<pre.length
    ·rw[List.getElem?_append_left h1] at hx
     exact q4 i x (by rw[List.getElem?_append_left h1];exact hx)
    ·rw[List.getElem?_append_right (by omega)] at hx
     cases hq:i-pre.length with
     |zero=>
      rw[hq] at hx
      simp at hx
      subst hx
      obtain ⟨u,e1,e2,e3⟩:=q4 i (.own k T s m) (by rw[List.getElem?_append_right (by omega),hq];rfl)
      exact ⟨u,e1,e2,hown u D' e3⟩
     |succ q=>
      rw[hq] at hx
      exact q4 i x (by rw[List.getElem?_append_right (by omega),hq];simpa using hx)
  ·exact h'.mem.ok i c hi
 ·obtain ⟨d1,g1⟩:=conv q1
  obtain ⟨d2,g2⟩:=conv q2
  exact h'.mem.inj i1 i2 d1 d2 g1 g2
 ·obtain ⟨d,g⟩:=conv hi
  exact h'.high i d g
end
theorem ownCell{S:SL}{B:BS}{j:Nat}{cs:List SV}(i k E s:Nat)(hj:kD B j=some cs)(hi:cs[i]?=some (.d (.val (.slice none 0 0))))(hf:nA k ⟨S,B⟩=true) :
  vB ⟨S,B⟩ ⟨S,(j,some (cs.set i (.own k E s 0)))::(k,some [])::B⟩:=fun C a w ⟨D,β,hs⟩=>by
 have hβ:∀ q,q≠k→(fun q=>if q=k then none else β q:qH) q=β q:=fun q hq=>by simp [hq]
 have hβ0:(fun q=>if q=k then none else β q:qH) k=none:=by simp
 generalize (fun q=>if q=k then none else β q:qH)=β' at hβ hβ0
 obtain ⟨hjk,hnm⟩:=bQ hf hj
 have conv:∀ {q c},q≠k→kD ((j,some (cs.set i (SV.own k E s 0)))::(k,some [])::B) q=some c→∃ c',kD B q=some c':=fun {q c} hne hq=>by
  rw[jM] at hq
  split at hq
  ·rename_i e;subst e;exact ⟨_,hj⟩
  ·rw[jM,if_neg (fun e=>hne e.symm)] at hq;exact ⟨_,hq⟩
 refine ⟨D,β',hs.base,⟨fun q c hq=>?_,fun i1 i2 c1 c2 q1 q2 b e1 e2=>?_⟩,fun q c hq b e=>?_,fun t=>(hs.slots t).frame hβ (iS hf t)⟩
 ·rw[jM] at hq
  split at hq
  ·rename_i e;subst e
   injection hq with hq;subst hq
   rcases hs.mem.ok _ cs hj with ⟨h1,h2⟩ | ⟨b,vs,T,h1,h2,h3,h4,h5⟩
   ·rw[h2] at hi;simp at hi
   ·refine .inr ⟨b,vs,T,(hβ _ hjk).trans h1,h2,by simpa using h3,fun q x hx=>?_,h5⟩
    rw[List.getElem?_set] at hx
    split at hx
    ·rename_i e;subst e
     split at hx
     ·injection hx with hx;subst hx
      obtain ⟨u,e1,e2,e3⟩:=h4 i _ hi
      exact ⟨u,e1,e2,.inl ⟨hβ0,rfl,xD e3⟩⟩
     ·cases hx
    ·obtain ⟨u,e1,e2,e3⟩:=h4 q x hx
     exact ⟨u,e1,e2,e3.frame hβ (bW hnm hx)⟩
  ·rw[jM] at hq
   split at hq
   ·rename_i e;subst e
    injection hq with hq;subst hq
    exact .inl ⟨hβ0,rfl⟩
   ·obtain ⟨g1,g2⟩:=bQ hf hq
    exact (hs.mem.ok q c hq).frame hβ g1 g2
 ·have n1:i1≠k:=fun e=>by rw[e,hβ0] at e1;cases e1
  have n2:i2≠k:=fun e=>by rw[e,hβ0] at e2;cases e2
  obtain ⟨d1,g1⟩:=conv n1 q1
  obtain ⟨d2,g2⟩:=conv n2 q2
  exact hs.mem.inj i1 i2 d1 d2 g1 g2 b ((hβ _ n1).symm.trans e1) ((hβ _ n2).symm.trans e2)
 ·have n1:q≠k:=fun e'=>by rw[e',hβ0] at e;cases e
  obtain ⟨d,g⟩:=conv n1 hq
  exact hs.high q d g b ((hβ _ n1).symm.trans e)
theorem aI{P:Program}{n:Fr}{c:Code}{Q:Exit→PS→Prop}{S:SL}{B:BS}(j i k E s:Nat){cs:List SV}(hj:kD B j=some cs:=by kernel_rfl)(hi:cs[i]?=some (.d (.val (.slice none 0 0))):=by kernel_rfl)(h1:(S.all fun p=>!p.2.names k)=true:=by kernel_rfl)
  (h2:FrB k B:=by repeat first | exact frb_nil _ | refine frb_map rfl ?_ | refine frb_d rfl ?_ | refine frb_cs rfl rfl ?_ | refine frb_none rfl ?_) (h:qG P n c Q ⟨S,(j,some (cs.set i (.own k E s 0)))::(k,some [])::B⟩):qG P n c Q ⟨S,B⟩ :=
 kS (ownCell i k E s hj hi (freshB_of h1 h2)) h
section
variable {P:Program} {n:Fr} {ops:Array Oper} {K:SL→BS→Prop} {S:SL} {B:BS} {l:List Oper} {o:Oper} {α:Type} {T E t':TypeId} {x y:Operand} {k s m bytes:Nat} {zv:List Value}
theorem oSx{k j E s N off:Nat}{old:List SV}(hs:qW P T=some (false,1))(ho:o.op=.store T x y:=by exact rfl)(hx:ev (kJ S) x=.ref k off:=by exact rfl)(hy:ev (kJ S) y=.own j E s N:=by exact rfl)(hb:kD B k=some old:=by exact rfl)(hle:Nat.ble (off+1) old.length=true:=by kernel_rfl):TK P o S B k (patch old off [.own j E s N]) :=
 ⟨_,t_store ho hx hy hs (.inr ⟨⟨j,E,s,N,rfl⟩,rfl⟩) rfl (Nat.le_of_ble_eq_true hle),hb⟩
variable {news:List Nat} {acc0:List (List Nat × List Nat)}
end
def swN(k k' j:Nat):Nat:=bif Nat.beq j k then k' else j
def SV.sw(k k':Nat):SV→SV
 |.ref j o=>.ref (swN k k' j) o
 |.own j t s n=>.own (swN k k' j) t s n
 |.view j o n=>.view (swN k k' j) o n
 |.clo f ks=>.clo f (ks.map (swN k k'))
 |.pr j t s n x=>.pr (swN k k' j) t s n x
 |.refx j o b=>.refx (swN k k' j) o b
 |.bnd f j o=>.bnd f (swN k k' j) o
 |.ownx j t s n u=>.ownx (swN k k' j) t s n u
 |x=>x
theorem swN_eq(k k':Nat):swN k k' k=k':=by simp [swN]
theorem swN_ne{k k' j:Nat}(h:j≠k):swN k k' j=j:=by
 have:Nat.beq j k=false:=by rw[← Bool.not_eq_true];exact fun e=>h (Nat.eq_of_beq_eq_true e)
 simp [swN,this]
theorem qF.sw{w:World}{D:qN}{β:qH}{k k':Nat}{v:Value}{x:SV}(h:qF w D β v (x.sw k k')):qF w D (fun j=>β (swN k k' j)) v x:=by
 cases x with
 |d x=>exact h
 |ref j o=>exact h
 |own j t s n=>exact h
 |clo f ks=>
  obtain ⟨vs,h1,h2,h3⟩:=h
  exact ⟨vs,h1,by simpa using h2,fun i j hj=>h3 i (swN k k' j) (by rw[List.getElem?_map,hj];rfl)⟩
 |emp=>exact h
 |view j o n=>exact h
 |hob u b ob=>exact h
 |pr j t s n x=>exact h
 |refx j o b=>exact h
 |bnd f j o=>exact h
 |ownx j t s n u=>exact h
 |junk=>trivial
theorem sw_of{k k':Nat}{x:SV}(h:x.names k=false):x.sw k k'=x:=by
 have key:∀ j,Nat.beq k j=false→swN k k' j=j:=fun j hj=>swN_ne (fun e=>by subst e;simp at hj)
 cases x with
 |ref j o=>simp only[SV.sw];rw[key j h]
 |own j t s n=>simp only[SV.sw];rw[key j h]
 |view j o n=>simp only[SV.sw];rw[key j h]
 |clo f ks=>
  simp only[SV.sw]
  simp only[SV.names,List.any_eq_false] at h
  have:ks.map (swN k k')=ks:=by
   conv=>rhs;rw[← List.map_id ks]
   exact List.map_congr_left fun j hj=>key j (by rw[← Bool.not_eq_true];exact h j hj)
  rw[this]
 |d x=>rfl
 |emp=>rfl
 |hob u b ob=>rfl
 |pr j t s n x=>simp only[SV.sw];rw[key j h]
 |refx j o b=>simp only[SV.sw];rw[key j h]
 |bnd f j o=>simp only[SV.sw];rw[key j h]
 |ownx j t s n u=>simp only[SV.sw];rw[key j h]
 |junk=>rfl
section
variable {P:Program}
end
section
variable {P:Program} {o:Oper} {S:Nat→SV}
end
section
variable {P:Program}
end
section
variable {P:Program} {o:Oper} {S:Nat→SV}
end
section
variable {P:Program} {n:Fr} {ops:Array Oper} {K:SL→BS→Prop} {S S0 S1:SL} {B B0 B1:BS} {l:List Oper} {o:Oper} {D:SL}
theorem zY(h1:D.map (fun p=>kJ S p.1)=D.map (·.2):=by kernel_rfl)(h2:S.drop (S.length-S0.length)=S0:=by kernel_rfl)(h3:((S.take (S.length-S0.length)).all fun p=>inS D p.1||isJ (kJ S0 p.1))=true:=by kernel_rfl):SK P n ops (KS S0 B D []) S B [] :=
 zZ h1 h2 h3 rfl (by rw[Nat.sub_self];rfl) (by rw[Nat.sub_self];rfl)
def KI(S1:SL)(B1:BS)(S:SL)(B:BS):Prop:=vB ⟨S,B⟩ ⟨S1,B1⟩
theorem kr{id:Nat}{Q:Exit→PS→Prop}(S1:SL)(B1:BS)(h:SK P n l.toArray (KI S1 B1) S0 B0 l)(hq:Q .normal ⟨S1,B1⟩)(hp:l.all nK=true:=by kernel_rfl):qG P n (.region id l.toArray false) Q ⟨S0,B0⟩:=fun C a w N hn hs=>by
 obtain ⟨st1,h1,h2⟩:=h
 subst hn
 exact wpIn_region_lit (steps_sound (C:=C) h1 hp rfl (fun a' w' hs'=>⟨_,h2 C a' w' hs',hq⟩) hs)
theorem zI(h:vB ⟨S,B⟩ ⟨S1,B1⟩):SK P n ops (KI S1 B1) S B []:=⟨⟨S,B⟩,.nil,h⟩
theorem zOh(k E s:Nat)(r:SK P n ops K ((dO o,.own k E s 0)::S) ((k,some [])::B) l)(h:nilK o=true:=by kernel_rfl)(g:goK n ops S o=true:=by kernel_rfl)(h1:(S.all fun p=>!p.2.names k)=true:=by kernel_rfl)
  (h2:FrB k B:=by repeat first | exact frb_nil _ | refine frb_map rfl ?_ | refine frb_d rfl ?_ | refine frb_cs rfl rfl ?_ | refine frb_none rfl ?_):SK P n ops K S B (o::l):=zO k E s r h g (freshB_of h1 h2)
end
def swJ(k k' J j:Nat)(c:List SV):List SV:=bif Nat.beq j J then c.map (SV.sw k k') else c
theorem bN{S S':SL}{B B':BS}(k k' J:Nat)(h1:S'.map (fun p=>kJ S p.1)=S'.map (fun p=>p.2.sw k k'):=by kernel_rfl)(h2:B'.map (fun p=>kD B (swN k k' p.1))=B'.map (fun p=>p.2.map (swJ k k' J p.1)):=by kernel_rfl)(h3:(B'.all fun p=>!(Nat.beq p.1 k'))=true:=by kernel_rfl)
  (h4:Clr k ((k,none)::B):=by repeat first | exact clr_nil _ | refine clr_self ?_ | refine clr_map ?_ | refine clr_none ?_ | refine clr_bx ?_ | refine clr_d ?_ | refine clr_cons rfl ?_) (h5:kD B k=none:=by kernel_rfl):vB ⟨S,B⟩ ⟨S',B'⟩:=fun C a w ⟨D,β,hs⟩=>by
 have hget:∀ {l:BS},(l.map (fun p=>kD B (swN k k' p.1))=l.map (fun p=>p.2.map (swJ k k' J p.1)))→∀ {j c},kD l j=some c→kD B (swN k k' j)=some (swJ k k' J j c):=by
  intro l
  induction l with
  |nil=>intro _ j c h;simp [kD] at h
  |cons p l ih=>
   intro hl j c hj
   obtain ⟨q,y⟩:=p
   simp only[List.map_cons,List.cons.injEq] at hl
   rw[jM] at hj
   split at hj
   ·rename_i e;subst e;subst hj;rw[hl.1];rfl
   ·exact ih hl.2 hj
 have hkey:∀ {l:BS},((l.all fun p=>!(Nat.beq p.1 k'))=true)→∀ {j c},kD l j=some c→j≠k':=by
  intro l
  induction l with
  |nil=>intro _ j c h;simp [kD] at h
  |cons p l ih=>
   intro hl j c hj e
   obtain ⟨q,y⟩:=p
   simp only[List.all_cons,Bool.and_eq_true,Bool.not_eq_true'] at hl
   rw[jM] at hj
   split at hj
   ·rename_i e2;subst e2;subst e;simp at hl
   ·exact ih hl.2 hj e
 have hnk:∀ {j c},kD B j=some c→j≠k∧qL k c=false:=fun {j c} hj=>by
  have hne:j≠k:=fun e=>by subst e;rw[h5] at hj;cases hj
  exact ⟨hne,h4 j c hne (by rw[jM,if_neg (fun e=>hne e.symm)];exact hj)⟩
 have hsl:∀ {l:SL},(l.map (fun p=>kJ S p.1)=l.map (fun p=>p.2.sw k k'))→∀ t,kJ l t=.junk∨kJ S t=(kJ l t).sw k k':=by
  intro l
  induction l with
  |nil=>intro _ t;exact .inl rfl
  |cons p l ih=>
   intro hl t
   obtain ⟨q,y⟩:=p
   simp only[List.map_cons,List.cons.injEq] at hl
   rw[uB]
   split
   ·rename_i e;subst e;exact .inr hl.1
   ·exact ih hl.2 t
 refine ⟨D,fun j=>β (swN k k' j),hs.base,⟨fun j c hj=>?_,fun j1 j2 c1 c2 q1 q2 b e1 e2=>?_⟩,fun j c hj b hb=>hs.high _ _ (hget h2 hj) b hb,fun t=>?_⟩
 ·have hc:=hget h2 hj
  obtain ⟨_,hn⟩:=hnk hc
  rcases hs.mem.ok _ _ hc with ⟨h,h'⟩ | ⟨b,vs,T,g1,g2,g3,g4,g5⟩
  ·refine .inl ⟨h,?_⟩
   unfold swJ at h'
   cases hJ:Nat.beq j J with
   |true=>rw[hJ,cond_true,List.map_eq_nil_iff] at h';exact h'
   |false=>rw[hJ,cond_false] at h';exact h'
  ·unfold swJ at hn g3 g4
   cases hJ:Nat.beq j J with
   |true=>
    rw[hJ,cond_true] at g3 g4
    refine .inr ⟨b,vs,T,g1,g2,by simpa using g3,fun i x hi=>?_,g5⟩
    obtain ⟨u,e1,e2,e3⟩:=g4 i (x.sw k k') (by rw[List.getElem?_map,hi];rfl)
    exact ⟨u,e1,e2,qF.sw e3⟩
   |false=>
    rw[hJ,cond_false] at hn g3 g4
    refine .inr ⟨b,vs,T,g1,g2,g3,fun i x hi=>?_,g5⟩
    obtain ⟨u,e1,e2,e3⟩:=g4 i x hi
    exact ⟨u,e1,e2,qF.sw (by rw[sw_of (bW hn hi)];exact e3)⟩
 ·have:=hs.mem.inj _ _ _ _ (hget h2 q1) (hget h2 q2) b e1 e2
  have n1:=hkey h3 q1
  have n2:=hkey h3 q2
  by_cases g1:j1=k<;>by_cases g2:j2=k
  ·omega
  ·subst g1;rw[swN_eq,swN_ne g2] at this;omega
  ·subst g2;rw[swN_eq,swN_ne g1] at this;omega
  ·rw[swN_ne g1,swN_ne g2] at this;exact this
 ·show qF w D _ _ (kJ S' t)
  rcases hsl h1 t with h | h
  ·rw[h];trivial
  ·have:=hs.slots t
   dsimp only at this
   rw[h] at this
   exact this.sw
section
variable {P:Program} {S:SL} {B:BS} {o:Oper} {x y:Operand} {k:Nat} {T:TypeId}
end
section
variable {P:Program} {o:Oper}
theorem oQd{S:Nat→SV}{z:SV}(d d2:jX)(h:vJ P o S [] z)(e:d=d2)(e0:z=.d d:=by kernel_rfl):vJ P o S [] (.d d2):=e▸e0▸h
theorem oQr{S:SL}{B:BS}{k:Nat}{z:SV}(d d2:jX)(h:ROk P o S B k z)(e:d=d2)(e0:z=.d d:=by kernel_rfl):ROk P o S B k (.d d2):=e▸e0▸h
end
end Go.Fid
