/- Part 15 of a proof: rules, plain facts, and functions walked. -/
import Derived.Test.YtckccjhflbljgaaGreatDoorM14
set_option linter.all false
namespace Go.Fid
variable {P:Program}
theorem iG{t:TypeId}{ms:List Int}{i:Nat}{m:Int}{k j:IntKind}(ht:P.underlying t=some (.int j))(hi:ms[i]?=some m)(w:World):(part t (ms.map (Value.int k)).toArray i).run P w=.ok (.int k m) w:=by
 have h2:(ms.map (Value.int k))[i]?=some (.int k m):=by rw[List.getElem?_map,hi];rfl
 simp [part,bP ht,isAggD,h2]
theorem run_eqInt{t:TypeId}{k j:IntKind}{m n:Int}(ht:P.underlying t=some (.int j))(d:Nat)(w:World):(Op.equalIn (d+1) t (.int k m) (.int k n)).run P w=.ok (m == n) w:=by
 simp [Op.equalIn,run_underlying ht]
end Go.Fid
namespace Go.Fid
variable {P:Program} {o:Oper} {S:Nat->SV}
theorem e_nckd{x:Operand}{t:TypeId}{q:Nat}{cs:List jQ}(ho:o.op=.nilCheck x)(hx:ev S x=.d (.cptr t cs q)):uN P o S [] (.d (.cptr t cs q)) :=
 uN.same fun a' w D β hop _=>by
  have hp:=hop x (by simp [ho,Op.operands])
  rw[hx] at hp
  generalize hvv:a'.eval x=v at hp
  cases hp with
  |cptr g p u hD hu h1 hr=>
   exact ⟨.pointer (some ⟨g,p+q,none⟩),by simp [execOp,ho,hvv],uQ.cptr g p u hD hu h1 hr⟩
theorem oNd{x:Operand}{t:TypeId}{q:Nat}{cs:List jQ}(ho:o.op=.nilCheck x:=by exact rfl)(hx:ev S x=.d (.cptr t cs q):=by exact rfl):uN P o S [] (.d (.cptr t cs q)):=e_nckd ho hx
end Go.Fid
namespace Go.Fid
variable {P:Program} {o:Oper} {S:Nat->SV}
theorem e_cld{y:Operand}{xs:List Operand}{ats:Array TypeId}{f:FuncId}{ds caps:List jQ}{r:jQ}(hf:jS P f (ds++caps) r)(ho:o.op=.call { callee:=.value y,args:=xs.toArray,argTypes:=ats })(hy:ev S y=.d (.clo f caps))(hx:xs.map (ev S)=ds.map .d):uN P o S [] (.d r) :=
 fun a w D β Q hop hrd hD=>by
  have hyv:=hop y (by simp [ho,Op.operands,Call.operands])
  rw[hy] at hyv
  generalize hvv:a.eval y=v at hyv
  cases hyv with
  |clo vs hl hr=>
   have hlx:xs.length=ds.length:=by simpa using congrArg List.length hx
   have hargs:Args w D (xs.map a.eval++vs) (ds++caps):=by
    refine ⟨by simp [hlx,hl],fun i v d hv hd=>?_⟩
    by_cases hi:i<xs.length
    ·rw[List.getElem?_append_left (by simpa using hi),List.getElem?_map,Option.map_eq_some_iff] at hv
     rw[List.getElem?_append_left (by omega)] at hd
     obtain ⟨x,hxi,rfl⟩:=hv
     have hm:=hop x (by simp [ho,Op.operands,Call.operands,List.mem_of_getElem? hxi])
     have hi:=congrArg (fun l:List SV=>l[i]?) hx
     simp only[List.getElem?_map,hxi,hd,Option.map_some,Option.some.injEq] at hi
     rw[hi] at hm
     exact hm
    ·rw[List.getElem?_append_right (by simpa using hi),List.length_map] at hv
     rw[List.getElem?_append_right (by omega),<- hlx] at hd
     exact hr _ _ _ hv hd
   have hrun:(execOp a.eval o).run P w=.ok (.enter f (xs.map a.eval++vs).toArray) w:=by
    simp only[execOp,ho,resolve,Deferred.ofValue,hvv,Sem.run_bind,Sem.run_pure,Result.andThen_ok,invoke,Array.empty_append]
    rw[vR hf.may]
    simp
   refine mF hrun ((hf.run w _ _ hD hargs).mono fun e w' h=>?_)
   obtain ⟨v,D2,he,h1,h2,h3⟩:=h
   exact ⟨v,he,v,D2,rfl,h1,h2,h3⟩
theorem oCd{S:SL}{y:Operand}{xs:List Operand}{ats:Array TypeId}{f:FuncId}{ds caps:List jQ}{r:jQ}(hf:jS P f (ds++caps) r)(ho:o.op=.call { callee:=.value y,args:=xs.toArray,argTypes:=ats }:=by exact rfl)
  (hy:ev (kA S) y=.d (.clo f caps):=by exact rfl) (hx:xs.map (ev (kA S))=ds.map .d:=by kernel_rfl):uN P o (kA S) [] (.d r):=e_cld hf ho hy hx
end Go.Fid
namespace Go.Fid
open Go.RowKit (Below)
theorem app_blkG{w:World}{D:kV}{β:kU}{b:Nat}{arr:List Value}{E:TypeId}{k:Nat}{cs:List SV}(hkb:β k=some b)(dH:w.heap[b]?=some (.cells arr.toArray E (0,0)))(qO:cs.length<=arr.length)
  (h:∀ (i:Nat) x,cs[i]?=some x->∃ u,arr[i]?=some u/\u.oneCell'=true/\kT w D β u x) (hp:∀ t o,¬ D t b o):uC w D β k cs:=by
 refine .inr ⟨b,arr.toArray,E,hkb,dH,by simpa using qO,fun i x hx=>?_,hp⟩
 obtain ⟨u,e1,e2,e3⟩:=h i x hx
 exact ⟨u,by simpa using e1,e2,e3⟩
theorem names_get{k:Nat}{cs:List SV}(h:qF k cs=false){i:Nat}{x:SV}(hx:cs[i]?=some x):x.names k=false:=by
 simp only[qF,List.any_eq_false] at h
 simpa using h x (List.mem_of_getElem? hx)
theorem app_getG{cs:List SV}{ds:List jQ}{q:Nat}{x:SV}(h:(cs++ds.map .d)[q]?=some x):(q<cs.length/\cs[q]?=some x)\/(cs.length<=q/\∃ d,ds[q-cs.length]?=some d/\x=.d d):=by
 by_cases hq:q<cs.length
 ·rw[List.getElem?_append_left hq] at h;exact .inl ⟨hq,h⟩
 ·rw[List.getElem?_append_right (by omega),List.getElem?_map,Option.map_eq_some_iff] at h
  obtain ⟨d,h1,h2⟩:=h
  exact .inr ⟨by omega,d,h1,h2.symm⟩
section
variable {P:Program} {o:Oper} {st:PS}
end
section
variable {P:Program} {o:Oper} {S:Nat->SV}
theorem app_local{T E t':TypeId}{x y:Operand}{k k' s m bytes:Nat}{zv:List Value}{es':List jQ}{cs:List SV}(ho:o.op=.call { callee:=.builtin .append,args:=#[x,y],argTypes:=#[T,T] })
  (hT:uS P T=some (E,s)) (hz:xB P E=some zv) (hzl:zv.length=s) (hby:zD P E=some bytes) (hx:ev S x=.own k E s m) (hself:qF k' cs=false)
  (hes:cs.length=m*s) (hy:ev S y=.d (.sl t' s es')) (hpos:0<es'.length) (hbig:m+es'.length<=maxLen) (hbig':(m+es'.length)*bytes<=140737488355328) :
  AOk P o S k k' cs (cs++(qD es').map .d) (.own k' E s (m+es'.length)):=fun a w D β Q hop hblk hdok=>by
 have h1:=hop x (by simp [ho,Op.operands,Call.operands])
 have h2:=hop y (by simp [ho,Op.operands,Call.operands])
 have hβ:∀ (b j:Nat),j≠k'->(β.set k' b) j=β j:=fun b j hj=>by simp [kU.set,hj]
 rw[hx] at h1
 rw[hy] at h2
 obtain ⟨ao,c,us,hyv,hcc,hul,hfl',dT,hrep,had⟩:=iJ h2
 obtain ⟨i,z,z1,z2,z3⟩:=eY hz
 obtain ⟨j,f1,f2,f3⟩:=mY hT
 have hij:i=j:=by rw[z1] at f2;injection f2
 subst hij
 have hbi:i.bytes=bytes:=by
  unfold zD at hby
  rw[z1] at hby
  simpa using hby
 subst hbi
 have hzs:z.cells.size=s:=by rw[z3];simpa using hzl
 have hml:(maxLen:Int)<=9223372036854775807:=by decide
 have hfll:(cs++(qD es').map SV.d).length=(m+es'.length)*s:=by rw[List.length_append,List.length_map,hes,hfl',Nat.add_mul]
 ·obtain ⟨ad,rfl,hcell⟩:=had hpos
  rcases h1 with ⟨hk0,hm,hv⟩ | ⟨b,cap,vs,hkb,hv,dH,hvs,hmc,hcap⟩
  ·subst hm
   have hbytes:es'.length*i.bytes<=281474976710656:=by rw[Nat.zero_add] at hbig';omega
   have hr:=run_append_nil (P:=P) w T o.type E i z f1 z1 z2 ad es'.length c us (by rw[hul,f3]) hcell (by omega) (by omega) hbytes
   have hes0:cs=[]:=List.eq_nil_of_length_eq_zero (by simpa using hes)
   subst hes0
   have hge:=grownCap_ge w es'.length 0 E
   have hcm:=grownCap_le_maxLen w es'.length 0 E (by omega)
   generalize grownCap w es'.length 0 E=G at hr hge hcm
   have nA:Below w.heap.size w (w.drew.alloc (.cells (us.toArray++Builtin.zeroCells z.cells (G-es'.length)) E)):=⟨rfl,rfl,rfl,by simp,fun q hq=>heap_alloc_old w.drew _ hq⟩
   have hblk':uC (w.drew.alloc (.cells (us.toArray++Builtin.zeroCells z.cells (G-es'.length)) E)) D (β.set k' w.heap.size) k' ([]++(qD es').map .d):=by
    have earr:us.toArray++Builtin.zeroCells z.cells (G-es'.length)=(us++(Builtin.zeroCells z.cells (G-es'.length)).toList).toArray:=by apply Array.ext';simp
    refine app_blkG (b:=w.heap.size) (E:=E) (arr:=us++(Builtin.zeroCells z.cells (G-es'.length)).toList) (by simp [kU.set]) (by rw[<- earr];exact heap_alloc_new w.drew _) (by rw[hfll,Nat.zero_add,List.length_append];omega) ?_ (fun t q hq=>Nat.lt_irrefl _ (hdok t _ q hq))
    intro q x hq
    obtain ⟨d,hq2,rfl⟩:∃ d,(qD es')[q]?=some d/\x=.d d:=by
     rcases app_getG hq with ⟨h1,_⟩ | ⟨_,h2⟩
     ·cases h1
     ·simpa using h2
    have hlt:q<us.length:=by
     have:=(List.getElem?_eq_some_iff.1 hq2).1
     omega
    exact ⟨us[q],by rw[List.getElem?_append_left hlt];simp [hlt],dT _ (by simp),(hrep q us[q] d (by simp [hlt]) hq2).up nA (fW.of_same D) hdok⟩
   have hx':kT (w.drew.alloc (.cells (us.toArray++Builtin.zeroCells z.cells (G-es'.length)) E)) D (β.set k' w.heap.size) (.slice (some ⟨w.heap.size,0,none⟩) es'.length G) (.own k' E s (0+es'.length)):=by
    rw[Nat.zero_add]
    refine .inr ⟨w.heap.size,G,_,by simp [kU.set],rfl,heap_alloc_new w.drew _,?_,hge,hcm⟩
    simp only[Array.size_append,List.size_toArray,size_zeroCells,hzs,hul,<- Nat.add_mul]
    congr 1
    omega
   have this:APost a w D β o.dst k k' _ _ _ _:=⟨_,_,rfl,hblk',hx',.inl ⟨nA,Nat.le_refl _,by simp⟩⟩
   unfold Oper.wp execOp
   simp only[ho,resolve,invoke,builtin,Sem.run_bind,Sem.run_pure,Result.andThen_ok,List.map_toArray,List.map_cons,List.map_nil,hv,hyv,hr]
   exact this
  ·have hb4:∃ b' vs' T',β k=some b'/\w.heap[b']?=some (.cells vs' T' (0,0))/\cs.length<=vs'.size/\(∀ (i:Nat) x,cs[i]?=some x->∃ u,vs'[i]?=some u/\u.oneCell'=true/\kT w D β u x)/\∀ t o,¬ D t b' o:=by
    rcases hblk with h | h
    ·exact (h.at_cells hkb dH).elim
    ·exact h
   obtain ⟨b',vs',T',e1,e2,e3,e4,e5⟩:=hb4
   have:b'=b:=by rw[hkb] at e1;injection e1 with e1;exact e1.symm
   subst this
   have:vs'=vs:=by rw[dH] at e2;injection e2 with e2;injection e2 with e2;exact e2.symm
   subst this
   have hle:m*s<=vs'.size:=by rw[hvs];exact Nat.mul_le_mul_right _ hmc
   by_cases hroom:m+es'.length<=cap
   ·have hfit:m*s+us.length<=vs'.size:=by rw[hul,hvs,<- Nat.add_mul];exact Nat.mul_le_mul_right _ hroom
    have hr:=run_append_room (P:=P) w T o.type E i f1 z1 b' m cap vs' dH ad es'.length c us (by rw[hul,f3]) hcell dT hroom (by rw[f3];exact hfit)
    rw[f3] at hr
    have hpl:=nI (l:=vs'.toList) (off:=m*s) (new:=us) (by simpa using hfit)
    have hw:=lF w b' (vs'.toList.take (m*s)++us++vs'.toList.drop (m*s+us.length)).toArray (fun vs2 T2 f2 h=>by
     rw[dH] at h
     injection h with h
     injection h with h
     subst h
     have e:patch vs'.toList (m*s) us=vs'.toList.take (m*s)++us++vs'.toList.drop (m*s+us.length):=rfl
     rw[e] at hpl
     simpa using hpl)
    have hheap':=setRow_heap w b' vs' (vs'.toList.take (m*s)++us++vs'.toList.drop (m*s+us.length)).toArray E _ dH
    have hpg:∀ q,(vs'.toList.take (m*s)++us++vs'.toList.drop (m*s+us.length))[q]?=if q<m*s then vs'.toList[q]? else if q<m*s+us.length then us[q-m*s]? else vs'.toList[q]?:=fun q=>nO (by simpa using hfit) q
    have hblk':uC (w.setRow b' (vs'.toList.take (m*s)++us++vs'.toList.drop (m*s+us.length)).toArray) D (β.set k' b') k' (cs++(qD es').map .d):=by
     refine app_blkG (b:=b') (by simp [kU.set]) hheap' ?_ ?_ e5
     ·have e:patch vs'.toList (m*s) us=vs'.toList.take (m*s)++us++vs'.toList.drop (m*s+us.length):=rfl
      rw[e] at hpl
      rw[hpl,hfll,Nat.add_mul]
      simp only[Array.length_toList]
      omega
     ·intro q x hq
      rw[hpg q]
      rcases app_getG hq with ⟨c1,hq2⟩ | ⟨c1,d,hq2,rfl⟩
      ·rw[hes] at c1
       rw[if_pos c1]
       obtain ⟨u,g1,g2,g3⟩:=e4 q x hq2
       exact ⟨u,by simpa using g1,g2,(hw.repS e5 g3).frame (hβ b') (names_get hself hq2)⟩
      ·rw[hes] at c1 hq2
       have hlt:q-m*s<us.length:=by
        have:=(List.getElem?_eq_some_iff.1 hq2).1
        omega
       rw[if_neg (by omega),if_pos (by omega)]
       exact ⟨us[q-m*s],by simp [hlt],dT _ (by simp),hw.rep e5 (hrep _ _ d (by simp [hlt]) hq2)⟩
    have hx':kT (w.setRow b' (vs'.toList.take (m*s)++us++vs'.toList.drop (m*s+us.length)).toArray) D (β.set k' b') (.slice (some ⟨b',0,none⟩) (m+es'.length) cap) (.own k' E s (m+es'.length)):=by
     refine .inr ⟨b',cap,_,by simp [kU.set],rfl,hheap',?_,hroom,hcap⟩
     have e:patch vs'.toList (m*s) us=vs'.toList.take (m*s)++us++vs'.toList.drop (m*s+us.length):=rfl
     rw[e] at hpl
     simpa [hvs] using hpl
    have this:APost a w D β o.dst k k' _ _ _ _:=⟨_,_,rfl,hblk',hx',.inr ⟨hkb,hw,e5⟩⟩
    unfold Oper.wp execOp
    simp only[ho,resolve,invoke,builtin,Sem.run_bind,Sem.run_pure,Result.andThen_ok,List.map_toArray,List.map_cons,List.map_nil,hv,hyv,hr]
    exact this
   ·have hol:(vs'.toList.take (m*s)).length=m*i.size:=by rw[f3,List.length_take];simp;omega
    have holds:∀ q u,(vs'.toList.take (m*s))[q]?=some u->w.cell? ((⟨b',0,none⟩:Addr).add q)=some u:=fun q u hq=>by
     rw[Addr.add_lit,Nat.zero_add,cell_of_row w b' q vs' E (0,0) dH]
     rw[List.getElem?_take] at hq
     split at hq
     ·simpa using hq
     ·cases hq
    have hr:=run_append_grow (P:=P) w T o.type E i z f1 z1 z2 ⟨b',0,none⟩ m cap (vs'.toList.take (m*s)) hol holds ad es'.length c us (by rw[hul,f3]) hcell (by omega) (by omega) (growslice_fits (by omega) hbig')
    have hge:=grownCap_ge w (m+es'.length) cap E
    have hcm:=grownCap_le_maxLen w (m+es'.length) cap E (by omega)
    generalize grownCap w (m+es'.length) cap E=G at hr hge hcm
    have nA:Below w.heap.size w (w.drew.alloc (.cells ((vs'.toList.take (m*s)).toArray++us.toArray++Builtin.zeroCells z.cells (G-(m+es'.length))) E)):=⟨rfl,rfl,rfl,by simp,fun q hq=>heap_alloc_old w.drew _ hq⟩
    have hblk':uC (w.drew.alloc (.cells ((vs'.toList.take (m*s)).toArray++us.toArray++Builtin.zeroCells z.cells (G-(m+es'.length))) E)) D (β.set k' w.heap.size) k' (cs++(qD es').map .d):=by
     have earr:(vs'.toList.take (m*s)).toArray++us.toArray++Builtin.zeroCells z.cells (G-(m+es'.length))=(vs'.toList.take (m*s)++us++(Builtin.zeroCells z.cells (G-(m+es'.length))).toList).toArray:=by apply Array.ext';simp
     rw[f3] at hol
     refine app_blkG (b:=w.heap.size) (E:=E) (by simp [kU.set]) (by rw[<- earr];exact heap_alloc_new w.drew _) (by rw[hfll,List.length_append,List.length_append,hol,Nat.add_mul];omega) ?_ (fun t q hq=>Nat.lt_irrefl _ (hdok t _ q hq))
     intro q x hq
     rcases app_getG hq with ⟨c1,hq2⟩ | ⟨c1,d,hq2,rfl⟩
     ·rw[hes] at c1
      obtain ⟨u,g1,g2,g3⟩:=e4 q x hq2
      refine ⟨u,?_,g2,(g3.up nA (fW.of_same D) hdok).frame (fun j hj=>by simp [kU.set,hj]) (names_get hself hq2)⟩
      rw[List.append_assoc,List.getElem?_append_left (by omega),List.getElem?_take,if_pos c1]
      simpa using g1
     ·rw[hes] at c1 hq2
      have hlt:q-m*s<us.length:=by
       have:=(List.getElem?_eq_some_iff.1 hq2).1
       omega
      refine ⟨us[q-m*s],?_,dT _ (by simp),(hrep _ _ d (by simp [hlt]) hq2).up nA (fW.of_same D) hdok⟩
      rw[List.append_assoc,List.getElem?_append_right (by omega),hol,List.getElem?_append_left hlt]
      simp [hlt]
    have hx':kT (w.drew.alloc (.cells ((vs'.toList.take (m*s)).toArray++us.toArray++Builtin.zeroCells z.cells (G-(m+es'.length))) E)) D (β.set k' w.heap.size) (.slice (some ⟨w.heap.size,0,none⟩) (m+es'.length) G) (.own k' E s (m+es'.length)):=by
     refine .inr ⟨w.heap.size,G,_,by simp [kU.set],rfl,heap_alloc_new w.drew _,?_,hge,hcm⟩
     rw[f3] at hol
     simp only[Array.size_append,List.size_toArray,size_zeroCells,hzs,hul,hol,<- Nat.add_mul]
     congr 1
     omega
    have this:APost a w D β o.dst k k' _ _ _ _:=⟨_,_,rfl,hblk',hx',.inl ⟨nA,Nat.le_refl _,by simp⟩⟩
    unfold Oper.wp execOp
    simp only[ho,resolve,invoke,builtin,Sem.run_bind,Sem.run_pure,Result.andThen_ok,List.map_toArray,List.map_cons,List.map_nil,hv,hyv,hr]
    exact this
end
def rowC(E:TypeId)(s:Nat):Nat->List (List jQ)->List SV
 |_,[]=>[]
 |k,r::rs=>.own k E s r.length::rowC E s (k+1) rs
theorem mapCs_rowC(E:TypeId)(s k:Nat)(rows:List (List jQ)):hH (rowC E s k rows)=false:=by
 rcases rows with _ | ⟨a,_ | ⟨b,l⟩⟩<;>rfl
theorem blk_weak{w:World}{D:kV}{β:kU}{k:Nat}{cs cs':List SV}(h:uC w D β k cs)(hl:cs'.length=cs.length)(hx:∀ (i:Nat) (x:SV),cs'[i]?=some x->x=SV.junk\/cs[i]?=some x)(hm:hH cs=false):uC w D β k cs':=by
 rcases h with h | ⟨b,vs,T,h1,h2,h3,h4,h5⟩
 ·obtain ⟨h1,h2⟩:=h.cells hm;exact .inl (.inl ⟨h1,List.eq_nil_of_length_eq_zero (by rw[hl,h2];rfl)⟩)
 ·refine .inr ⟨b,vs,T,h1,h2,by omega,fun i x hi=>?_,h5⟩
  have hlt:i<cs.length:=by have:=(List.getElem?_eq_some_iff.1 hi).1;omega
  obtain ⟨u,e1,e2,e3⟩:=h4 i _ (List.getElem?_eq_getElem hlt)
  rcases hx i x hi with rfl | h
  ·exact ⟨u,e1,e2,trivial⟩
  ·rw[List.getElem?_eq_getElem hlt] at h
   injection h with h
   exact ⟨u,e1,e2,h▸e3⟩
section
variable {P:Program} {o:Oper} {S:SL}
theorem bQ{st:PS}{j k s m:Nat}{T:TypeId}{pre post cs:List SV}{es:List jQ}(hj:jZ st.bs j=some (pre++.own k T s m::post))(hjk:k≠j)(hb:jZ st.bs k=some cs)(hes:∀ e∈es,e.cells.length=s)(hl:es.length=m)(hc:cs.take (m*s)=(qD es).map .d) :
  vE st ⟨st.sl,(j,some (pre++.d (.sl T s es)::post))::(k,none)::st.bs⟩:=fun C a w ⟨D,β,h⟩=>by
 obtain ⟨D',h',hown⟩:=publish_core (T:=T) h hb hes hl hc
 have hj2:jZ ((k,none)::st.bs) j=some (pre++.own k T s m::post):=by rw[jJ,if_neg hjk];exact hj
 have conv:∀ {i c},jZ ((j,some (pre++SV.d (.sl T s es)::post))::(k,none)::st.bs) i=some c->∃ c',jZ ((k,none)::st.bs) i=some c':=fun {i c} hi=>by
  rw[jJ] at hi
  split at hi
  ·rename_i e;subst e;exact ⟨_,hj2⟩
  ·exact ⟨c,hi⟩
 refine ⟨D',β,h'.base,⟨fun i c hi=>?_,fun i1 i2 c1 c2 q1 q2=>?_⟩,fun i c hi=>?_,h'.slots⟩
 ·rw[jJ] at hi
  split at hi
  ·rename_i e;subst e
   injection hi with hi;subst hi
   rcases h'.mem.ok j _ hj2 with q | ⟨b,vs,T2,q1,q2,q3,q4,q5⟩
   ·obtain ⟨_,q⟩:=q.cells (bF (i:=pre.length) (by rw[List.getElem?_append_right (Nat.le_refl _),Nat.sub_self];rfl) rfl);simp at q
   ·refine .inr ⟨b,vs,T2,q1,q2,by simpa using q3,fun i x hx=>?_,q5⟩
    by_cases h1:i<pre.length
    ·rw[List.getElem?_append_left h1] at hx
     exact q4 i x (by rw[List.getElem?_append_left h1];exact hx)
    ·rw[List.getElem?_append_right (by omega)] at hx
     cases hq:i-pre.length with
     |zero=>
      rw[hq] at hx
      simp at hx
      subst hx
      obtain ⟨u,e1,e2,e3⟩:=q4 i (.own k T s m) (by rw[List.getElem?_append_right (by omega),hq];rfl)
      exact ⟨u,e1,e2,hown u D' e3⟩
     |succ q=>
      rw[hq] at hx
      exact q4 i x (by rw[List.getElem?_append_right (by omega),hq];simpa using hx)
  ·exact h'.mem.ok i c hi
 ·obtain ⟨d1,g1⟩:=conv q1
  obtain ⟨d2,g2⟩:=conv q2
  exact h'.mem.inj i1 i2 d1 d2 g1 g2
 ·obtain ⟨d,g⟩:=conv hi
  exact h'.high i d g
end
theorem sim_mask{S:SL}{B:BS}{j:Nat}{cs:List SV}(i:Nat)(hb:jZ B j=some cs)(hm:hH cs=false:=by first | exact mJ _ | exact mapCs_rowC _ _ _ _ | kernel_rfl):vE ⟨S,B⟩ ⟨S,(j,some (cs.set i .junk))::B⟩:=fun C a w ⟨D,β,hs⟩=>by
 have conv:∀ {q c},jZ ((j,some (cs.set i SV.junk))::B) q=some c->∃ c',jZ B q=some c':=fun {q c} hq=>by
  rw[jJ] at hq
  split at hq
  ·rename_i e;subst e;exact ⟨_,hb⟩
  ·exact ⟨_,hq⟩
 refine ⟨D,β,hs.base,⟨fun q c hq=>?_,fun i1 i2 c1 c2 q1 q2=>?_⟩,fun q c hq=>?_,hs.slots⟩
 ·rw[jJ] at hq
  split at hq
  ·rename_i e;subst e
   injection hq with hq;subst hq
   refine blk_weak (hs.mem.ok _ cs hb) (by simp) (fun q x hx=>?_) hm
   rw[List.getElem?_set] at hx
   split at hx
   ·split at hx
    ·injection hx with hx;exact .inl hx.symm
    ·cases hx
   ·exact .inr hx
  ·exact hs.mem.ok q c hq
 ·obtain ⟨d1,g1⟩:=conv q1
  obtain ⟨d2,g2⟩:=conv q2
  exact hs.mem.inj i1 i2 d1 d2 g1 g2
 ·obtain ⟨d,g⟩:=conv hq
  exact hs.high q d g
theorem ownCell{S:SL}{B:BS}{j:Nat}{cs:List SV}(i k E s:Nat)(hj:jZ B j=some cs)(hi:cs[i]?=some (.d (.val (.slice none 0 0))))(hf:gQ k ⟨S,B⟩=true) :
  vE ⟨S,B⟩ ⟨S,(j,some (cs.set i (.own k E s 0)))::(k,some [])::B⟩:=fun C a w ⟨D,β,hs⟩=>by
 have hβ:∀ q,q≠k->(fun q=>if q=k then none else β q:kU) q=β q:=fun q hq=>by simp [hq]
 have hβ0:(fun q=>if q=k then none else β q:kU) k=none:=by simp
 generalize (fun q=>if q=k then none else β q:kU)=β' at hβ hβ0
 obtain ⟨hjk,hnm⟩:=bE hf hj
 have conv:∀ {q c},q≠k->jZ ((j,some (cs.set i (SV.own k E s 0)))::(k,some [])::B) q=some c->∃ c',jZ B q=some c':=fun {q c} hne hq=>by
  rw[jJ] at hq
  split at hq
  ·rename_i e;subst e;exact ⟨_,hj⟩
  ·rw[jJ,if_neg (fun e=>hne e.symm)] at hq;exact ⟨_,hq⟩
 refine ⟨D,β',hs.base,⟨fun q c hq=>?_,fun i1 i2 c1 c2 q1 q2 b e1 e2=>?_⟩,fun q c hq b e=>?_,fun t=>(hs.slots t).frame hβ (iM hf t)⟩
 ·rw[jJ] at hq
  split at hq
  ·rename_i e;subst e
   injection hq with hq;subst hq
   rcases hs.mem.ok _ cs hj with h | ⟨b,vs,T,h1,h2,h3,h4,h5⟩
   ·obtain ⟨h1,h2⟩:=h.cells (bF hi rfl);rw[h2] at hi;simp at hi
   ·refine .inr ⟨b,vs,T,(hβ _ hjk).trans h1,h2,by simpa using h3,fun q x hx=>?_,h5⟩
    rw[List.getElem?_set] at hx
    split at hx
    ·rename_i e;subst e
     split at hx
     ·injection hx with hx;subst hx
      obtain ⟨u,e1,e2,e3⟩:=h4 i _ hi
      exact ⟨u,e1,e2,.inl ⟨hβ0,rfl,vB e3⟩⟩
     ·cases hx
    ·obtain ⟨u,e1,e2,e3⟩:=h4 q x hx
     exact ⟨u,e1,e2,e3.frame hβ (names_get hnm hx)⟩
  ·rw[jJ] at hq
   split at hq
   ·rename_i e;subst e
    injection hq with hq;subst hq
    exact .inl (.inl ⟨hβ0,rfl⟩)
   ·obtain ⟨g1,g2⟩:=bE hf hq
    exact (hs.mem.ok q c hq).frame hβ g1 g2
 ·have n1:i1≠k:=fun e=>by rw[e,hβ0] at e1;cases e1
  have n2:i2≠k:=fun e=>by rw[e,hβ0] at e2;cases e2
  obtain ⟨d1,g1⟩:=conv n1 q1
  obtain ⟨d2,g2⟩:=conv n2 q2
  exact hs.mem.inj i1 i2 d1 d2 g1 g2 b ((hβ _ n1).symm.trans e1) ((hβ _ n2).symm.trans e2)
 ·have n1:q≠k:=fun e'=>by rw[e',hβ0] at e;cases e
  obtain ⟨d,g⟩:=conv n1 hq
  exact hs.high q d g b ((hβ _ n1).symm.trans e)
theorem aU{P:Program}{n:Fr}{c:Code}{Q:Exit->PS->Prop}{S:SL}{B:BS}(j i k E s:Nat){cs:List SV}(hj:jZ B j=some cs:=by kernel_rfl)(hi:cs[i]?=some (.d (.val (.slice none 0 0))):=by kernel_rfl)(h1:(S.all fun p=>!p.2.names k)=true:=by kernel_rfl)
  (h2:FrB k B:=by repeat first | exact frb_nil _ | refine frb_map rfl ?_ | refine frb_d rfl ?_ | refine frb_cs rfl rfl ?_ | refine frb_none rfl ?_) (h:cZ P n c Q ⟨S,(j,some (cs.set i (.own k E s 0)))::(k,some [])::B⟩):cZ P n c Q ⟨S,B⟩ :=
 kG (ownCell i k E s hj hi (bX h1 h2)) h
section
variable {P:Program} {n:Fr} {ops:Array Oper} {K:SL->BS->Prop} {S:SL} {B:BS} {l:List Oper} {o:Oper} {α:Type} {T E t':TypeId} {x y:Operand} {k s m bytes:Nat} {zv:List Value}
theorem zAm(j i:Nat){cs:List SV}(F:α->jQ)(L L':List α)(hL:L.length=m)(hT:uS P T=some (E,1))(hz:xB P E=some zv)(hby:zD P E=some bytes)(r:SK P n ops K ((dO o,.own k E 1 (L++L').length)::nF k S) ((k,some ((L++L').map (fun g=>SV.d (F g))))::(j,some (cs.set i .junk))::B) l)
  (ho:o.op=.call { callee:=.builtin .append,args:=#[x,y],argTypes:=#[T,T] }:=by exact rfl) (g:goK n ops S o=true:=by kernel_rfl) (hx:ev (kA S) x=.own k E 1 m:=by exact rfl) (hj:jZ B j=some cs:=by exact rfl) (hjk:Nat.beq j k=false:=by kernel_rfl) (hb:jZ B k=some (L.map (fun g=>SV.d (F g))):=by kernel_rfl) (hy:ev (kA S) y=.d (.sl t' 1 (L'.map F)):=by exact rfl) (hF:∀ g,(F g).cells=[F g]:=by intro g;kernel_rfl) (hzl:zv.length=1:=by kernel_rfl)
  (hbig:m+L'.length<=maxLen:=by first | (simp only[List.length_cons,List.length_nil,maxLen];omega) | (simp [maxLen];omega)) (hbig':(m+L'.length)*bytes<=140737488355328:=by first | omega | (simp only[List.length_cons,List.length_nil];omega) | (simp;omega))
  (hm:qF k (cs.set i .junk)=false:=by kernel_rfl) (hB:Clr k ((j,none)::B):=by refine fR ?_;repeat first | exact clr_nil _ | refine clr_self ?_ | refine clr_map ?_ | refine fR ?_ | refine clr_bx ?_ | refine clr_d ?_) (hmc:hH cs=false:=by first | exact mJ _ | kernel_rfl):SK P n ops K S B (o::l):=by
 obtain ⟨hd,hg,hdB⟩:=zW g
 have hne:j≠k:=eZ hjk
 refine zX (S1:=(dO o,.own k E 1 (L++L').length)::nF k S) (B1:=(k,some ((L++L').map (fun g=>SV.d (F g))))::(j,some (cs.set i .junk))::B) (fun C a w Q hn hs=>?_) hg r
 have hs':=sim_mask i hj hmc C a w hs
 have:=app_sound (st:=⟨S,(j,some (cs.set i .junk))::B⟩) (N:=n) (es:=L.map F) (es':=L'.map F) ho (by rw[hd];exact hdB) hT hz hzl hby hx (by show jZ ((j,_)::B) k=_;rw[jJ,if_neg hne];exact hb) (by rw[flat_one F hF,List.map_map];rfl) (by rw[flat_one F hF,List.length_map,hL,Nat.mul_one]) hy (by simpa using hbig) (by simpa using hbig') (fun q c hq hc=>by
  dsimp only at hc
  rw[jJ] at hc
  split at hc
  ·injection hc with hc;subst hc;exact hm
  ·rename_i e;exact hB q c hq (by rw[jJ,if_neg e];exact hc)) C a w Q hn hs'
 have e1:(qD (L.map F++L'.map F)).map SV.d=(L++L').map (fun g=>SV.d (F g)):=by rw[<- List.map_append,flat_one F hF,List.map_map];rfl
 have e2:m+(L'.map F).length=(L++L').length:=by rw[List.length_map,List.length_append,hL]
 rw[hd,e1,e2] at this
 exact this
theorem oSx{k j E s N off:Nat}{old:List SV}(hs:kZ P T=some (false,1))(ho:o.op=.store T x y:=by exact rfl)(hx:ev (kA S) x=.ref k off:=by exact rfl)(hy:ev (kA S) y=.own j E s N:=by exact rfl)(hb:jZ B k=some old:=by exact rfl)(hle:Nat.ble (off+1) old.length=true:=by kernel_rfl)(hm:hH old=false:=by first | exact mJ _ | kernel_rfl):TK P o S B k (patch old off [.own j E s N]) :=
 ⟨_,t_store ho hx hy hs (.inr ⟨⟨j,E,s,N,rfl⟩,rfl⟩) rfl (Nat.le_of_ble_eq_true hle) hm,hb⟩
variable {news:List Nat} {acc0:List (List Nat × List Nat)}
end
def swN(k k' j:Nat):Nat:=bif Nat.beq j k then k' else j
def SV.sw(k k':Nat):SV->SV
 |.ref j o=>.ref (swN k k' j) o
 |.own j t s n=>.own (swN k k' j) t s n
 |.view j o n=>.view (swN k k' j) o n
 |.clo f ks=>.clo f (ks.map (swN k k'))
 |.pr j t s n x=>.pr (swN k k' j) t s n x
 |.refx j o b=>.refx (swN k k' j) o b
 |.mpx j b=>.mpx (swN k k' j) b
 |.bnd f j o=>.bnd f (swN k k' j) o
 |.ownx j t s n u=>.ownx (swN k k' j) t s n u
 |.mp j=>.mp (swN k k' j)
 |x=>x
theorem swN_eq(k k':Nat):swN k k' k=k':=by simp [swN]
theorem swN_ne{k k' j:Nat}(h:j≠k):swN k k' j=j:=by
 have:Nat.beq j k=false:=by rw[<- Bool.not_eq_true];exact fun e=>h (Nat.eq_of_beq_eq_true e)
 simp [swN,this]
theorem sw_mos{k k':Nat}{cs:List SV}{ob:Obj}(h:cs.map (SV.sw k k')=[.mo ob]):cs=[.mo ob]:=by
 rcases cs with _ | ⟨x,_ | ⟨y,l⟩⟩
 ·cases h
 ·simp only[List.map_cons,List.map_nil,List.cons.injEq,and_true] at h
  have:x=.mo ob:=by cases x<;>first | exact h | cases h
  rw[this]
 ·simp at h
theorem kT.sw{w:World}{D:kV}{β:kU}{k k':Nat}{v:Value}{x:SV}(h:kT w D β v (x.sw k k')):kT w D (fun j=>β (swN k k' j)) v x:=by
 cases x with
 |d x=>exact h
 |ref j o=>exact h
 |own j t s n=>exact h
 |clo f ks=>
  obtain ⟨vs,h1,h2,h3⟩:=h
  exact ⟨vs,h1,by simpa using h2,fun i j hj=>h3 i (swN k k' j) (by rw[List.getElem?_map,hj];rfl)⟩
 |emp=>exact h
 |view j o n=>exact h
 |mp j=>exact h
 |mo ob=>exact h
 |pr j t s n x=>exact h
 |refx j o b=>exact h
 |mpx j b=>exact h
 |bnd f j o=>exact h
 |ownx j t s n u=>exact h
 |junk=>trivial
theorem sw_of{k k':Nat}{x:SV}(h:x.names k=false):x.sw k k'=x:=by
 have key:∀ j,Nat.beq k j=false->swN k k' j=j:=fun j hj=>swN_ne (fun e=>by subst e;simp at hj)
 cases x with
 |ref j o=>simp only[SV.sw];rw[key j h]
 |own j t s n=>simp only[SV.sw];rw[key j h]
 |view j o n=>simp only[SV.sw];rw[key j h]
 |clo f ks=>
  simp only[SV.sw]
  simp only[SV.names,List.any_eq_false] at h
  have:ks.map (swN k k')=ks:=by
   conv=>rhs;rw[<- List.map_id ks]
   exact List.map_congr_left fun j hj=>key j (by rw[<- Bool.not_eq_true];exact h j hj)
  rw[this]
 |d x=>rfl
 |emp=>rfl
 |mp j=>simp only[SV.sw];rw[key j h]
 |mo ob=>rfl
 |pr j t s n x=>simp only[SV.sw];rw[key j h]
 |refx j o b=>simp only[SV.sw];rw[key j h]
 |mpx j b=>simp only[SV.sw];rw[key j h]
 |bnd f j o=>simp only[SV.sw];rw[key j h]
 |ownx j t s n u=>simp only[SV.sw];rw[key j h]
 |junk=>rfl
section
variable {P:Program}
end
section
variable {P:Program} {o:Oper} {S:Nat->SV}
end
section
variable {P:Program}
end
section
variable {P:Program} {o:Oper} {S:Nat->SV}
end
section
variable {P:Program} {n:Fr} {ops:Array Oper} {K:SL->BS->Prop} {S S0 S1:SL} {B B0 B1:BS} {l:List Oper} {o:Oper} {D:SL}
def KI(S1:SL)(B1:BS)(S:SL)(B:BS):Prop:=vE ⟨S,B⟩ ⟨S1,B1⟩
theorem zI(h:vE ⟨S,B⟩ ⟨S1,B1⟩):SK P n ops (KI S1 B1) S B []:=⟨⟨S,B⟩,.nil,h⟩
theorem zOh(k E s:Nat)(r:SK P n ops K ((dO o,.own k E s 0)::S) ((k,some [])::B) l)(h:nilK o=true:=by kernel_rfl)(g:goK n ops S o=true:=by kernel_rfl)(h1:(S.all fun p=>!p.2.names k)=true:=by kernel_rfl)
  (h2:FrB k B:=by repeat first | exact frb_nil _ | refine frb_map rfl ?_ | refine frb_d rfl ?_ | refine frb_cs rfl rfl ?_ | refine frb_none rfl ?_):SK P n ops K S B (o::l):=zO k E s r h g (bX h1 h2)
end
def swJ(k k' J j:Nat)(c:List SV):List SV:=bif Nat.beq j J then c.map (SV.sw k k') else c
theorem mW{S S':SL}{B B':BS}(k k' J:Nat)(h1:S'.map (fun p=>kA S p.1)=S'.map (fun p=>p.2.sw k k'):=by kernel_rfl)(h2:B'.map (fun p=>jZ B (swN k k' p.1))=B'.map (fun p=>p.2.map (swJ k k' J p.1)):=by kernel_rfl)(h3:(B'.all fun p=>!(Nat.beq p.1 k'))=true:=by kernel_rfl)
  (h4:Clr k ((k,none)::B):=by repeat first | exact clr_nil _ | refine clr_self ?_ | refine clr_map ?_ | refine fR ?_ | refine clr_bx ?_ | refine clr_d ?_ | refine clr_cons rfl ?_) (h5:jZ B k=none:=by kernel_rfl):vE ⟨S,B⟩ ⟨S',B'⟩:=fun C a w ⟨D,β,hs⟩=>by
 have hget:∀ {l:BS},(l.map (fun p=>jZ B (swN k k' p.1))=l.map (fun p=>p.2.map (swJ k k' J p.1)))->∀ {j c},jZ l j=some c->jZ B (swN k k' j)=some (swJ k k' J j c):=by
  intro l
  induction l with
  |nil=>intro _ j c h;simp [jZ] at h
  |cons p l ih=>
   intro hl j c hj
   obtain ⟨q,y⟩:=p
   simp only[List.map_cons,List.cons.injEq] at hl
   rw[jJ] at hj
   split at hj
   ·rename_i e;subst e;subst hj;rw[hl.1];rfl
   ·exact ih hl.2 hj
 have hkey:∀ {l:BS},((l.all fun p=>!(Nat.beq p.1 k'))=true)->∀ {j c},jZ l j=some c->j≠k':=by
  intro l
  induction l with
  |nil=>intro _ j c h;simp [jZ] at h
  |cons p l ih=>
   intro hl j c hj e
   obtain ⟨q,y⟩:=p
   simp only[List.all_cons,Bool.and_eq_true,Bool.not_eq_true'] at hl
   rw[jJ] at hj
   split at hj
   ·rename_i e2;subst e2;subst e;simp at hl
   ·exact ih hl.2 hj e
 have hnk:∀ {j c},jZ B j=some c->j≠k/\qF k c=false:=fun {j c} hj=>by
  have hne:j≠k:=fun e=>by subst e;rw[h5] at hj;cases hj
  exact ⟨hne,h4 j c hne (by rw[jJ,if_neg (fun e=>hne e.symm)];exact hj)⟩
 have hsl:∀ {l:SL},(l.map (fun p=>kA S p.1)=l.map (fun p=>p.2.sw k k'))->∀ t,kA l t=.junk\/kA S t=(kA l t).sw k k':=by
  intro l
  induction l with
  |nil=>intro _ t;exact .inl rfl
  |cons p l ih=>
   intro hl t
   obtain ⟨q,y⟩:=p
   simp only[List.map_cons,List.cons.injEq] at hl
   rw[qL]
   split
   ·rename_i e;subst e;exact .inr hl.1
   ·exact ih hl.2 t
 refine ⟨D,fun j=>β (swN k k' j),hs.base,⟨fun j c hj=>?_,fun j1 j2 c1 c2 q1 q2 b e1 e2=>?_⟩,fun j c hj b hb=>hs.high _ _ (hget h2 hj) b hb,fun t=>?_⟩
 ·have hc:=hget h2 hj
  obtain ⟨_,hn⟩:=hnk hc
  rcases hs.mem.ok _ _ hc with (⟨h,h'⟩ | ⟨b,ob,h,h2,h3,h',h5⟩) | ⟨b,vs,T,g1,g2,g3,g4,g5⟩
  ·refine .inl (.inl ⟨h,?_⟩)
   unfold swJ at h'
   cases hJ:Nat.beq j J with
   |true=>rw[hJ,cond_true,List.map_eq_nil_iff] at h';exact h'
   |false=>rw[hJ,cond_false] at h';exact h'
  ·refine .inl (.inr ⟨b,ob,h,h2,h3,?_,h5⟩)
   unfold swJ at h'
   cases hJ:Nat.beq j J with
   |true=>rw[hJ,cond_true] at h';exact sw_mos h'
   |false=>rw[hJ,cond_false] at h';exact h'
  ·unfold swJ at hn g3 g4
   cases hJ:Nat.beq j J with
   |true=>
    rw[hJ,cond_true] at g3 g4
    refine .inr ⟨b,vs,T,g1,g2,by simpa using g3,fun i x hi=>?_,g5⟩
    obtain ⟨u,e1,e2,e3⟩:=g4 i (x.sw k k') (by rw[List.getElem?_map,hi];rfl)
    exact ⟨u,e1,e2,kT.sw e3⟩
   |false=>
    rw[hJ,cond_false] at hn g3 g4
    refine .inr ⟨b,vs,T,g1,g2,g3,fun i x hi=>?_,g5⟩
    obtain ⟨u,e1,e2,e3⟩:=g4 i x hi
    exact ⟨u,e1,e2,kT.sw (by rw[sw_of (names_get hn hi)];exact e3)⟩
 ·have:=hs.mem.inj _ _ _ _ (hget h2 q1) (hget h2 q2) b e1 e2
  have n1:=hkey h3 q1
  have n2:=hkey h3 q2
  by_cases g1:j1=k<;>by_cases g2:j2=k
  ·omega
  ·subst g1;rw[swN_eq,swN_ne g2] at this;omega
  ·subst g2;rw[swN_eq,swN_ne g1] at this;omega
  ·rw[swN_ne g1,swN_ne g2] at this;exact this
 ·show kT w D _ _ (kA S' t)
  rcases hsl h1 t with h | h
  ·rw[h];trivial
  ·have:=hs.slots t
   dsimp only at this
   rw[h] at this
   exact this.sw
section
variable {P:Program} {S:SL} {B:BS} {o:Oper} {x y:Operand} {k:Nat} {T:TypeId}
theorem bxs_get{α:Type}{F:α->jQ}{L:List α}{s i:Nat}{c:jQ}(hF:∀ g,(F g).cells.length=s)(j:Nat)(d:α)(hj:j<L.length)(hi:i<s)(hc:(F (L.getD j d)).cells[i]?=some c):(qS F L)[j*s+i]?=some (.d c):=by
 unfold qS
 rw[List.getElem?_map,flat_get (s:=s) (e:=F (L.getD j d)) (fun e he=>by obtain ⟨g,_,rfl⟩:=List.mem_map.1 he;exact hF g) (by simp [List.getD_eq_getElem?_getD,List.getElem?_eq_getElem hj]) hi,hc]
 rfl
theorem oLs{α:Type}{F:α->jQ}{L:List α}{s i:Nat}{c:jQ}(hs:kZ P T=some (false,1))(j:Nat)(d:α)(ho:o.op=.load T x:=by exact rfl)(hx:ev (kA S) x=.ref k (j*s+i):=by exact rfl)(hb:jZ B k=some (qS F L):=by exact rfl)(hF:∀ g,(F g).cells.length=s:=by intro g;kernel_rfl)(hi:Nat.blt i s=true:=by kernel_rfl)(hc:(F (L.getD j d)).cells[i]?=some c:=by exact rfl)(h1:j<L.length:=by omega):ROk P o S B k (.d c) :=
 ⟨_,e_ld1 ho hx hs (bxs_get hF j d h1 (by simpa [Nat.blt_eq] using hi) hc) rfl,hb⟩
end
section
variable {P:Program} {o:Oper}
theorem oQd{S:Nat->SV}{z:SV}(d d2:jQ)(h:uN P o S [] z)(e:d=d2)(e0:z=.d d:=by kernel_rfl):uN P o S [] (.d d2):=e▸e0▸h
theorem dF{S:SL}{B:BS}{k:Nat}{z:SV}(d d2:jQ)(h:ROk P o S B k z)(e:d=d2)(e0:z=.d d:=by kernel_rfl):ROk P o S B k (.d d2):=e▸e0▸h
end
theorem clrn_nil(k j:Nat):Clr k [(j,none)]:=fR (clr_nil k)
theorem clrn_hide{k j:Nat}{c:Option (List SV)}{bs:BS}(h:Clr k ((j,none)::bs)):Clr k ((j,none)::(j,c)::bs):=fun i x hi hb=>h i x hi (by
 rw[jJ] at hb ⊢
 split at hb
 ·cases hb
 ·rename_i hne;rw[jJ,if_neg hne] at hb;rw[if_neg hne];exact hb)
theorem clrn_at{k j q:Nat}{c:Option (List SV)}{bs:BS}(hc:∀ x,q≠k->c=some x->qF k x=false)(h:Clr k ((j,none)::bs)):Clr k ((j,none)::(q,c)::bs):=fun i x hi hb=>by
 rw[jJ] at hb
 split at hb
 ·cases hb
 ·rename_i hne
  rw[jJ] at hb
  split at hb
  ·rename_i hq;exact hc x (fun e=>hi (hq.symm.trans e)) hb
  ·exact h i x hi (by rw[jJ,if_neg hne];exact hb)
theorem clrn_self{k j:Nat}{x:Option (List SV)}{bs:BS}(h:Clr k ((j,none)::bs)):Clr k ((j,none)::(k,x)::bs):=clrn_at (fun _ e _=>absurd rfl e) h
theorem clrn_none{k j q:Nat}{bs:BS}(h:Clr k ((j,none)::bs)):Clr k ((j,none)::(q,none)::bs):=clrn_at (fun _ _ e=>by cases e) h
theorem clrn_cons{k j q:Nat}{cs:List SV}{bs:BS}(hc:qF k cs=false)(h:Clr k ((j,none)::bs)):Clr k ((j,none)::(q,some cs)::bs):=clrn_at (fun x _ e=>by injection e with e;subst e;exact hc) h
theorem clrn_map{α:Type}{k j q:Nat}{f:α->jQ}{l:List α}{bs:BS}(h:Clr k ((j,none)::bs)):Clr k ((j,none)::(q,some (l.map (fun g=>SV.d (f g))))::bs):=clrn_cons (gG k f l) h
theorem clrn_d{k j q:Nat}{l:List jQ}{bs:BS}(h:Clr k ((j,none)::bs)):Clr k ((j,none)::(q,some (l.map SV.d))::bs):=clrn_cons (gG k id l) h
theorem clrn_bx{k j q:Nat}{d:jQ}{bs:BS}(h:Clr k ((j,none)::bs)):Clr k ((j,none)::(q,some (bx d))::bs):=clrn_d h
end Go.Fid
