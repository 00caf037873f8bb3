/- Part 39 of a proof: rules, plain facts, and functions walked. -/
import Derived.OpenShut
import Derived.Test.YtckccjhflbljgaaGreatDoorM6
import Derived.ChangeArms
import Derived.SizedLaws
import Derived.Test.YtckccjhflbljgaaGreatDoorM21
import Derived.Stop.LaidErr
import Derived.Lib.LaidTab
import Derived.ChangeShapes
import Derived.WideShapes
import Derived.RowKit
import Derived.Carry
import Derived.ChangeOld
import Derived.WideKeyElems2
import Derived.Seven
import Derived.Test.YtckccjhflbljgaaGreatDoorM12
set_option linter.all false
set_option maxRecDepth 4000
namespace Go.Fid
open Go.RowKit (Below)
mutual
inductive Ty where
 |int (k:IntKind)
 |bool
 |sl (E:TypeId) (s:Nat) (e:Ty)
 |st (fs:TyL)
 |ar (n:Nat) (E:TypeId) (fs:TyL)
inductive TyL where
 |nil
 |cons (t:TypeId) (ty:Ty) (r:TyL)
end
mutual
def Ty.size:Ty->Nat
 |.int _=>1
 |.bool=>1
 |.sl _ _ _=>1
 |.st fs=>fs.size
 |.ar _ _ fs=>fs.size
def TyL.size:TyL->Nat
 |.nil=>0
 |.cons _ ty r=>ty.size+r.size
end
def fieldsB:List Field->Nat->TyL->Bool
 |[],_,.nil=>true
 |f::l,off,.cons t ty r=>Nat.beq f.type t&&(Nat.beq f.offset off&&fieldsB l (off+ty.size) r)
 |_,_,_=>false
def arFs(E:TypeId)(z:Nat):Nat->Nat->List Field
 |0,_=>[]
 | n + 1, i => { name := "", type := E, offset := i * z, embedded := false, tag := "", pkgPath := "", byteOffset := 0 } :: arFs E z n (i + 1)
theorem arFs_mem{E:TypeId}{z:Nat}:∀ {n i:Nat} {f:Field},f∈arFs E z n i->∃ j,j<n/\f.type=E/\f.offset=(i+j)*z
 |0,_,_,h=>by cases h
 |n+1,i,f,h=>by
  rcases List.mem_cons.1 h with e | h
  ·exact ⟨0,by omega,by rw[e],by rw[e];rfl⟩
  ·obtain ⟨j,h1,h2,h3⟩:=arFs_mem h
   exact ⟨j+1,by omega,h2,by rw[h3];congr 1;omega⟩
mutual
def tyB(P:Program):TypeId->Ty->Bool
 |t,.int k=>match P.underlying t with
  |some (.int k')=>decide (k'=k)
  |_=>false
 |t,.bool=>match P.underlying t with
  |some .bool=>true
  |_=>false
 |t,.sl E s e=>match P.underlying t with
  |some (.slice E')=>Nat.beq E' E&&(Nat.beq (P.cellsOf E) s&&(Nat.beq e.size s&&(Nat.ble 1 s&&(Nat.ble 1 (P.bytesOf E)&&tyB P E e))))
  |_=>false
 |t,.st fs=>match P.underlying t with
  |some (.struct fds)=>Nat.beq (P.cellsOf t) fs.size&&(fieldsB fds.toList 0 fs&&tysB P fs)
  |_=>false
 |t,.ar n E fs=>match P.underlying t with
  |some (.array n' E')=>Nat.beq n' n&&(Nat.beq E' E&&(Nat.beq (P.cellsOf t) fs.size&&(fieldsB (arFs E (P.cellsOf E) n 0) 0 fs&&tysB P fs)))
  |_=>false
def tysB(P:Program):TyL->Bool
 |.nil=>true
 |.cons t ty r=>Nat.beq (P.cellsOf t) ty.size&&(tyB P t ty&&tysB P r)
end
def isSt:Ty->Bool
 |.st _=>true
 |.ar _ _ _=>true
 |_=>false
def mkD(ty:Ty)(ds:List jS):jS:=bif isSt ty then .agg ds else ds.headD (.tup [])
mutual
def Sh:Ty->List jS->Prop
 |.int k,ds=>∃ z,ds=[.val (.int k z)]/\(Lit.int k z).wf=true
 |.bool,ds=>∃ b,ds=[.val (.bool b)]
 |.sl E s e,ds=>∃ es:List (List jS),ds=[.sl E s (es.map (mkD e))]/\es.length<=140737488355328/\∀ x∈es,Sh e x
 |.st fs,ds=>ShL fs ds
 |.ar _ _ fs,ds=>ShL fs ds
def ShL:TyL->List jS->Prop
 |.nil,ds=>ds=[]
 |.cons _ ty r,ds=>∃ a b,ds=a++b/\Sh ty a/\ShL r b
end
mutual
theorem Sh.len:∀ {ty:Ty} {ds:List jS},Sh ty ds->ds.length=ty.size
 |.int k,ds,h=>by obtain ⟨z,rfl,_⟩:=h;rfl
 |.bool,ds,h=>by obtain ⟨b,rfl⟩:=h;rfl
 |.sl E s e,ds,h=>by obtain ⟨es,rfl,_⟩:=h;rfl
 |.st fs,ds,h=>ShL.len (h:ShL fs ds)
 |.ar _ _ fs,ds,h=>ShL.len (h:ShL fs ds)
theorem ShL.len:∀ {fs:TyL} {ds:List jS},ShL fs ds->ds.length=fs.size
 |.nil,ds,h=>by have h:ds=[]:=h;subst h;rfl
 |.cons t ty r,ds,h=>by
  obtain ⟨a,b,rfl,h1,h2⟩:=h
  rw[List.length_append,Sh.len h1,ShL.len h2];rfl
end
theorem mkD_cells{ty:Ty}{ds:List jS}(h:Sh ty ds):(mkD ty ds).cells=ds:=by
 cases ty with
 |int k=>obtain ⟨z,rfl,_⟩:=h;rfl
 |bool=>obtain ⟨b,rfl⟩:=h;rfl
 |sl E s e=>obtain ⟨es,rfl,_⟩:=h;rfl
 |st fs=>rfl
 |ar n E fs=>rfl
def oldD(w:World):kQ:=fun _ g _=>g<w.heap.size
def RepC(w:World)(cs:List Value)(ds:List jS):Prop:=ds.length=cs.length/\(∀ v∈cs,v.oneCell'=true)/\∀ (i:Nat) v d,cs[i]?=some v->ds[i]?=some d->uS w (oldD w) v d
theorem RepC.append{w:World}{cs1 cs2:List Value}{d1 d2:List jS}(h1:RepC w cs1 d1)(h2:RepC w cs2 d2):RepC w (cs1++cs2) (d1++d2):=by
 refine ⟨by rw[List.length_append,List.length_append,h1.1,h2.1],fun v hv=>?_,fun i v d hv hd=>?_⟩
 ·rcases List.mem_append.1 hv with h | h
  ·exact h1.2.1 v h
  ·exact h2.2.1 v h
 ·by_cases hi:i<cs1.length
  ·rw[List.getElem?_append_left hi] at hv
   rw[List.getElem?_append_left (by rw[h1.1];exact hi)] at hd
   exact h1.2.2 i v d hv hd
  ·rw[List.getElem?_append_right (by omega)] at hv
   rw[List.getElem?_append_right (by rw[h1.1];omega),h1.1] at hd
   exact h2.2.2 _ v d hv hd
section
variable {H:Type} {enc:TypeId × Value->H} {P:Program} {w:World} {sp:Nat->Bool} {held:Bool}
theorem fY{e:TypeId}:∀ {l:List (DataW H)} {d:DataW H},d∈l->∀ {n:Nat},n∈d.weights P e->n∈DataW.weightsAll P e l
 |[],_,h,_,_=>by cases h
 |x::l,d,h,n,hn=>by
  simp only[DataW.weightsAll]
  rcases List.mem_cons.1 h with rfl | h
  ·exact List.mem_append_left _ hn
  ·exact List.mem_append_right _ (fY h hn)
theorem cells_get{a:Addr}{n:Nat}{cs:List Value}(h:w.cells? 0 a n=some cs):cs.length=n/\∀ i,i<n->w.cell? (a.add i)=cs[i]?:=by
 unfold World.cells? at h
 rw[if_pos (Nat.zero_le _)] at h
 refine ⟨by simpa using mapM_some_length h,fun i hi=>?_⟩
 have:=mapM_some_get h i i (by simp [hi])
 exact this
theorem drop_take_split{α:Type}{cs:List α}{off n m:Nat}(h:cs.length=off+(n+m)):cs.drop off=(cs.drop off).take n++cs.drop (off+n):=by
 rw[<- List.drop_drop,List.take_append_drop]
mutual
theorem bridge:∀ {ty:Ty} {t:TypeId} {fuel:Nat} {cs:List Value} {x:DataW H × List MemPlace},tyB P t ty=true->DataW.trod enc P w 0 sp held fuel t cs=some x->(∀ n∈x.1.weights P t,n<=reachBytes)->∃ ds,RepC w cs ds/\Sh ty ds
 |.int k,t,fuel,cs,x,ht,h,_=>by
  unfold tyB at ht
  split at ht
  ·rename_i k' hu
   obtain rfl:k'=k:=of_decide_eq_true ht
   obtain ⟨n,rfl,_,hw⟩:=DataW.trod_int hu h
   refine ⟨[.val (.int k' n)],⟨rfl,by simp [Value.oneCell'],fun i v d hv hd=>?_⟩,n,rfl,hw⟩
   rcases i with _ | i
   ·simp at hv hd;subst hv;subst hd;exact .val _
   ·simp at hv
  ·cases ht
 |.bool,t,fuel,cs,x,ht,h,_=>by
  unfold tyB at ht
  split at ht
  ·rename_i hu
   obtain ⟨b,rfl,_⟩:=DataW.trod_bool hu h
   refine ⟨[.val (.bool b)],⟨rfl,by simp [Value.oneCell'],fun i v d hv hd=>?_⟩,b,rfl⟩
   rcases i with _ | i
   ·simp at hv hd;subst hv;subst hd;exact .val _
   ·simp at hv
  ·cases ht
 |.sl E s e,t,fuel,cs,x,ht,h,hwt=>by
  unfold tyB at ht
  split at ht
  ·rename_i E' hu
   simp only[Bool.and_eq_true] at ht
   obtain ⟨h1,h2,h3,h4,h6,h5⟩:=ht
   obtain rfl:E'=E:=Nat.eq_of_beq_eq_true h1
   have hs:P.cellsOf E'=s:=Nat.eq_of_beq_eq_true h2
   have hes:e.size=s:=Nat.eq_of_beq_eq_true h3
   have hs1:1<=s:=Nat.le_of_ble_eq_true h4
   have one:∀ v:Value,v.oneCell'=true->∀ d,uS w (oldD w) v d->RepC w [v] [d]:=fun v h1 d h2=>⟨rfl,by simpa using h1,fun i v' d' hv hd=>by
    rcases i with _ | i
    ·simp at hv hd;subst hv;subst hd;exact h2
    ·simp at hv⟩
   rcases DataW.trod_slice hu h with ⟨rfl,_⟩ | ⟨a,len,cap,elems,xH,n,_,rfl,hx,_,hl,hm,qK,hel,_⟩
   ·exact ⟨[.sl E' s []],one _ rfl _ (aO w _ E' s),[],rfl,Nat.zero_le _,by simp⟩
   ·have hws:∀ n∈(elems.length+xH.length)*P.bytesOf E'::(DataW.weightsAll P E' (elems.map (·.1))++DataW.weightsAll P E' (xH.map (·.1))),n<=reachBytes:=by
     intro n hn
     refine hwt n ?_
     rw[hx]
     simp only[DataW.weights,hu,List.length_map]
     exact hn
    have hlen47:len<=140737488355328:=by
     have h7:=hws _ (List.mem_cons_self)
     have h8:1<=P.bytesOf E':=Nat.le_of_ble_eq_true h6
     have h9:=Nat.mul_le_mul_left (elems.length+xH.length) h8
     have h10:=reachBytes_lt
     omega
    have each:∀ i,∃ d:List jS × List Value,i<len->(d.2.length=s/\(∀ j,j<s->w.cell? ((a.add (i*s)).add j)=d.2[j]?)/\RepC w d.2 d.1/\Sh e d.1):=by
     intro i
     by_cases hi:i<len
     ·have he:=hel i hi
      rw[List.getElem?_eq_getElem (by omega),hs] at he
      cases hc:w.cells? 0 (a.add (i*s)) s with
      |none=>rw[hc] at he;cases he
      |some ci=>
       rw[hc] at he
       obtain ⟨g1,g2⟩:=cells_get hc
       have hmem:elems[i]∈elems:=List.getElem_mem _
       obtain ⟨ds,r1,r2⟩:=bridge (ty:=e) h5 he (fun n hn=>hws n (by
        refine List.mem_cons_of_mem _ (List.mem_append_left _ ?_)
        exact fY (List.mem_map_of_mem (f:=(·.1)) hmem) hn))
       exact ⟨(ds,ci),fun _=>⟨g1,g2,r1,r2⟩⟩
     ·exact ⟨([],[]),fun h=>absurd h hi⟩
    obtain ⟨F,hF⟩:=Classical.axiomOfChoice each
    have hspot:0<len->a=⟨a.block,a.off,none⟩/\a.block<w.heap.size:=by
     intro h0
     obtain ⟨q1,q2,_,_⟩:=hF 0 h0
     have q3:=q2 0 (by omega)
     rw[List.getElem?_eq_getElem (by omega)] at q3
     obtain ⟨b,o,sp'⟩:=a
     cases sp' with
     |none=>
      refine ⟨rfl,?_⟩
      unfold World.cell? at q3
      split at q3
      ·rename_i c _ _ hh
       simpa [Addr.add] using (Array.getElem?_eq_some_iff.1 hh).1
      ·cases q3
     |some z=>
      exfalso
      unfold World.cell? at q3
      split at q3
      ·simp [Addr.add] at q3
      ·cases q3
    have hesl:∀ d∈((List.range len).map fun i=>mkD e (F i).1),d.cells.length=s:=by
     intro d hd
     rw[List.mem_map] at hd
     obtain ⟨i,hi,rfl⟩:=hd
     obtain ⟨q1,q2,q3,q4⟩:=hF i (by simpa using hi)
     rw[mkD_cells q4,Sh.len q4,hes]
    have hfl:=vJ hesl
    rw[List.length_map,List.length_range] at hfl
    have hget:∀ q,q<len*s->∃ u d,w.cell? (a.add q)=some u/\(qA ((List.range len).map fun i=>mkD e (F i).1))[q]?=some d/\u.oneCell'=true/\uS w (oldD w) u d:=by
     intro q hq
     have hi:q / s<len:=(Nat.div_lt_iff_lt_mul (by omega)).2 hq
     have hj:q % s<s:=Nat.mod_lt _ (by omega)
     have hqe:q / s*s+q % s=q:=by rw[Nat.mul_comm];exact Nat.div_add_mod q s
     obtain ⟨q1,q2,q3,q4⟩:=hF (q / s) hi
     have c1:=q2 (q % s) hj
     have c2:((a.add (q / s*s)).add (q % s))=a.add q:=by
      rw[(hspot (Nat.lt_of_le_of_lt (Nat.zero_le _) hi)).1,Addr.add_lit,Addr.add_lit,Addr.add_lit,Nat.add_assoc,hqe]
     have hlen1:(F (q / s)).1.length=s:=by rw[q3.1,q1]
     have c4:(F (q / s)).1[q % s]?=some ((F (q / s)).1[q % s]'(by rw[hlen1];exact hj)):=List.getElem?_eq_getElem _
     have c5:(F (q / s)).2[q % s]?=some ((F (q / s)).2[q % s]'(by rw[q1];exact hj)):=List.getElem?_eq_getElem _
     rw[c2,c5] at c1
     have c3:=flat_get (es:=(List.range len).map fun i=>mkD e (F i).1) (i:=q / s) (j:=q % s) (e:=mkD e (F (q / s)).1) hesl (by rw[List.getElem?_map,List.getElem?_range hi];rfl) hj
     rw[hqe,mkD_cells q4,c4] at c3
     exact ⟨_,_,c1,c3,q3.2.1 _ (List.getElem_mem _),q3.2.2 (q % s) _ _ c5 c4⟩
    refine ⟨[.sl E' s ((List.range len).map fun i=>mkD e (F i).1)],one _ rfl _ ?_,(List.range len).map fun i=>(F i).1,?_,by simpa using hlen47,?_⟩
    ·rcases Nat.eq_zero_or_pos len with h0 | h0
     ·subst h0
      exact uS.sl 0 0 (fun _=>undef) (by simp) hl hm (by simp) (fun h=>absurd h (Nat.lt_irrefl 0)) (by simp [qA]) (by simp [qA]) (by simp [qA]) (by simp [qA])
     ·obtain ⟨ha,hb⟩:=hspot h0
      refine uS.sl a.block a.off (fun q=>(w.cell? (a.add q)).getD undef) (by simp) hl hm hesl (fun _=>congrArg some ha) (fun q hq=>hb) (fun q hq=>?_) (fun q hq=>?_) (fun q d hd=>?_)
      ·obtain ⟨u,d,g1,_,_,_⟩:=hget q (by omega)
       have e1:a.add q=⟨a.block,a.off+q,none⟩:=by rw[ha,Addr.add_lit]
       rw[<- e1,g1];rfl
      ·obtain ⟨u,d,g1,_,g3,_⟩:=hget q (by omega)
       rw[g1];exact g3
      ·have hq:=(List.getElem?_eq_some_iff.1 hd).1
       obtain ⟨u,d',g1,g2,_,g4⟩:=hget q (by omega)
       rw[hd] at g2
       injection g2 with g2
       subst g2
       rw[g1];exact g4
    ·rw[List.map_map];rfl
    ·intro y hy
     rw[List.mem_map] at hy
     obtain ⟨i,hi,rfl⟩:=hy
     exact (hF i (by simpa using hi)).2.2.2
  ·cases ht
 |.st fs,t,fuel,cs,x,ht,h,hwt=>by
  unfold tyB at ht
  split at ht
  ·rename_i fds hu
   simp only[Bool.and_eq_true] at ht
   obtain ⟨h1,h2,h3⟩:=ht
   obtain ⟨xs,n,_,hx,hl,hxl,hf⟩:=DataW.trod_struct hu h
   have hcl:cs.length=0+fs.size:=by rw[hl,Nat.eq_of_beq_eq_true h1,Nat.zero_add]
   have key:=bridgeL (fs:=fs) (off:=0) (cs:=cs) (l:=fds.toList) (n:=n) h2 h3 hcl (fun f hfm=>by
    obtain ⟨i,hi⟩:=List.getElem?_of_mem hfm
    have:=hf i f (by simpa using hi)
    have hlt:i<xs.length:=by
     have:=(List.getElem?_eq_some_iff.1 hi).1
     simp at this;omega
    rw[List.getElem?_eq_getElem hlt] at this
    refine ⟨_,this,fun m hm=>hwt m ?_⟩
    rw[hx]
    simp only[DataW.weights,hu]
    exact DataW.weights_mem_each (j:=i) (by rw[List.getElem?_map,hi];rfl) (by rw[List.getElem?_map,List.getElem?_eq_getElem hlt];rfl) m hm)
   rw[List.drop_zero] at key
   exact key
  ·cases ht
 |.ar k E fs,t,fuel,cs,x,ht,h,hwt=>by
  unfold tyB at ht
  split at ht
  ·rename_i k' E' hu
   simp only[Bool.and_eq_true] at ht
   obtain ⟨h0,h1,h4,h2,h3⟩:=ht
   obtain rfl:k'=k:=Nat.eq_of_beq_eq_true h0
   obtain rfl:E'=E:=Nat.eq_of_beq_eq_true h1
   obtain ⟨xs,n,_,hx,hl,hxl,hf⟩:=DataW.trod_array hu h
   have hcl:cs.length=0+fs.size:=by rw[hl,Nat.eq_of_beq_eq_true h4,Nat.zero_add]
   have key:=bridgeL (fs:=fs) (off:=0) (cs:=cs) (l:=arFs E' (P.cellsOf E') k' 0) (n:=n) h2 h3 hcl (fun f hfm=>by
    obtain ⟨j,hj,ft,fo⟩:=arFs_mem hfm
    have:=hf j hj
    have hlt:j<xs.length:=by omega
    rw[List.getElem?_eq_getElem hlt] at this
    refine ⟨xs[j],?_,fun m hm=>hwt m ?_⟩
    ·rw[ft,fo,Nat.zero_add];exact this
    ·rw[hx]
     simp only[DataW.weights,hu]
     rw[ft] at hm
     exact fY (List.mem_map_of_mem (f:=(·.1)) (List.getElem_mem hlt)) hm)
   rw[List.drop_zero] at key
   exact key
  ·cases ht
theorem bridgeL:∀ {fs:TyL} {l:List Field} {off n:Nat} {cs:List Value},fieldsB l off fs=true->tysB P fs=true->cs.length=off+fs.size->(∀ f∈l,∃ y,DataW.trod enc P w 0 sp held n f.type ((cs.drop f.offset).take (P.cellsOf f.type))=some y/\∀ m∈y.1.weights P f.type,m<=reachBytes) ->
  ∃ ds,RepC w (cs.drop off) ds/\ShL fs ds
 |.nil,l,off,n,cs,h1,h2,h3,h4=>by
  have:cs.drop off=[]:=List.drop_eq_nil_of_le (by rw[h3];exact Nat.le_refl _)
  rw[this]
  exact ⟨[],⟨rfl,by simp,by simp⟩,rfl⟩
 |.cons t ty r,l,off,n,cs,h1,h2,h3,h4=>by
  cases l with
  |nil=>cases h1
  |cons f l=>
   simp only[fieldsB,Bool.and_eq_true] at h1
   obtain ⟨e1,e2,e3⟩:=h1
   simp only[tysB,Bool.and_eq_true] at h2
   obtain ⟨f1,f2,f3⟩:=h2
   have et:=Nat.eq_of_beq_eq_true e1
   have eo:=Nat.eq_of_beq_eq_true e2
   have ec:=Nat.eq_of_beq_eq_true f1
   obtain ⟨y,hy,hyw⟩:=h4 f (by simp)
   rw[et,eo,ec] at hy
   rw[et] at hyw
   obtain ⟨d1,r1,s1⟩:=bridge (ty:=ty) f2 hy hyw
   have h3':cs.length=off+ty.size+r.size:=by rw[h3];show off+(ty.size+r.size)=_;omega
   obtain ⟨d2,r2,s2⟩:=bridgeL (fs:=r) (off:=off+ty.size) (cs:=cs) (l:=l) (n:=n) e3 f3 h3' (fun g hg=>h4 g (by simp [hg]))
   refine ⟨d1++d2,?_,d1,d2,rfl,s1,s2⟩
   rw[drop_take_split (cs:=cs) (off:=off) (n:=ty.size) (m:=r.size) (by omega)]
   exact r1.append r2
end
theorem open_arg{ty:Ty}{t:TypeId}{v:Value}{d:DataW H}{p:List MemPlace}(hty:tyB P t ty=true)(hv:isSt ty=true->∃ cs,v=.agg cs)(hv1:isSt ty=false->v.cells=#[v])(h:DataW.Trod enc P w 0 sp held t v d p)(hwt:∀ n∈d.weights P t,n<=reachBytes) :
  ∃ ds,uS w (oldD w) v (mkD ty ds)/\Sh ty ds:=by
 obtain ⟨fuel,hf⟩:=h
 obtain ⟨ds,hr,hs⟩:=bridge (ty:=ty) hty hf hwt
 refine ⟨ds,?_,hs⟩
 cases hst:isSt ty with
 |true=>
  obtain ⟨cs,rfl⟩:=hv hst
  have e:mkD ty ds=.agg ds:=by unfold mkD;rw[hst];rfl
  rw[e]
  have:=uS.agg (w:=w) (D:=oldD w) (cs:=ds) cs.toList hr.1.symm hr.2.1 hr.2.2
  simpa using this
 |false=>
  have hv2:=hv1 hst
  have hc:=hr.1
  rw[hv2] at hr
  simp only[Array.toList] at hr
  obtain ⟨h1,h2,h3⟩:=hr
  have hl:ds.length=1:=by simpa using h1
  obtain ⟨d0,rfl⟩:=List.length_eq_one_iff.1 hl
  have e:mkD ty [d0]=d0:=by unfold mkD;rw[hst];rfl
  rw[e]
  exact h3 0 v d0 rfl rfl
end
theorem oldD_ok(w:World)(h:TabOk (oldD w) w):iI (oldD w) w:=⟨fun _ _ _ h=>h,h⟩
end Go.Fid
namespace Go.Proofs.YtckccjhflbljgaaGreatDoor
open Go.Fid Go.RowKit
theorem powT_of {W : World} (h : Lib.TabIs Tryz.prog W "internal/strconv.uint64pow10" .u64 Lib.pow10Tab) : TabOk (oldD W) W := fun G hG i => by
 obtain rfl:1=G:=Option.some.inj hG
 have hg : Tryz.prog.globalNamed "internal/strconv.uint64pow10" = some 1 := by kernel_rfl
 have hc:=fun i=>World.var?_cell hg h i
 refine ⟨?_,(hc i).trans (by simp [tabV,Lib.pow10Tab,Function.comp_def])⟩
 show 1<W.heap.size
 rcases hG:W.heap[1]? with _ | ob
 ·have:=hc 0
  unfold World.cell? at this
  rw[hG] at this
  simp [Lib.pow10Tab] at this
 ·exact qV hG
theorem powT_ok {W : World} {x y : String × DataW Unit} {l : List (String × DataW Unit)} (h : laidMet Tryz.prog (x :: y :: ("internal/strconv.uint64pow10", Lib.tabData .u64 Lib.pow10Tab) :: l) W) : TabOk (oldD W) W :=
 powT_of (Lib.tabIs_of_head (g:=1) (t:=208) (e:=137) (n:=20) (by kernel_rfl) (by kernel_rfl) (by kernel_rfl) (by kernel_rfl) (by kernel_rfl) (by kernel_rfl) h.tail.tail)
end Go.Proofs.YtckccjhflbljgaaGreatDoor
namespace Go.Fid
open Go.RowKit (Below)
open Go.ChangeShapes Go.WideShapes Go.RowKit
inductive ShAll:List Ty->List (List jS)->Prop
 |nil:ShAll [] []
 |cons {ty:Ty} {tys:List Ty} {ds:List jS} {dss:List (List jS)} (h:Sh ty ds) (r:ShAll tys dss):ShAll (ty::tys) (ds::dss)
def mkAll:List Ty->List (List jS)->List jS
 |ty::tys,ds::dss=>mkD ty ds::mkAll tys dss
 |_,_=>[]
def formsB(P:Program):List TypeId->List Ty->Bool
 |[],[]=>true
 |t::ts,ty::tys=>tyB P t ty&&formsB P ts tys
 |_,_=>false
section
variable {H:Type} {enc:TypeId × Value->H} {P:Program} {w:World} {sp:Nat->Bool} {held:Bool}
theorem ok_st{ty:Ty}{t:TypeId}{v:Value}{base:Nat}(ht:tyB P t ty=true)(h:Value.okWide P w .any base t v):(isSt ty=true->∃ cs,v=.agg cs)/\(isSt ty=false->v.cells=#[v]):=by
 cases ty with
 |int k=>
  unfold tyB at ht
  split at ht
  ·rename_i k' hu
   obtain ⟨n,rfl⟩:=okWide_int hu h
   exact ⟨(fun h=>by cases h),fun _=>rfl⟩
  ·cases ht
 |bool=>
  unfold tyB at ht
  split at ht
  ·rename_i hu
   obtain ⟨b,rfl⟩:=okWide_bool hu h
   exact ⟨(fun h=>by cases h),fun _=>rfl⟩
  ·cases ht
 |sl E s e=>
  unfold tyB at ht
  split at ht
  ·rename_i E' hu
   obtain ⟨a,l,c,rfl⟩:=okWide_slice hu h
   exact ⟨(fun h=>by cases h),fun _=>rfl⟩
  ·cases ht
 |st fs=>
  unfold tyB at ht
  split at ht
  ·rename_i fds hu
   obtain ⟨cs,rfl,_⟩:=okWide_struct hu h
   exact ⟨fun _=>⟨cs,rfl⟩,(fun h=>by cases h)⟩
  ·cases ht
 |ar n E fs=>
  unfold tyB at ht
  split at ht
  ·rename_i n' E' hu
   simp only[Value.okWide,hu] at h
   obtain ⟨cs,rfl,_⟩:=h
   exact ⟨fun _=>⟨cs,rfl⟩,(fun h=>by cases h)⟩
  ·cases ht
theorem each_left:∀ {ts us:List TypeId} {ds gs:List (DataW H)} {n:Nat},n∈DataW.weightsEach P ts ds->n∈DataW.weightsEach P (ts++us) (ds++gs)
 |[],_,_,_,_,h=>by simp [DataW.weightsEach] at h
 |t::ts,us,[],gs,n,h=>by simp [DataW.weightsEach] at h
 |t::ts,us,d::ds,gs,n,h=>by
  simp only[DataW.weightsEach] at h
  simp only[List.cons_append,DataW.weightsEach]
  rcases List.mem_append.1 h with h | h
  ·exact List.mem_append_left _ h
  ·exact List.mem_append_right _ (each_left h)
theorem open_args{base:Nat}:∀ {ts:List TypeId} {tys:List Ty} {vs:List Value} {ds:List (DataW H)} {ps:List MemPlace},formsB P ts tys=true->(∀ (j:Nat) t v,ts[j]?=some t->vs[j]?=some v->Value.okWide P w .any base t v)->DataW.TrodAll enc P w 0 sp held ts vs ds ps->(∀ n∈DataW.weightsEach P ts ds,n<=reachBytes) ->
  ∃ dss,ShAll tys dss/\Args w (oldD w) vs (mkAll tys dss)/\vs.length=ts.length
 |[],[],vs,ds,ps,_,_,h,_=>by
  obtain ⟨rfl,rfl,rfl⟩:=trodAll_nil h
  exact ⟨[],.nil,⟨rfl,by simp⟩,rfl⟩
 |t::ts,ty::tys,vs,ds,ps,hf,hok,h,hwt=>by
  simp only[formsB,Bool.and_eq_true] at hf
  obtain ⟨v,vs',d,ds',p,q,rfl,rfl,rfl,h1,h2⟩:=trodAll_cons h
  obtain ⟨k1,k2⟩:=ok_st hf.1 (hok 0 t v rfl rfl)
  obtain ⟨dd,r1,r2⟩:=open_arg hf.1 k1 k2 h1 (fun n hn=>hwt n (by simp only[DataW.weightsEach];exact List.mem_append_left _ hn))
  obtain ⟨dss,r3,r4,r5⟩:=open_args (ts:=ts) (tys:=tys) hf.2 (fun j t v a b=>hok (j+1) t v (by simpa using a) (by simpa using b)) h2 (fun n hn=>hwt n (by simp only[DataW.weightsEach];exact List.mem_append_right _ hn))
  refine ⟨dd::dss,.cons r2 r3,⟨by simp [mkAll,r4.1],fun i v' d' hv hd=>?_⟩,by simp [r5]⟩
  rcases i with _ | i
  ·simp [mkAll] at hv hd;subst hv;subst hd;exact r1
  ·exact r4.2 i v' d' (by simpa using hv) (by simpa [mkAll] using hd)
 |[],_::_,_,_,_,hf,_,_,_=>by cases hf
 |_::_,[],_,_,_,hf,_,_,_=>by cases hf
theorem again_all{W W':World}(hl:laidOutB P=true)(hb:Below W.heap.size W W'):∀ {ts:List TypeId} {vs:List Value} {ds:List (DataW H)} {ps:List MemPlace},(ts.all fun t=>P.readableRec t&&Nat.blt t P.types.size)=true->(∀ x∈ps,x.block<W.heap.size)->DataW.TrodAll enc P W 0 (fun _=>true) true ts vs ds ps ->
  DataW.TrodAll enc P W' 0 (fun b=>decide (b<W.heap.size)) true ts vs ds ps
 |[],vs,ds,ps,_,_,h=>by
  obtain ⟨rfl,rfl,rfl⟩:=trodAll_nil h
  exact rfl
 |t::ts,vs,ds,ps,hr,hlt,h=>by
  obtain ⟨v,vs',d,ds',p,q,rfl,rfl,rfl,h1,h2⟩:=trodAll_cons h
  simp only[List.all_cons,Bool.and_eq_true] at hr
  exact ⟨p,q,Below.trod hl hr.1.1 (Nat.le_of_ble_eq_true hr.1.2) h1 hb (fun x hx=>hlt x (by simp [hx])),again_all hl hb hr.2 (fun x hx=>hlt x (by simp [hx])) h2,rfl⟩
end
theorem law_contract{H:Type}{enc:TypeId × Value->H}{P:Program}{f:FuncId}{fn:Func}{s:ChangeSpec}{tys:List Ty}{B:TypeId}(hl:laidOutB P=true)(hvars:s.vars=[])(hres:fn.resultTypes.toList=[B])(hB:P.underlying B=some .bool)
  (hrr:(fn.params.toList.all fun t=>P.readableRec t&&Nat.blt t P.types.size)=true) (hty:formsB P fn.params.toList tys=true)
  (hspec:∀ ds:List (DataW H),ds.length=fn.params.toList.length->(s.fn H ds).results=[.lit (.bool true)]/\(s.fn H ds).args=ds/\(s.fn H ds).vars=[])
  (ht:∀ dss,ShAll tys dss->jQ P f (mkAll tys dss) (.val (.bool true)))
  (W:World) (htab:TabOk (oldD W) W) (base:Nat) (args:Array Value) (ds gs:List (DataW H)) (before:List MemPlace) (hval:∀ (j:Nat) t v,fn.params[j]?=some t->args[j]?=some v->Value.okWide P W .any base t v)
  (hW:DataW.Whole enc P fn.params.toList s.vars false W args.toList ds gs before) (hwt:(DataW.weightsEach P (fn.params.toList++s.plain.varTypes P) (ds++gs)).all (·<=reachBytes)=true) :
  Calls P f args W fun e W'=>∃ v,e=.returned v/\s.post enc P fn false true false false W args v W':=by
 have hW':=hW
 obtain ⟨p,q,hA,hV,rfl,_,_⟩:=hW
 rw[hvars] at hV
 obtain ⟨rfl,rfl⟩:=trodVars_none hV
 obtain ⟨dss,r1,r2,r3⟩:=open_args (P:=P) (w:=W) (base:=base) hty (fun j t v a b=>hval j t v (by simpa using a) (by simpa using b)) hA (fun n hn=>by
  rw[List.all_eq_true] at hwt
  have:=hwt n (each_left hn)
  simpa using this)
 have hlt:=hW'.lt
 have qK:ds.length=fn.params.toList.length:=by
  have:∀ {ts:List TypeId} {vs:List Value} {ds:List (DataW H)} {ps:List MemPlace},DataW.TrodAll enc P W 0 (fun _=>true) true ts vs ds ps->ds.length=ts.length:=by
   intro ts
   induction ts with
   |nil=>intro vs ds ps h;obtain ⟨_,rfl,_⟩:=trodAll_nil h;rfl
   |cons t ts ih=>intro vs ds ps h;obtain ⟨v,vs',d,ds',p,q,rfl,rfl,rfl,h1,h2⟩:=trodAll_cons h;simp [ih h2]
  exact this hA
 have hc:=(ht dss r1).run W (oldD W) args.toList (oldD_ok W htab) r2
 refine hc.mono fun e W' h=>?_
 obtain ⟨v,D',he,h1,h2,h3⟩:=h
 have hv:=rep_bool h3
 subst hv
 obtain ⟨s1,s2,s3⟩:=hspec ds qK
 refine ⟨_,he,ds,[],_,[],p,[],hW',?_,?_,?_,h1.frame _,fun h=>by cases h⟩
 ·rw[List.append_nil,s1,hres]
  have hsz:fn.resultTypes.size=1:=by
   have:=congrArg List.length hres
   simpa using this
  rw[hsz]
  exact trodAll_mk1 (shut_bool hB true)
 ·rw[List.append_nil,s2]
  exact again_all hl h1 hrr (fun x hx=>hlt x (by simp [hx])) hA
 ·rw[List.append_nil,s3,hvars]
  exact rfl
theorem sh_slice{α:Type}{E s:Nat}{ty:Ty}{F:α->jS}{L:α->Prop}(hF:∀ x,Sh ty x->∃ a,mkD ty x=F a/\L a){ds:List jS}(h:Sh (.sl E s ty) ds) :
  ∃ l:List α,mkD (.sl E s ty) ds=.sl E s (l.map F)/\(∀ a∈l,L a)/\l.length<=140737488355328:=by
 obtain ⟨es,rfl,h1,h2⟩:=h
 have h3:∀ es:List (List jS),(∀ x∈es,Sh ty x)->∃ l:List α,es.map (mkD ty)=l.map F/\(∀ a∈l,L a)/\l.length=es.length:=by
  intro es
  induction es with
  |nil=>intro _;exact ⟨[],rfl,by simp,rfl⟩
  |cons x es ih=>
   intro hx
   obtain ⟨l,e1,e2,e3⟩:=ih (fun y hy=>hx y (by simp [hy]))
   obtain ⟨a,e4,e5⟩:=hF x (hx x (by simp))
   refine ⟨a::l,by rw[List.map_cons,List.map_cons,e1,e4],fun b hb=>?_,by simp [e3]⟩
   rcases List.mem_cons.1 hb with rfl | hb
   ·exact e5
   ·exact e2 b hb
 obtain ⟨l,e1,e2,e3⟩:=h3 es h2
 exact ⟨l,by rw[<- e1];rfl,e2,by omega⟩
end Go.Fid
namespace Go.Proofs.YtckccjhflbljgaaGreatDoor
open Go.Fid
def Len_i64(z:Int):Prop:=-9223372036854775808<=z/\z<=9223372036854775807
theorem sc_i64{ds:List jS}(h:Sh (.int .i64) ds):∃ z:Int,ds=[.val (.int .i64 z)]/\Len_i64 z:=by
 obtain ⟨z,rfl,hw⟩:=h
 simp only[Lit.wf,Bool.and_eq_true,decide_eq_true_eq] at hw
 exact ⟨z,rfl,(show (-9223372036854775808:Int)<=z from hw.1),(show z<=(9223372036854775807:Int) from hw.2)⟩
def Len_bool(_:Bool):Prop:=True
theorem sc_bool{ds:List jS}(h:Sh .bool ds):∃ b:Bool,ds=[.val (.bool b)]/\Len_bool b:=by
 obtain ⟨b,rfl⟩:=h
 exact ⟨b,rfl,trivial⟩
def Len_u32(n:Nat):Prop:=n<=4294967295
theorem sc_u32{ds:List jS}(h:Sh (.int .u32) ds):∃ n:Nat,ds=[.val (.int .u32 ((n:Nat):Int))]/\Len_u32 n:=by
 obtain ⟨z,rfl,hw⟩:=h
 simp only[Lit.wf,Bool.and_eq_true,decide_eq_true_eq] at hw
 have h0:0<=z:=hw.1
 exact ⟨z.toNat,by rw[Int.toNat_of_nonneg h0],by have h1:z<=(4294967295:Int):=hw.2;unfold Len_u32;omega⟩
def ty28:Ty:=.sl 107 1 (.int .u32)
def Len28(l:List (Nat)):Prop:=(∀ a∈l,Len_u32 a)/\l.length<=140737488355328
theorem sc28{ds:List jS}(h:Sh ty28 ds):∃ l:List (Nat),ds=[.sl 107 1 (l.map jC)]/\Len28 l:=by
 obtain ⟨l,e,h1,h2⟩:=sh_slice (F:=jC) (L:=Len_u32) (fun x hx=>by obtain ⟨a,e,l⟩:=sc_u32 hx;exact ⟨a,by rw[e];rfl,l⟩) h
 have hl:=Sh.len h
 obtain ⟨d,rfl⟩:=List.length_eq_one_iff.1 hl
 exact ⟨l,by rw[show d=_ from e],h1,h2⟩
def ty29:Ty:=.st (.cons 4 .bool (.cons 28 ty28 .nil))
def Len29(x:kS):Prop:=Len_bool x.neg/\Len28 x.gs
theorem sc29{ds:List jS}(h:Sh ty29 ds):∃ x:kS,ds=[.val (.bool x.neg),.sl 107 1 (x.gs.map jC)]/\Len29 x:=by
 obtain ⟨p0,q0,rfl,h0,p1,q1,rfl,h1,hq⟩:=h
 have hq:q1=[]:=hq
 subst hq
 obtain ⟨x0,e0,l0⟩:=sc_bool h0
 obtain ⟨x1,e1,l1⟩:=sc28 h1
 exact ⟨⟨x0,x1⟩,by rw[e0,e1];rfl,l0,l1⟩
def ty31:Ty:=.st (.cons 30 ty29 (.cons 30 ty29 .nil))
def Len31(x:kT):Prop:=Len29 x.num/\Len29 x.den
theorem sc31{ds:List jS}(h:Sh ty31 ds):∃ x:kT,ds=[.val (.bool x.num.neg),.sl 107 1 (x.num.gs.map jC),.val (.bool x.den.neg),.sl 107 1 (x.den.gs.map jC)]/\Len31 x:=by
 obtain ⟨p0,q0,rfl,h0,p1,q1,rfl,h1,hq⟩:=h
 have hq:q1=[]:=hq
 subst hq
 obtain ⟨x0,e0,l0⟩:=sc29 h0
 obtain ⟨x1,e1,l1⟩:=sc29 h1
 exact ⟨⟨x0,x1⟩,by rw[e0,e1];rfl,l0,l1⟩
def ty71:Ty:=.st (.cons 55 (.int .i64) (.cons 3 (.int .i64) (.cons 3 (.int .i64) (.cons 32 ty31 .nil))))
def Len71(x:jO):Prop:=Len_i64 x.op/\Len_i64 x.a/\Len_i64 x.b/\Len31 x.n
theorem sc71{ds:List jS}(h:Sh ty71 ds):∃ x:jO,ds=[.val (.int .i64 x.op),.val (.int .i64 x.a),.val (.int .i64 x.b),.val (.bool x.n.num.neg),.sl 107 1 (x.n.num.gs.map jC),.val (.bool x.n.den.neg),.sl 107 1 (x.n.den.gs.map jC)]/\Len71 x:=by
 obtain ⟨p0,q0,rfl,h0,p1,q1,rfl,h1,p2,q2,rfl,h2,p3,q3,rfl,h3,hq⟩:=h
 have hq:q3=[]:=hq
 subst hq
 obtain ⟨x0,e0,l0⟩:=sc_i64 h0
 obtain ⟨x1,e1,l1⟩:=sc_i64 h1
 obtain ⟨x2,e2,l2⟩:=sc_i64 h2
 obtain ⟨x3,e3,l3⟩:=sc31 h3
 exact ⟨⟨x0,x1,x2,x3⟩,by rw[e0,e1,e2,e3];rfl,l0,l1,l2,l3⟩
def ty22:Ty:=.sl 72 7 ty71
def Len22(l:List (jO)):Prop:=(∀ a∈l,Len71 a)/\l.length<=140737488355328
theorem sc22{ds:List jS}(h:Sh ty22 ds):∃ l:List (jO),ds=[.sl 72 7 (l.map jK)]/\Len22 l:=by
 obtain ⟨l,e,h1,h2⟩:=sh_slice (F:=jK) (L:=Len71) (fun x hx=>by obtain ⟨a,e,l⟩:=sc71 hx;exact ⟨a,by rw[e];rfl,l⟩) h
 have hl:=Sh.len h
 obtain ⟨d,rfl⟩:=List.length_eq_one_iff.1 hl
 exact ⟨l,by rw[show d=_ from e],h1,h2⟩
theorem sh22_{ds:List jS}(h:Sh ty22 ds):∃ x:List (jO),mkD ty22 ds=.sl 72 7 (x.map jK)/\Len22 x:=by
 obtain ⟨x,e,l⟩:=sc22 h
 exact ⟨x,by rw[e];rfl,l⟩
def ty24:Ty:=.sl 32 4 ty31
def Len24(l:List (kT)):Prop:=(∀ a∈l,Len31 a)/\l.length<=140737488355328
theorem sc24{ds:List jS}(h:Sh ty24 ds):∃ l:List (kT),ds=[.sl 32 4 (l.map jG)]/\Len24 l:=by
 obtain ⟨l,e,h1,h2⟩:=sh_slice (F:=jG) (L:=Len31) (fun x hx=>by obtain ⟨a,e,l⟩:=sc31 hx;exact ⟨a,by rw[e];rfl,l⟩) h
 have hl:=Sh.len h
 obtain ⟨d,rfl⟩:=List.length_eq_one_iff.1 hl
 exact ⟨l,by rw[show d=_ from e],h1,h2⟩
theorem sh24_{ds:List jS}(h:Sh ty24 ds):∃ x:List (kT),mkD ty24 ds=.sl 32 4 (x.map jG)/\Len24 x:=by
 obtain ⟨x,e,l⟩:=sc24 h
 exact ⟨x,by rw[e];rfl,l⟩
end Go.Proofs.YtckccjhflbljgaaGreatDoor
