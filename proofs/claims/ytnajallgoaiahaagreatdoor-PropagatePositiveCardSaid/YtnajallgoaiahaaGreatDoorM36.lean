/- Part 36 of a proof: rules, plain facts, and functions walked. -/
import Derived.Test.YtnajallgoaiahaaGreatDoorM35
import Derived.ChangeShapes
import Derived.WideShapes
import Derived.RowKit
import Derived.Carry
import Derived.ChangeOld
import Derived.SizedLaws
import Derived.WideKeyElems2
import Derived.Seven
import Derived.Test.YtnajallgoaiahaaGreatDoorM32
import Derived.Test.YtnajallgoaiahaaGreatDoorM34
set_option linter.all false
set_option maxRecDepth 4000
namespace Go.Fid
open Go.RowKit (Below)
open Go.ChangeShapes Go.WideShapes Go.RowKit
inductive ShAll:List Ty→List (List jS)→Prop
 |nil:ShAll [] []
 |cons {ty:Ty} {tys:List Ty} {ds:List jS} {dss:List (List jS)} (h:Sh ty ds) (r:ShAll tys dss):ShAll (ty::tys) (ds::dss)
def mkAll:List Ty→List (List jS)→List jS
 |ty::tys,ds::dss=>mkD ty ds::mkAll tys dss
 |_,_=>[]
def formsB(P:Program):List TypeId→List Ty→Bool
 |[],[]=>true
 |t::ts,ty::tys=>tyB P t ty&&formsB P ts tys
 |_,_=>false
section
variable {H:Type} {enc:TypeId × Value→H} {P:Program} {w:World} {sp:Nat→Bool} {held:Bool}
theorem ok_st{ty:Ty}{t:TypeId}{v:Value}{base:Nat}(ht:tyB P t ty=true)(h:Value.okWide P w .any base t v):(isSt ty=true→∃ cs,v=.agg cs)∧(isSt ty=false→v.cells=#[v]):=by
 cases ty with
 |int k=>
  unfold tyB at ht
  split at ht
  ·rename_i k' hu
   obtain ⟨n,rfl⟩:=okWide_int hu h
   exact ⟨(fun h=>by cases h),fun _=>rfl⟩
  ·cases ht
 |bool=>
  unfold tyB at ht
  split at ht
  ·rename_i hu
   obtain ⟨b,rfl⟩:=okWide_bool hu h
   exact ⟨(fun h=>by cases h),fun _=>rfl⟩
  ·cases ht
 |sl E s e=>
  unfold tyB at ht
  split at ht
  ·rename_i E' hu
   obtain ⟨a,l,c,rfl⟩:=okWide_slice hu h
   exact ⟨(fun h=>by cases h),fun _=>rfl⟩
  ·cases ht
 |st fs=>
  unfold tyB at ht
  split at ht
  ·rename_i fds hu
   obtain ⟨cs,rfl,_⟩:=okWide_struct hu h
   exact ⟨fun _=>⟨cs,rfl⟩,(fun h=>by cases h)⟩
  ·cases ht
 |ar n E fs=>
  unfold tyB at ht
  split at ht
  ·rename_i n' E' hu
   simp only[Value.okWide,hu] at h
   obtain ⟨cs,rfl,_⟩:=h
   exact ⟨fun _=>⟨cs,rfl⟩,(fun h=>by cases h)⟩
  ·cases ht
theorem each_left:∀ {ts us:List TypeId} {ds gs:List (DataW H)} {n:Nat},n∈DataW.weightsEach P ts ds→n∈DataW.weightsEach P (ts++us) (ds++gs)
 |[],_,_,_,_,h=>by simp [DataW.weightsEach] at h
 |t::ts,us,[],gs,n,h=>by simp [DataW.weightsEach] at h
 |t::ts,us,d::ds,gs,n,h=>by
  simp only[DataW.weightsEach] at h
  simp only[List.cons_append,DataW.weightsEach]
  rcases List.mem_append.1 h with h | h
  ·exact List.mem_append_left _ h
  ·exact List.mem_append_right _ (each_left h)
theorem open_args{base:Nat}:∀ {ts:List TypeId} {tys:List Ty} {vs:List Value} {ds:List (DataW H)} {ps:List MemPlace},formsB P ts tys=true→(∀ (j:Nat) t v,ts[j]?=some t→vs[j]?=some v→Value.okWide P w .any base t v)→DataW.TrodAll enc P w 0 sp held ts vs ds ps→(∀ n∈DataW.weightsEach P ts ds,n≤reachBytes) →
  ∃ dss,ShAll tys dss∧Args w (oldD w) vs (mkAll tys dss)∧vs.length=ts.length
 |[],[],vs,ds,ps,_,_,h,_=>by
  obtain ⟨rfl,rfl,rfl⟩:=trodAll_nil h
  exact ⟨[],.nil,⟨rfl,by simp⟩,rfl⟩
 |t::ts,ty::tys,vs,ds,ps,hf,hok,h,hwt=>by
  simp only[formsB,Bool.and_eq_true] at hf
  obtain ⟨v,vs',d,ds',p,q,rfl,rfl,rfl,h1,h2⟩:=trodAll_cons h
  obtain ⟨k1,k2⟩:=ok_st hf.1 (hok 0 t v rfl rfl)
  obtain ⟨dd,r1,r2⟩:=open_arg hf.1 k1 k2 h1 (fun n hn=>hwt n (by simp only[DataW.weightsEach];exact List.mem_append_left _ hn))
  obtain ⟨dss,r3,r4,r5⟩:=open_args (ts:=ts) (tys:=tys) hf.2 (fun j t v a b=>hok (j+1) t v (by simpa using a) (by simpa using b)) h2 (fun n hn=>hwt n (by simp only[DataW.weightsEach];exact List.mem_append_right _ hn))
  refine ⟨dd::dss,.cons r2 r3,⟨by simp [mkAll,r4.1],fun i v' d' hv hd=>?_⟩,by simp [r5]⟩
  rcases i with _ | i
  ·simp [mkAll] at hv hd;subst hv;subst hd;exact r1
  ·exact r4.2 i v' d' (by simpa using hv) (by simpa [mkAll] using hd)
 |[],_::_,_,_,_,hf,_,_,_=>by cases hf
 |_::_,[],_,_,_,hf,_,_,_=>by cases hf
theorem again_all{W W':World}(hl:laidOutB P=true)(hb:Below W.heap.size W W'):∀ {ts:List TypeId} {vs:List Value} {ds:List (DataW H)} {ps:List MemPlace},(ts.all fun t=>P.readableRec t&&Nat.blt t P.types.size)=true→(∀ x∈ps,x.block<W.heap.size)→DataW.TrodAll enc P W 0 (fun _=>true) true ts vs ds ps →
  DataW.TrodAll enc P W' 0 (fun b=>decide (b<W.heap.size)) true ts vs ds ps
 |[],vs,ds,ps,_,_,h=>by
  obtain ⟨rfl,rfl,rfl⟩:=trodAll_nil h
  exact rfl
 |t::ts,vs,ds,ps,hr,hlt,h=>by
  obtain ⟨v,vs',d,ds',p,q,rfl,rfl,rfl,h1,h2⟩:=trodAll_cons h
  simp only[List.all_cons,Bool.and_eq_true] at hr
  exact ⟨p,q,Below.trod hl hr.1.1 (Nat.le_of_ble_eq_true hr.1.2) h1 hb (fun x hx=>hlt x (by simp [hx])),again_all hl hb hr.2 (fun x hx=>hlt x (by simp [hx])) h2,rfl⟩
end
theorem law_contract{H:Type}{enc:TypeId × Value→H}{P:Program}{f:FuncId}{fn:Func}{s:ChangeSpec}{tys:List Ty}{B:TypeId}(hl:laidOutB P=true)(hvars:s.vars=[])(hres:fn.resultTypes.toList=[B])(hB:P.underlying B=some .bool)
  (hrr:(fn.params.toList.all fun t=>P.readableRec t&&Nat.blt t P.types.size)=true) (hty:formsB P fn.params.toList tys=true)
  (hspec:∀ ds:List (DataW H),ds.length=fn.params.toList.length→(s.fn H ds).results=[.lit (.bool true)]∧(s.fn H ds).args=ds∧(s.fn H ds).vars=[])
  (ht:∀ dss,ShAll tys dss→jP P f (mkAll tys dss) (.val (.bool true)))
  (W:World) (base:Nat) (args:Array Value) (ds gs:List (DataW H)) (before:List MemPlace) (hval:∀ (j:Nat) t v,fn.params[j]?=some t→args[j]?=some v→Value.okWide P W .any base t v)
  (hW:DataW.Whole enc P fn.params.toList s.vars false W args.toList ds gs before) (hwt:(DataW.weightsEach P (fn.params.toList++s.plain.varTypes P) (ds++gs)).all (·≤reachBytes)=true) :
  Calls P f args W fun e W'=>∃ v,e=.returned v∧s.post enc P fn false true false false W args v W':=by
 have hW':=hW
 obtain ⟨p,q,hA,hV,rfl,_,_⟩:=hW
 rw[hvars] at hV
 obtain ⟨rfl,rfl⟩:=trodVars_none hV
 obtain ⟨dss,r1,r2,r3⟩:=open_args (P:=P) (w:=W) (base:=base) hty (fun j t v a b=>hval j t v (by simpa using a) (by simpa using b)) hA (fun n hn=>by
  rw[List.all_eq_true] at hwt
  have:=hwt n (each_left hn)
  simpa using this)
 have hlt:=hW'.lt
 have qV:ds.length=fn.params.toList.length:=by
  have:∀ {ts:List TypeId} {vs:List Value} {ds:List (DataW H)} {ps:List MemPlace},DataW.TrodAll enc P W 0 (fun _=>true) true ts vs ds ps→ds.length=ts.length:=by
   intro ts
   induction ts with
   |nil=>intro vs ds ps h;obtain ⟨_,rfl,_⟩:=trodAll_nil h;rfl
   |cons t ts ih=>intro vs ds ps h;obtain ⟨v,vs',d,ds',p,q,rfl,rfl,rfl,h1,h2⟩:=trodAll_cons h;simp [ih h2]
  exact this hA
 have hc:=(ht dss r1).run W (oldD W) args.toList (oldD_ok W) r2
 refine hc.mono fun e W' h=>?_
 obtain ⟨v,D',he,h1,h2,h3⟩:=h
 have hv:=rep_bool h3
 subst hv
 obtain ⟨s1,s2,s3⟩:=hspec ds qV
 refine ⟨_,he,ds,[],_,[],p,[],hW',?_,?_,?_,h1.frame _,fun h=>by cases h⟩
 ·rw[List.append_nil,s1,hres]
  have hsz:fn.resultTypes.size=1:=by
   have:=congrArg List.length hres
   simpa using this
  rw[hsz]
  exact trodAll_mk1 (shut_bool hB true)
 ·rw[List.append_nil,s2]
  exact again_all hl h1 hrr (fun x hx=>hlt x (by simp [hx])) hA
 ·rw[List.append_nil,s3,hvars]
  exact rfl
theorem sh_slice{α:Type}{E s:Nat}{ty:Ty}{F:α→jS}{L:α→Prop}(hF:∀ x,Sh ty x→∃ a,mkD ty x=F a∧L a){ds:List jS}(h:Sh (.sl E s ty) ds) :
  ∃ l:List α,mkD (.sl E s ty) ds=.sl E s (l.map F)∧(∀ a∈l,L a)∧l.length≤140737488355328:=by
 obtain ⟨es,rfl,h1,h2⟩:=h
 have h3:∀ es:List (List jS),(∀ x∈es,Sh ty x)→∃ l:List α,es.map (mkD ty)=l.map F∧(∀ a∈l,L a)∧l.length=es.length:=by
  intro es
  induction es with
  |nil=>intro _;exact ⟨[],rfl,by simp,rfl⟩
  |cons x es ih=>
   intro hx
   obtain ⟨l,e1,e2,e3⟩:=ih (fun y hy=>hx y (by simp [hy]))
   obtain ⟨a,e4,e5⟩:=hF x (hx x (by simp))
   refine ⟨a::l,by rw[List.map_cons,List.map_cons,e1,e4],fun b hb=>?_,by simp [e3]⟩
   rcases List.mem_cons.1 hb with rfl | hb
   ·exact e5
   ·exact e2 b hb
 obtain ⟨l,e1,e2,e3⟩:=h3 es h2
 exact ⟨l,by rw[← e1];rfl,e2,by omega⟩
end Go.Fid
namespace Go.Proofs.YtnajallgoaiahaaGreatDoor
open Go.Fid
def Len_i64(z:Int):Prop:=-9223372036854775808≤z∧z≤9223372036854775807
theorem sc_i64{ds:List jS}(h:Sh (.int .i64) ds):∃ z:Int,ds=[.val (.int .i64 z)]∧Len_i64 z:=by
 obtain ⟨z,rfl,hw⟩:=h
 simp only[Lit.wf,Bool.and_eq_true,decide_eq_true_eq] at hw
 exact ⟨z,rfl,(show (-9223372036854775808:Int)≤z from hw.1),(show z≤(9223372036854775807:Int) from hw.2)⟩
def Len_bool(_:Bool):Prop:=True
theorem sc_bool{ds:List jS}(h:Sh .bool ds):∃ b:Bool,ds=[.val (.bool b)]∧Len_bool b:=by
 obtain ⟨b,rfl⟩:=h
 exact ⟨b,rfl,trivial⟩
def Len_u32(n:Nat):Prop:=n≤4294967295
theorem sc_u32{ds:List jS}(h:Sh (.int .u32) ds):∃ n:Nat,ds=[.val (.int .u32 ((n:Nat):Int))]∧Len_u32 n:=by
 obtain ⟨z,rfl,hw⟩:=h
 simp only[Lit.wf,Bool.and_eq_true,decide_eq_true_eq] at hw
 have h0:0≤z:=hw.1
 exact ⟨z.toNat,by rw[Int.toNat_of_nonneg h0],by have h1:z≤(4294967295:Int):=hw.2;unfold Len_u32;omega⟩
def ty41:Ty:=.sl 140 1 (.int .u32)
def Len41(l:List (Nat)):Prop:=(∀ a∈l,Len_u32 a)∧l.length≤140737488355328
theorem sc41{ds:List jS}(h:Sh ty41 ds):∃ l:List (Nat),ds=[.sl 140 1 (l.map jC)]∧Len41 l:=by
 obtain ⟨l,e,h1,h2⟩:=sh_slice (F:=jC) (L:=Len_u32) (fun x hx=>by obtain ⟨a,e,l⟩:=sc_u32 hx;exact ⟨a,by rw[e];rfl,l⟩) h
 have hl:=Sh.len h
 obtain ⟨d,rfl⟩:=List.length_eq_one_iff.1 hl
 exact ⟨l,by rw[show d=_ from e],h1,h2⟩
def ty42:Ty:=.st (.cons 4 .bool (.cons 41 ty41 .nil))
def Len42(x:kU):Prop:=Len_bool x.neg∧Len41 x.gs
theorem sc42{ds:List jS}(h:Sh ty42 ds):∃ x:kU,ds=[.val (.bool x.neg),.sl 140 1 (x.gs.map jC)]∧Len42 x:=by
 obtain ⟨p0,q0,rfl,h0,p1,q1,rfl,h1,hq⟩:=h
 have hq:q1=[]:=hq
 subst hq
 obtain ⟨x0,e0,l0⟩:=sc_bool h0
 obtain ⟨x1,e1,l1⟩:=sc41 h1
 exact ⟨⟨x0,x1⟩,by rw[e0,e1];rfl,l0,l1⟩
def ty44:Ty:=.st (.cons 43 ty42 (.cons 43 ty42 .nil))
def Len44(x:jN):Prop:=Len42 x.num∧Len42 x.den
theorem sc44{ds:List jS}(h:Sh ty44 ds):∃ x:jN,ds=[.val (.bool x.num.neg),.sl 140 1 (x.num.gs.map jC),.val (.bool x.den.neg),.sl 140 1 (x.den.gs.map jC)]∧Len44 x:=by
 obtain ⟨p0,q0,rfl,h0,p1,q1,rfl,h1,hq⟩:=h
 have hq:q1=[]:=hq
 subst hq
 obtain ⟨x0,e0,l0⟩:=sc42 h0
 obtain ⟨x1,e1,l1⟩:=sc42 h1
 exact ⟨⟨x0,x1⟩,by rw[e0,e1];rfl,l0,l1⟩
def ty82:Ty:=.st (.cons 81 (.int .i64) (.cons 3 (.int .i64) (.cons 3 (.int .i64) (.cons 45 ty44 .nil))))
def Len82(x:kW):Prop:=Len_i64 x.op∧Len_i64 x.a∧Len_i64 x.b∧Len44 x.n
theorem sc82{ds:List jS}(h:Sh ty82 ds):∃ x:kW,ds=[.val (.int .i64 x.op),.val (.int .i64 x.a),.val (.int .i64 x.b),.val (.bool x.n.num.neg),.sl 140 1 (x.n.num.gs.map jC),.val (.bool x.n.den.neg),.sl 140 1 (x.n.den.gs.map jC)]∧Len82 x:=by
 obtain ⟨p0,q0,rfl,h0,p1,q1,rfl,h1,p2,q2,rfl,h2,p3,q3,rfl,h3,hq⟩:=h
 have hq:q3=[]:=hq
 subst hq
 obtain ⟨x0,e0,l0⟩:=sc_i64 h0
 obtain ⟨x1,e1,l1⟩:=sc_i64 h1
 obtain ⟨x2,e2,l2⟩:=sc_i64 h2
 obtain ⟨x3,e3,l3⟩:=sc44 h3
 exact ⟨⟨x0,x1,x2,x3⟩,by rw[e0,e1,e2,e3];rfl,l0,l1,l2,l3⟩
def ty22:Ty:=.sl 83 7 ty82
def Len22(l:List (kW)):Prop:=(∀ a∈l,Len82 a)∧l.length≤140737488355328
theorem sc22{ds:List jS}(h:Sh ty22 ds):∃ l:List (kW),ds=[.sl 83 7 (l.map qA)]∧Len22 l:=by
 obtain ⟨l,e,h1,h2⟩:=sh_slice (F:=qA) (L:=Len82) (fun x hx=>by obtain ⟨a,e,l⟩:=sc82 hx;exact ⟨a,by rw[e];rfl,l⟩) h
 have hl:=Sh.len h
 obtain ⟨d,rfl⟩:=List.length_eq_one_iff.1 hl
 exact ⟨l,by rw[show d=_ from e],h1,h2⟩
def ty24:Ty:=.sl 45 4 ty44
def Len24(l:List (jN)):Prop:=(∀ a∈l,Len44 a)∧l.length≤140737488355328
theorem sc24{ds:List jS}(h:Sh ty24 ds):∃ l:List (jN),ds=[.sl 45 4 (l.map jK)]∧Len24 l:=by
 obtain ⟨l,e,h1,h2⟩:=sh_slice (F:=jK) (L:=Len44) (fun x hx=>by obtain ⟨a,e,l⟩:=sc44 hx;exact ⟨a,by rw[e];rfl,l⟩) h
 have hl:=Sh.len h
 obtain ⟨d,rfl⟩:=List.length_eq_one_iff.1 hl
 exact ⟨l,by rw[show d=_ from e],h1,h2⟩
theorem sh24_{ds:List jS}(h:Sh ty24 ds):∃ x:List (jN),mkD ty24 ds=.sl 45 4 (x.map jK)∧Len24 x:=by
 obtain ⟨x,e,l⟩:=sc24 h
 exact ⟨x,by rw[e];rfl,l⟩
def ty32:Ty:=.sl 23 1 ty22
def Len32(l:List (List (kW))):Prop:=(∀ a∈l,Len22 a)∧l.length≤140737488355328
theorem sc32{ds:List jS}(h:Sh ty32 ds):∃ l:List (List (kW)),ds=[.sl 23 1 (l.map qB)]∧Len32 l:=by
 obtain ⟨l,e,h1,h2⟩:=sh_slice (F:=qB) (L:=Len22) (fun x hx=>by obtain ⟨a,e,l⟩:=sc22 hx;exact ⟨a,by rw[e];rfl,l⟩) h
 have hl:=Sh.len h
 obtain ⟨d,rfl⟩:=List.length_eq_one_iff.1 hl
 exact ⟨l,by rw[show d=_ from e],h1,h2⟩
theorem sh32_{ds:List jS}(h:Sh ty32 ds):∃ x:List (List (kW)),mkD ty32 ds=.sl 23 1 (x.map qB)∧Len32 x:=by
 obtain ⟨x,e,l⟩:=sc32 h
 exact ⟨x,by rw[e];rfl,l⟩
def ty33:Ty:=.sl 24 1 ty24
def Len33(l:List (List (jN))):Prop:=(∀ a∈l,Len24 a)∧l.length≤140737488355328
theorem sc33{ds:List jS}(h:Sh ty33 ds):∃ l:List (List (jN)),ds=[.sl 24 1 (l.map jG)]∧Len33 l:=by
 obtain ⟨l,e,h1,h2⟩:=sh_slice (F:=jG) (L:=Len24) (fun x hx=>by obtain ⟨a,e,l⟩:=sc24 hx;exact ⟨a,by rw[e];rfl,l⟩) h
 have hl:=Sh.len h
 obtain ⟨d,rfl⟩:=List.length_eq_one_iff.1 hl
 exact ⟨l,by rw[show d=_ from e],h1,h2⟩
def ty72:Ty:=.ar 2 34 (.cons 34 ty33 (.cons 34 ty33 .nil))
def Len72(x:A2 (List (List (jN)))):Prop:=Len33 x.a0∧Len33 x.a1
theorem sc72{ds:List jS}(h:Sh ty72 ds):∃ x:A2 (List (List (jN))),ds=[.sl 24 1 (x.a0.map jG),.sl 24 1 (x.a1.map jG)]∧Len72 x:=by
 obtain ⟨p0,q0,rfl,h0,p1,q1,rfl,h1,hq⟩:=h
 have hq:q1=[]:=hq
 subst hq
 obtain ⟨x0,e0,l0⟩:=sc33 h0
 obtain ⟨x1,e1,l1⟩:=sc33 h1
 exact ⟨⟨x0,x1⟩,by rw[e0,e1];rfl,l0,l1⟩
theorem sh72_{ds:List jS}(h:Sh ty72 ds):∃ x:A2 (List (List (jN))),mkD ty72 ds=dF x∧Len72 x:=by
 obtain ⟨x,e,l⟩:=sc72 h
 exact ⟨x,by rw[e];rfl,l⟩
end Go.Proofs.YtnajallgoaiahaaGreatDoor
