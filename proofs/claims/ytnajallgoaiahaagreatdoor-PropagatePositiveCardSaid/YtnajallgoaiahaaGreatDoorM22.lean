/- Part 22 of a proof: rules, plain facts, and functions walked. -/
import Derived.Test.YtnajallgoaiahaaGreatDoorM21
import Derived.Maps.RangeRun
import Derived.Test.YtnajallgoaiahaaGreatDoorM7
import Derived.Test.YtnajallgoaiahaaGreatDoorM11
set_option linter.all false
namespace Go.Fid
variable {P:Program} {o:Oper} {S:Nat→SV} {T T':TypeId} {x y:Operand} {k k':IntKind}
theorem e_and{m n r:Int}(ho:o.op=.binOp .and T x y T')(hx:ev S x=.d (.val (.int k m)))(hy:ev S y=.d (.val (.int k n)))(hr:k.wrap (((BitVec.ofInt k.bits m &&& BitVec.ofInt k.bits n).toNat:Nat):Int)=r):uY P o S [] (.d (.val (.int k r))) :=
 fC ho hx hy rfl fun w=>by subst hr;simp [binOp,Op.intBits]
theorem and_i64{m n:Nat}(hm:m<9223372036854775808)(hn:n<9223372036854775808):IntKind.i64.wrap (((BitVec.ofInt IntKind.i64.bits ((m:Nat):Int) &&& BitVec.ofInt IntKind.i64.bits ((n:Nat):Int)).toNat:Nat):Int)=((m &&& n:Nat):Int):=by
 have h1:(m &&& n)≤m:=Nat.and_le_left
 have e:(BitVec.ofInt IntKind.i64.bits ((m:Nat):Int) &&& BitVec.ofInt IntKind.i64.bits ((n:Nat):Int)).toNat=m &&& n:=by
  rw[BitVec.toNat_and]
  show (BitVec.ofInt 64 ((m:Nat):Int)).toNat &&& (BitVec.ofInt 64 ((n:Nat):Int)).toNat=_
  rw[BitVec.toNat_ofInt,BitVec.toNat_ofInt]
  congr 1<;>omega
 rw[e]
 exact wi64 rfl (by omega) (by omega)
theorem oAb{m n:Nat}(r:Nat)(ho:o.op=.binOp .and T x y T':=by exact rfl)(hx:ev S x=.d (.val (.int .i64 ((m:Nat):Int))):=by exact rfl)(hy:ev S y=.d (.val (.int .i64 ((n:Nat):Int))):=by exact rfl)(hm:m<9223372036854775808:=by omega)(hn:n<9223372036854775808:=by omega)(hr:(m &&& n)=r:=by exact rfl):uY P o S [] (.d (.val (.int .i64 ((r:Nat):Int)))) :=
 hr▸e_and ho hx hy (and_i64 hm hn)
theorem shr1(m:Nat):((m:Nat):Int).fdiv (2 ^ (min 1 IntKind.i64.bits))=((m / 2:Nat):Int):=by
 rw[Int.fdiv_eq_ediv_of_nonneg _ (by decide)]
 show ((m:Nat):Int) / (2 ^ 1)=_
 omega
def strB(P:Program)(T:TypeId):Bool:=match P.underlying T with | some .string=>true | _=>false
theorem str_of{T:TypeId}(h:strB P T=true):P.underlying T=some .string:=by
 unfold strB at h
 split at h
 ·assumption
 ·cases h
theorem oLstr{b:ByteArray}(hT:strB P T=true)(r:Nat)(ho:o.op=.call { callee:=.builtin .len,args:=#[x],argTypes:=#[T] }:=by exact rfl)(hx:ev S x=.d (.val (.string b)):=by exact rfl)(hr:b.size=r:=by exact rfl):uY P o S [] (.d (.val (.int .i64 ((r:Nat):Int)))) :=
 uY.same fun a w D β hop _=>by
  have h1:=hop x (by simp [ho,Op.operands,Call.operands])
  rw[hx] at h1
  subst hr
  exact ⟨.int .i64 ((b.size:Nat):Int),by simp [execOp,ho,resolve,invoke,builtin,vI h1,Builtin.len_,run_underlying (str_of hT),goInt],.val _⟩
theorem oSstr{b r:ByteArray}{l h:Nat}{lo hi:Operand}{kl kh:IntKind}(hT:strB P T=true)(ho:o.op=.slice T x (some lo) (some hi) none:=by exact rfl)(hx:ev S x=.d (.val (.string b)):=by exact rfl)(hlo:ev S lo=.d (.val (.int kl ((l:Nat):Int))):=by exact rfl)(hhi:ev S hi=.d (.val (.int kh ((h:Nat):Int))):=by exact rfl)
  (h1:l≤h:=by decide) (h2:h≤b.size:=by decide) (hr:b.extract l h=r:=by kernel_rfl):uY P o S [] (.d (.val (.string r))) :=
 uY.same fun a w D β hop _=>by
  have p1:=hop x (by simp [ho,Op.operands])
  have p2:=hop lo (by simp [ho,Op.operands])
  have p3:=hop hi (by simp [ho,Op.operands])
  rw[hx] at p1
  rw[hlo] at p2
  rw[hhi] at p3
  subst hr
  have b1:∀ c:BoundsCode,(Instr.sliceBound (.int kh (h:Int)) b.size c).run P w=.ok h w:=fun _=>dD h2 w
  have b2:∀ c:BoundsCode,(Instr.sliceBound (.int kl (l:Int)) h c).run P w=.ok l w:=fun _=>dD h1 w
  exact ⟨.string (b.extract l h),by simp [execOp,ho,vI p1,vI p2,vI p3,Instr.sliceAt,run_underlying (str_of hT),Instr.slice,Instr.sliceBounds,b1,b2],.val _⟩
end Go.Fid
namespace Go.Fid
section
variable {P:Program} {n:Fr} {ops:Array Oper} {K:SL→BS→Prop} {S:SL} {B:BS} {o:Oper} {l:List Oper} {T E t':TypeId} {x y:Operand} {k s m bytes:Nat} {zv:List Value} {α:Type}
end
open Go.RowKit (Below)
section
variable {P:Program} {n:Fr} {C:bH} {a:Act} {w:World} {st:PS}
abbrev OSt:=List (Nat × Obj)
structure ObjOk (C:bH) (w:World) (b:Nat) (o:Obj):Prop where
 at_:w.heap[b]?=some o
 nc:o.isCells=false
 nd:∀ ds,o≠.deferred ds
 h0:C.w0.heap.size≤b
 h1:∀ o',C.w1.heap[b]?=some o'→o'.isCells=true
def ObjsOk(C:bH)(w:World)(os:OSt):Prop:=∀ p∈os,ObjOk C w p.1 p.2
structure XS where
 st:PS
 os:OSt
def SimO(C:bH)(a:Act)(w:World)(x:XS):Prop:=cO C a w x.st∧ObjsOk C w x.os
def OImp(x y:XS):Prop:=∀ (C:bH) (a:Act) (w:World),SimO C a w x→SimO C a w y
variable {Q Q':Exit→XS→Prop} {x y:XS} {os:OSt}
theorem OImp.trans{z:XS}(h:OImp x y)(k:OImp y z):OImp x z:=fun C a w hs=>k C a w (h C a w hs)
theorem OImp.refl(x:XS):OImp x x:=fun _ _ _ h=>h
inductive OStep (P:Program) (n:Fr) (ops:Array Oper):XS→Oper→XS→Prop
 |old {st st':PS} {o:Oper} {os:OSt} (h:Step P n ops st o st'):OStep P n ops ⟨st,os⟩ o ⟨st',os⟩
 |sem {x:XS} {o:Oper} {x':XS} (h:∀ (C:bH) (a:Act) (w:World) (K:Act→World→Prop) (Q:Exit→Act→World→Prop),C.n=n→SimO C a w x→(∀ a' w',SimO C a' w' x'→K a' w')→o.wp P a w K Q) (hg:o.guard=none):OStep P n ops x o x'
inductive OSteps (P:Program) (n:Fr) (ops:Array Oper) (Y:XS→Prop):XS→List Oper→Prop
 |nil {x:XS} (h:Y x):OSteps P n ops Y x []
 |cons {x x':XS} {o:Oper} {l:List Oper} (h:OStep P n ops x o x') (hr:OSteps P n ops Y x' l):OSteps P n ops Y x (o::l)
 |new {x:XS} {o:Oper} {l:List Oper} (X:Nat→XS) (h:∀ (C:bH) (a:Act) (w:World) (K:Act→World→Prop) (Q:Exit→Act→World→Prop),C.n=n→SimO C a w x→(∀ a' w' b,SimO C a' w' (X b)→K a' w')→o.wp P a w K Q) (hg:o.guard=none) (hr:∀ b,OSteps P n ops Y (X b) l):OSteps P n ops Y x (o::l)
 |ex {α:Type} {x:XS} {o:Oper} {l:List Oper} (X:α→XS) (I:α→Prop) (h:∀ (C:bH) (a:Act) (w:World) (K:Act→World→Prop) (Q:Exit→Act→World→Prop),C.n=n→SimO C a w x→(∀ a' w' b,I b→SimO C a' w' (X b)→K a' w')→o.wp P a w K Q) (hg:o.guard=none) (hr:∀ b,I b→OSteps P n ops Y (X b) l):OSteps P n ops Y x (o::l)
end
section
variable {P:Program} {T K E:TypeId} {w:World} {b:Nat} {p:List Int}
end
section
variable {P:Program} {n:Fr} {ops:Array Oper} {o:Oper} {S:Nat→SV}
variable {st:PS} {os:OSt} {b:Nat}
end
section
variable {P:Program} {n:Fr} {ops:Array Oper} {o:Oper} {S:SL} {B:BS} {os:OSt} {Y:XS→Prop} {l:List Oper}
end
section
variable {F:Fence} {N:Nat} {P:Program} {Q:Exit→Act→World→Prop} {a:Act} {w:World} {b:Frame} {k:List Item} {cs:List Frame}
end
section
variable {P:Program} {n:Fr} {Q:Exit→PS→Prop} {st:PS}
def Met{α:Type}(St:α→PS)(I:α→Prop)(s:PS):Prop:=∃ y,uZ s (St y)∧I y
theorem pwp_meet{α:Type}{c d:Code}(St:α→PS)(I:α→Prop)(h1:qJ P n c (PThen (Met St I) Q) st)(h2:∀ y,I y→qJ P n d Q (St y)):qJ P n (.seq c d) Q st :=
 jB (pwp_mono h1 fun e s hs=>by
  cases e with
  |normal=>
   obtain ⟨y,g1,g2⟩:=hs
   exact kV g1 (h2 y g2)
  |_=>exact hs)
theorem met{α:Type}{St:α→PS}{I:α→Prop}{s:PS}(y:α)(h1:uZ s (St y))(h2:I y):Met St I s:=⟨y,h1,h2⟩
end
section
variable {P:Program} {S:SL} {B:BS} {o:Oper} {x y:Operand} {k:Nat} {T:TypeId}
theorem bxs_flen{α:Type}{F:α→jS}{s:Nat}(hF:∀ g,(F g).cells.length=s)(L:List α):(kY (L.map F)).length=L.length*s:=by
 rw[vK (s:=s) (fun e he=>by obtain ⟨g,_,rfl⟩:=List.mem_map.1 he;exact hF g),List.length_map]
theorem bxs_cell{α:Type}{F:α→jS}{s:Nat}(hF:∀ g,(F g).cells.length=s){L:List α}{j r:Nat}(d:α)(hj:j<L.length)(hr:r<s):(kY (L.map F))[j*s+r]?=(F (L.getD j d)).cells[r]? :=
 flat_get (s:=s) (e:=F (L.getD j d)) (fun e he=>by obtain ⟨g,_,rfl⟩:=List.mem_map.1 he;exact hF g) (by simp [List.getD_eq_getElem?_getD,List.getElem?_eq_getElem hj]) hr
theorem bxs_room{j n s:Nat}(h:j<n):j*s+s≤n*s:=by
 have:=Nat.mul_le_mul_right s (show j+1≤n from h)
 rwa [Nat.add_mul,Nat.one_mul] at this
theorem bxs_cut{α:Type}{F:α→jS}{s:Nat}(hF:∀ g,(F g).cells.length=s){L:List α}{j:Nat}(d:α)(hj:j<L.length):((nD F L).drop (j*s)).take s=(F (L.getD j d)).cells.map SV.d:=by
 apply List.ext_getElem?
 intro r
 unfold nD
 rw[List.getElem?_take]
 split
 ·rename_i hr
  rw[List.getElem?_drop,List.getElem?_map,bxs_cell hF d hj hr,List.getElem?_map]
 ·rename_i hr
  rw[List.getElem?_eq_none (by rw[List.length_map,hF];omega)]
theorem oLA{α:Type}{F:α→jS}{L:List α}{s:Nat}(hs:qO P T=some (true,s))(j:Nat)(d:α)(ho:o.op=.load T x:=by exact rfl)(hx:ev (kF S) x=.ref k (j*s):=by exact rfl)(hb:jW B k=some (nD F L):=by exact rfl)(hF:∀ g,(F g).cells.length=s:=by intro g;kernel_rfl)(hG:∀ g,nM true ((F g).cells.map SV.d)=.d (F g):=by intro g;kernel_rfl)(h1:j<L.length:=by omega):ROk P o S B k (.d (F (L.getD j d))):=by
 have h:=e_load_ref (P:=P) (cs:=nD F L) ho hx hs (fun h=>by cases h) (by unfold nD;rw[List.length_map,bxs_flen hF];exact bxs_room h1)
 rw[bxs_cut hF d h1,hG] at h
 exact ⟨_,h,hb⟩
theorem bxs_set{α:Type}{F:α→jS}{s:Nat}(hF:∀ g,(F g).cells.length=s){L:List α}{j:Nat}(v:α)(hj:j<L.length):patch (nD F L) (j*s) ((F v).cells.map SV.d)=nD F (L.set j v):=by
 have hl:=bxs_flen hF L
 have hl2:=bxs_flen hF (L.set j v)
 rw[List.length_set] at hl2
 have hrm:=bxs_room (s:=s) hj
 apply List.ext_getElem?
 intro i
 have hb1:(nD F L).length=L.length*s:=by unfold nD;rw[List.length_map,hl]
 have hb2:(nD F (L.set j v)).length=L.length*s:=by unfold nD;rw[List.length_map,hl2]
 rw[hC (by rw[List.length_map,hF,hb1];exact hrm)]
 by_cases hi:i<L.length*s
 ·have hs0:0<s:=by
   rcases Nat.eq_zero_or_pos s with h | h
   ·subst h;simp at hi
   ·exact h
  have hq:i / s<L.length:=Nat.div_lt_of_lt_mul (by rw[Nat.mul_comm];exact hi)
  have hr:i % s<s:=Nat.mod_lt _ hs0
  have he:i=(i / s)*s+i % s:=by rw[Nat.mul_comm];exact (Nat.div_add_mod i s).symm
  have e1:(nD F (L.set j v))[i]?=((F ((L.set j v).getD (i / s) v)).cells[i % s]?).map SV.d:=by
   unfold nD;rw[List.getElem?_map];conv=>lhs;rw[he]
   rw[bxs_cell hF v (by rw[List.length_set];exact hq) hr]
  have e2:(nD F L)[i]?=((F (L.getD (i / s) v)).cells[i % s]?).map SV.d:=by
   unfold nD;rw[List.getElem?_map];conv=>lhs;rw[he]
   rw[bxs_cell hF v hq hr]
  rw[e1,e2,List.length_map,hF]
  by_cases hc:i / s=j
  ·have h3:j*s≤i∧i<j*s+s:=by subst hc;omega
   rw[if_neg (by omega),if_pos h3.2]
   have h4:(L.set j v).getD (i / s) v=v:=by rw[hc,List.getD_eq_getElem?_getD,List.getElem?_set_self hj];rfl
   rw[h4,List.getElem?_map,show i-j*s=i % s by subst hc;omega]
  ·have h3:¬ (j*s≤i∧i<j*s+s):=fun h=>hc (by
    have a1:j≤i / s:=(Nat.le_div_iff_mul_le hs0).2 h.1
    have a2:i / s<j+1:=Nat.div_lt_of_lt_mul (by rw[Nat.mul_comm,Nat.add_mul,Nat.one_mul];exact h.2)
    omega)
   have h4:(L.set j v).getD (i / s) v=L.getD (i / s) v:=by rw[List.getD_eq_getElem?_getD,List.getElem?_set_ne (fun e=>hc e.symm),← List.getD_eq_getElem?_getD]
   rw[h4]
   split
   ·rfl
   ·rw[if_neg (fun h=>h3 ⟨by omega,h⟩)]
 ·have n1:(nD F (L.set j v))[i]?=none:=List.getElem?_eq_none (by rw[hb2];omega)
  have n2:(nD F L)[i]?=none:=List.getElem?_eq_none (by rw[hb1];omega)
  rw[n1,n2,List.length_map,hF,if_neg (by omega),if_neg (by omega)]
theorem oSA{α:Type}{F:α→jS}{L:List α}{s:Nat}(hs:qO P T=some (true,s))(j:Nat)(v:α)(ho:o.op=.store T x y:=by exact rfl)(hx:ev (kF S) x=.ref k (j*s):=by exact rfl)(hb:jW B k=some (nD F L):=by exact rfl)(hy:ev (kF S) y=.d (F v):=by kernel_rfl)(h2:(F v).ok1=true:=by kernel_rfl)(hF:∀ g,(F g).cells.length=s:=by intro g;kernel_rfl)(h1:j<L.length:=by omega):TK P o S B k (nD F (L.set j v)):=by
 have h:=t_store (P:=P) (old:=nD F L) ho hx hy hs (.inl ⟨F v,rfl,h2,rfl⟩) (by rw[List.length_map,hF]) (by unfold nD;rw[List.length_map,bxs_flen hF];exact bxs_room h1)
 rw[bxs_set hF v h1] at h
 exact ⟨_,h,hb⟩
end
section
variable {P:Program} {o:Oper}
end
section
variable {P:Program}
section
variable {o:Oper} {S:Nat→SV} {T T':TypeId} {x y:Operand} {c:Nat}
end
end
def aggOf(s:Nat)(u:Nat→Value):Value:=.agg ((List.range s).map u).toArray
structure BacksS (P:Program) (fB fI:FuncId) (T:TypeId) (s:Nat):Prop where
 call:∀ (a:Option Addr) (len cap:Nat) (w:World),Calls P fB #[.slice a len cap] w fun e w'=>e=.returned (.func (.func fI) #[] #[.pointer (some ⟨w.heap.size,0,none⟩)])∧w'=w.alloc (.cells #[.slice a len cap] T)
 empty:∀ (N l b cap:Nat) (ao:Option Addr) (J:World→Prop) (W:World),W.cell? ⟨b,0,none⟩=some (.slice ao 0 cap)→J W →
  CallsIn Fence.wide (N+1) P fI #[.func (.yield l) #[] #[],.pointer (some ⟨b,0,none⟩)] W fun e W'=>(∃ v,e=.returned v)∧J W'
 rounds:∀ (N l c b off len cap:Nat) (u:Nat→Nat→Value),(len:Int)≤9223372036854775807→∀ (J:Nat→World→Prop) (Jx:World→Prop),
  (∀ j W,J j W→W.cell? ⟨c,0,none⟩=some (.slice (some ⟨b,off,none⟩) len cap)∧∀ i,i<len→∀ r,r<s→W.cell? ⟨b,off+(i*s+r),none⟩=some (u i r)) →
  (∀ j W,J j W→j<len→YieldAt Fence.wide N P l #[.int .i64 ((len:Int)-1-(j:Int)),aggOf s (u (len-1-j))] W fun e W'=>(e=.returned (.bool true)∧J (j+1) W')∨(e=.returned (.bool false)∧Jx W')) →
  ∀ W,J 0 W→CallsIn Fence.wide (N+1) P fI #[.func (.yield l) #[] #[],.pointer (some ⟨c,0,none⟩)] W fun e W'=>(∃ v,e=.returned v)∧(J len W'∨Jx W')
 enters:∀ args w,(callFunc fI args).run P w=.ok (.enter fI args) w
section
variable {C:bH} {a a':Act} {w w':World} {st:PS} {D:qL} {β:qC}
variable {P:Program} {n:Fr} {fB fI:FuncId} {T:TypeId} {S:SL} {B:BS} {Q:Exit→PS→Prop} {α:Type}
end
section
variable {P:Program} {o:Oper} {S:Nat→SV} {x:Operand} {k T s n:Nat} {d:jS}
end
section
variable {P:Program} {o:Oper} {S:Nat→SV}
end
abbrev VBlk:=Nat × List SV × List jS
inductive VArgs (bl:List VBlk):List Nat→List (List jS)→Prop
 |nil:VArgs bl [] []
 |cons {k:Nat} {c:List SV} {cs:List jS} {ks:List Nat} {css:List (List jS)} (hk:(k,c,cs)∈bl) (h:VArgs bl ks css):VArgs bl (k::ks) (cs::css)
theorem VArgs.len{bl:List VBlk}{ks:List Nat}{css:List (List jS)}(h:VArgs bl ks css):ks.length=css.length:=by
 induction h with
 |nil=>rfl
 |cons hk h ih=>simp [ih]
theorem VArgs.get{bl:List VBlk}{ks:List Nat}{css:List (List jS)}(h:VArgs bl ks css):∀ (i:Nat) k cs,ks[i]?=some k→css[i]?=some cs→∃ c,(k,c,cs)∈bl:=by
 induction h with
 |nil=>intro i k cs h;simp at h
 |cons hk h ih=>
  intro i k cs h1 h2
  rcases i with _ | i
  ·simp at h1 h2;subst h1;subst h2;exact ⟨_,hk⟩
  ·exact ih i k cs (by simpa using h1) (by simpa using h2)
inductive See (bl:List VBlk) (E:TypeId):SV→jS→Prop
 |d {x:jS}:See bl E (.d x) x
 |r {k o:Nat} {c:List SV} {cs:List jS} (hk:(k,c,cs)∈bl):See bl E (.ref k o) (.cptr E cs o)
 |s {k n s:Nat} {t:TypeId} {c:List SV} {cs es:List jS} (hk:(k,c,cs)∈bl) (hes:∀ e∈es,e.cells.length=s) (hl:es.length=n) (hc:cs.take (n*s)=kY es):See bl E (.own k t s n) (.sl E s es)
 |x {k o b:Nat} {c:List SV} {cs:List jS} (hk:(k,c,cs)∈bl):See bl E (.refx k o b) (.cptr E cs o)
 |f {g:FuncId} {ks:List Nat} {css:List (List jS)} (hk:VArgs bl ks css):See bl E (.clo g ks) (.clo g (css.map fun cs=>.cptr E cs 0))
inductive Sees (bl:List VBlk) (E:TypeId):List SV→List jS→Prop
 |nil:Sees bl E [] []
 |cons {x:SV} {d:jS} {c:List SV} {cs:List jS} (h:See bl E x d) (hr:Sees bl E c cs):Sees bl E (x::c) (d::cs)
 |all {c:List SV} {cs:List jS} (h:c=cs.map SV.d):Sees bl E c cs
theorem Sees.len{bl:List VBlk}{E:TypeId}{c:List SV}{cs:List jS}(h:Sees bl E c cs):c.length=cs.length:=by
 induction h with
 |nil=>rfl
 |cons h hr ih=>simp [ih]
 |all h=>subst h;simp
theorem Sees.get{bl:List VBlk}{E:TypeId}{c:List SV}{cs:List jS}(h:Sees bl E c cs):∀ (i:Nat) x d,c[i]?=some x→cs[i]?=some d→See bl E x d:=by
 induction h with
 |nil=>intro i x d h;simp at h
 |cons h hr ih=>
  intro i x d h1 h2
  rcases i with _ | i
  ·simp at h1 h2;subst h1;subst h2;exact h
  ·exact ih i x d (by simpa using h1) (by simpa using h2)
 |all h=>
  intro i x d h1 h2
  subst h
  rw[List.getElem?_map,h2] at h1
  simp at h1;subst h1;exact .d
theorem aB{α:Type}{bl:List VBlk}{E k s n:Nat}{t:TypeId}{c:List SV}{F:α→jS}{L:List α}(hk:(k,c,kY (L.map F))∈bl)(hF:∀ x,(F x).cells.length=s)(hl:L.length=n):See bl E (.own k t s n) (.sl E s (L.map F)) :=
 .s hk (map_celllen F hF L) (by simpa using hl) (by
  refine List.take_of_length_le ?_
  rw[cN F hF,hl]
  exact Nat.le_refl _)
theorem sees_bm{α:Type}{bl:List VBlk}{E:TypeId}{F:α→jS}{L:List α}(hF:∀ x,(F x).cells=[F x]):Sees bl E (L.map fun g=>SV.d (F g)) (kY (L.map F)):=by
 refine .all ?_
 induction L with
 |nil=>rfl
 |cons x L ih=>simp only[List.map_cons,mO,hF,List.singleton_append,ih]
inductive VBlks (E:TypeId):List VBlk→Prop
 |nil:VBlks E []
 |cons {k:Nat} {c:List SV} {cs:List jS} {bl:List VBlk} (h:Sees bl E c cs) (hr:VBlks E bl):VBlks E ((k,c,cs)::bl)
def SeenB(w:World)(D':qL)(β:qC)(E:TypeId)(p:VBlk):Prop :=
 (β p.1=none→p.2.2=[])∧∀ b,β p.1=some b→(∀ i,D' E b i)∧∃ us T',w.heap[b]?=some (.cells us T' (0,0))∧∀ (j:Nat) d,p.2.2[j]?=some d→∃ u,us[j]?=some u∧u.oneCell'=true∧vE w D' u d
section
variable {w:World} {D D':qL} {β:qC} {bl:List VBlk} {E:TypeId}
theorem seen_ptr{k o:Nat}{c:List SV}{cs:List jS}{v:Value}(hb:SeenB w D' β E (k,c,cs))(hv:kZ w D β v (.ref k o)):vE w D' v (.cptr E cs o):=by
 obtain ⟨b,h1,h2⟩:=hv
 obtain ⟨hD,us,T',g2,g4⟩:=hb.2 b h1
 rw[h2]
 have hcell:∀ i,w.cell? ⟨b,i,none⟩=us[i]?:=fun i=>cell_of_row w b i us T' (0,0) g2
 have hp:=vE.cptr (w:=w) (D:=D') (t:=E) (cs:=cs) (off:=o) b 0 (fun i=>us.getD i undef) (fun i hi=>hD _) (fun i hi=>by
  obtain ⟨x,q1,q2,q3⟩:=g4 i _ (List.getElem?_eq_getElem hi)
  rw[Nat.zero_add,hcell,Array.getD_eq_getD_getElem?,q1];rfl) (fun i hi=>by
  obtain ⟨x,q1,q2,q3⟩:=g4 i _ (List.getElem?_eq_getElem hi)
  rw[Array.getD_eq_getD_getElem?,q1];exact q2) (fun i d hd=>by
  obtain ⟨x,q1,q2,q3⟩:=g4 i d hd
  rw[Array.getD_eq_getD_getElem?,q1]
  exact q3)
 rw[Nat.zero_add] at hp
 exact hp
theorem see_rep(hm:∀ t g i,D t g i→D' t g i)(hB:∀ p∈bl,SeenB w D' β E p){x:SV}{d:jS}(h:See bl E x d){v:Value}(hv:kZ w D β v x):vE w D' v d:=by
 cases h with
 |d=>exact vE.mono (fun t g i hd=>⟨hm _ _ _ hd,rfl⟩) hv
 |r hk=>exact seen_ptr (hB _ hk) hv
 |x hk=>exact seen_ptr (D:=D) (hB _ hk) ⟨_,hv.1,hv.2⟩
 |s hk hes hl hc=>
  rename_i k n s t c cs es
  rcases hv with ⟨h1,h2,h3⟩ | ⟨b,cap,vs,h1,h2,h3,h4,h5,h6⟩
  ·have hn:es=[]:=List.eq_nil_of_length_eq_zero (by rw[hl,h2])
   subst hn
   rw[h3];exact fW w D' E s
  ·obtain ⟨hD,us,T',g2,g4⟩:=(hB _ hk).2 b h1
   rw[h2]
   have hfl:=vK hes
   have hcell:∀ i,w.cell? ⟨b,i,none⟩=us[i]?:=fun i=>cell_of_row w b i us T' (0,0) g2
   have key:∀ (i:Nat) d,(kY es)[i]?=some d→∃ u,us[0+i]?=some u∧u.oneCell'=true∧vE w D' u d:=fun i d hd=>by
    have hi:i<n*s:=by
     have:=(List.getElem?_eq_some_iff.1 hd).1
     rw[hfl,hl] at this;exact this
    have e1:cs[i]?=some d:=by
     rw[← hc,List.getElem?_take_of_lt hi] at hd
     exact hd
    rw[Nat.zero_add]
    exact g4 _ d e1
   refine vE.sl b 0 (fun i=>us.getD (0+i) undef) hl.symm h5 h6 hes (fun _=>rfl) (fun i hi=>hD _) (fun i hi=>?_) (fun i hi=>?_) (fun i d hd=>?_)
   ·obtain ⟨x,q1,q2,q3⟩:=key i _ (List.getElem?_eq_getElem hi)
    rw[hcell,Array.getD_eq_getD_getElem?,q1];rfl
   ·obtain ⟨x,q1,q2,q3⟩:=key i _ (List.getElem?_eq_getElem hi)
    rw[Array.getD_eq_getD_getElem?,q1];exact q2
   ·obtain ⟨x,q1,q2,q3⟩:=key i d hd
    rw[Array.getD_eq_getD_getElem?,q1]
    exact q3
 |f hk=>
  obtain ⟨us,e1,e2,e3⟩:=hv
  rw[e1]
  refine .clo us (by rw[e2,hk.len,List.length_map]) fun j u d hu hd=>?_
  rw[List.getElem?_map,Option.map_eq_some_iff] at hd
  obtain ⟨cs,hcs,rfl⟩:=hd
  have hlt:j<_:=(List.getElem?_eq_some_iff.1 hcs).1
  rw[← hk.len] at hlt
  obtain ⟨b,g1,g2⟩:=e3 j _ (List.getElem?_eq_getElem hlt)
  rw[hu] at g2
  injection g2 with g2
  obtain ⟨c,hc⟩:=hk.get j _ cs (List.getElem?_eq_getElem hlt) hcs
  exact seen_ptr (D:=D) (o:=0) (hB _ hc) ⟨b,g1,g2⟩
theorem blks_seen(hm:∀ t g i,D t g i→D' t g i)(hX:∀ p∈bl,∀ b,β p.1=some b→∀ i,D' E b i)(hbl:∀ p∈bl,uU w D β p.1 p.2.1)(h:VBlks E bl):∀ p∈bl,SeenB w D' β E p:=by
 induction h with
 |nil=>intro p hp;simp at hp
 |@cons k c cs bl h hr ih=>
  have ih':=ih (fun p hp=>hX p (.tail _ hp)) (fun p hp=>hbl p (.tail _ hp))
  intro p hp
  rcases List.mem_cons.1 hp with rfl | hp
  ·rcases hbl (k,c,cs) (.head _) with ⟨g1,g2⟩ | ⟨b,us,T',g1,g2,g3,g4,g5⟩
   ·refine ⟨fun _=>?_,fun b hb=>?_⟩
    ·have:=h.len
     have g2:c=[]:=g2
     rw[g2] at this
     exact List.eq_nil_of_length_eq_zero this.symm
    ·rw[show β k=none from g1] at hb;cases hb
   ·refine ⟨fun hn=>absurd hn (by rw[show β k=some b from g1];simp),fun b' hb=>?_⟩
    obtain rfl:b=b':=by rw[show β k=some b from g1] at hb;injection hb
    refine ⟨hX _ (.head _) _ hb,us,T',g2,fun j d hd=>?_⟩
    have hlt:j<c.length:=by rw[h.len];exact (List.getElem?_eq_some_iff.1 hd).1
    obtain ⟨u,e1,e2,e3⟩:=g4 j _ (List.getElem?_eq_getElem hlt)
    exact ⟨u,e1,e2,see_rep hm ih' (h.get j _ d (List.getElem?_eq_getElem hlt) hd) e3⟩
  ·exact ih' p hp
end
section
variable {P:Program} {o:Oper} {S:Nat→SV}
theorem fnv_run{w:World}{D:qL}{β:qC}{a:Act}{y:Operand}{args:List Operand}{ats:Array TypeId}{ex:List SV}{f:FuncId}(hop:∀ q∈o.op.operands,kZ w D β (a.eval q) (ev S q))(ho:o.op=.call { callee:=.value y,args:=args.toArray,argTypes:=ats })
  (hm:callB P f=true) (hy:FnV S y f ex):∃ us:List Value,(execOp a.eval o).run P w=.ok (.enter f (args.map a.eval++us).toArray) w∧us.length=ex.length∧∀ (i:Nat) v x,us[i]?=some v→ex[i]?=some x→kZ w D β v x:=by
 have hyv:=hop y (by simp [ho,Op.operands,Call.operands])
 cases hy with
 |fn h=>
  rw[h] at hyv
  have hv:=vI hyv
  refine ⟨[],?_,rfl,fun i v x h=>by simp at h⟩
  simp only[execOp,ho,resolve,Deferred.ofValue,hv,Sem.run_bind,Sem.run_pure,Result.andThen_ok,invoke,Array.empty_append,Array.append_empty]
  rw[vQ hm]
  simp
 |@clo kk _ h he=>
  rw[h] at hyv
  obtain ⟨vs,hv1,hv2,hv3⟩:=hyv
  refine ⟨vs,?_,by rw[← he];simpa using hv2,fun i v x hvi hxi=>?_⟩
  ·simp only[execOp,ho,resolve,Deferred.ofValue,hv1,Sem.run_bind,Sem.run_pure,Result.andThen_ok,invoke,Array.empty_append]
   rw[vQ hm]
   simp
  ·rw[← he,List.getElem?_map,Option.map_eq_some_iff] at hxi
   obtain ⟨k,hk,rfl⟩:=hxi
   obtain ⟨b,g1,g2⟩:=hv3 i k hk
   rw[hvi] at g2
   injection g2 with g2
   exact ⟨b,g1,g2⟩
 |@dat caps _ h he=>
  rw[h] at hyv
  generalize hq:a.eval y=q at hyv
  cases hyv with
  |clo vs hl hr=>
   refine ⟨vs,?_,by rw[← he];simpa using hl,fun i v x hvi hxi=>?_⟩
   ·simp only[execOp,ho,resolve,Deferred.ofValue,hq,Sem.run_bind,Sem.run_pure,Result.andThen_ok,invoke,Array.empty_append]
    rw[vQ hm]
    simp
   ·rw[← he,List.getElem?_map,Option.map_eq_some_iff] at hxi
    obtain ⟨k,hk,rfl⟩:=hxi
    exact hr i v k hvi hk
theorem e_clh{y:Operand}{xs:List Operand}{ats:Array TypeId}{f:FuncId}{ds:List jS}{r:jS}{zs ex:List SV}{E:TypeId}{bl:List VBlk}(hf:jP P f ds r)(ho:o.op=.call { callee:=.value y,args:=xs.toArray,argTypes:=ats })(hy:FnV S y f ex)
  (hx:xs.map (ev S)++ex=zs) (hz:Sees bl E zs ds) (hb:VBlks E bl) (ha:yK E r):uY P o S (bl.map fun p=>(p.1,p.2.1)) (.d r) :=
 fun a w D β Q hop hrd hD=>by
  obtain ⟨us,hrun,hul,hur⟩:=fnv_run hop ho hf.may hy
  have qV:(xs.map a.eval++us).length=zs.length:=by
   rw[← hx];simp [hul]
  have hrep:∀ (i:Nat) v x,(xs.map a.eval++us)[i]?=some v→zs[i]?=some x→kZ w D β v x:=fun i v x hv hz'=>by
   rw[← hx] at hz'
   by_cases hlt:i<xs.length
   ·rw[List.getElem?_append_left (by simpa using hlt)] at hv hz'
    rw[List.getElem?_map,Option.map_eq_some_iff] at hv
    obtain ⟨p,hqi,rfl⟩:=hv
    have hm:=hop p (by simp [ho,Op.operands,Call.operands,List.mem_of_getElem? hqi])
    rw[List.getElem?_map,hqi,Option.map_some,Option.some.injEq] at hz'
    rw[← hz'];exact hm
   ·rw[List.getElem?_append_right (by simpa using hlt)] at hv hz'
    simp only[List.length_map] at hv hz'
    exact hur _ v _ hv hz'
  have hbl:∀ p∈bl,uU w D β p.1 p.2.1:=fun p hp=>hrd (p.1,p.2.1) (List.mem_map_of_mem (f:=fun p:VBlk=>(p.1,p.2.1)) hp)
  let X:TypeId→Nat→Nat→Prop:=fun t g _=>t=E∧∃ p∈bl,β p.1=some g
  have hXp:∀ t g i,X t g i→t=E∧∀ t' i',¬ D t' g i':=fun t g i ⟨h1,p,hp,hb⟩=>by
   rcases hbl p hp with ⟨g1,_⟩ | ⟨b',us,T',g1,g2,g3,g4,g5⟩
   ·rw[hb] at g1;cases g1
   ·obtain rfl:g=b':=by rw[hb] at g1;injection g1
    exact ⟨h1,g5⟩
  have hD':DOk (fun t g i=>D t g i∨X t g i) w:=fun t g i hd=>by
   rcases hd with hd | ⟨_,p,hp,hb⟩
   ·exact hD _ _ _ hd
   ·obtain ⟨vs,T,f',hh⟩:=bE (hbl p hp) hb
    exact uM hh
  have hm:∀ t g i,D t g i→(D t g i∨X t g i):=fun t g i hd=>.inl hd
  have hseen:=blks_seen (D':=fun t g i=>D t g i∨X t g i) hm (fun p hp b hb i=>.inr ⟨rfl,p,hp,hb⟩) hbl hb
  have hargs:Args w (fun t g i=>D t g i∨X t g i) (xs.map a.eval++us) ds:=⟨qV.trans hz.len,fun i v d hv hd=>by
   have hlt:i<zs.length:=by rw[hz.len];exact (List.getElem?_eq_some_iff.1 hd).1
   exact see_rep hm hseen (hz.get i _ d (List.getElem?_eq_getElem hlt) hd) (hrep i v _ hv (List.getElem?_eq_getElem hlt))⟩
  refine nQ hrun ((hf.run w _ _ hD' hargs).mono fun e w' h=>?_)
  obtain ⟨v,D2,he,h1,h2,h3⟩:=h
  refine ⟨v,he,v,fun t g i=>D2 t g i∧¬ X t g i,rfl,h1,⟨fun t g i hd=>⟨h2.up _ _ _ (.inl hd),fun hx'=>(hXp t g i hx').2 t i hd⟩,fun t g i hd=>?_⟩,?_⟩
  ·rcases h2.new t g i hd.1 with h | h
   ·rcases h with h | h
    ·exact .inl h
    ·exact absurd h hd.2
   ·exact .inr h
  ·exact ha.rep (fun t g i hne hd=>⟨hd,fun hx'=>hne (hXp t g i hx').1⟩) h3
end
theorem oCh{P:Program}{o:Oper}{S:SL}{B:BS}{y:Operand}{xs:List Operand}{ats:Array TypeId}{f:FuncId}{ds:List jS}{r:jS}{ex:List SV}(bl:List VBlk)(zs:List SV)(hf:jP P f ds r)(hz:Sees bl 1000000 zs ds)(hv:VBlks 1000000 bl)(ha:yK 1000000 r)
  (ho:o.op=.call { callee:=.value y,args:=xs.toArray,argTypes:=ats }:=by exact rfl) (hy:FnV (kF S) y f ex:=by first | exact .fn (by kernel_rfl) | exact .clo (by kernel_rfl) (by kernel_rfl) | exact .dat (by kernel_rfl) (by kernel_rfl)) (hx:xs.map (ev (kF S))++ex=zs:=by kernel_rfl)
  (hb:bl.map (fun p=>jW B p.1)=bl.map (fun p=>some p.2.1):=by kernel_rfl) {ks:List Nat} (hks:bl.map (·.1)=ks:=by exact rfl):RKs P o S B ks (.d r):=by
 refine ⟨bl.map fun p=>(p.1,p.2.1),by rw[List.map_map];exact hks,e_clh hf ho hy hx hz hv ha,fun p hp=>?_⟩
 obtain ⟨q,hq,rfl⟩:=List.mem_map.1 hp
 exact List.map_inj_left.1 hb q hq
section
variable {P:Program} {n:Fr} {ops:Array Oper} {K:SL→BS→Prop} {S:SL} {B:BS} {l:List Oper} {o:Oper} {news:List Nat} {acc0:List (List Nat × List Nat)}
end
theorem pwp_fix{P:Program}{n:Fr}{c:Code}{Q:Exit→PS→Prop}{S:SL}{B:BS}(j:Nat){k o:Nat}(hj:jW B j=some [.ref k o]:=by kernel_rfl)(h:∀ b,qJ P n c Q ⟨S,(j,some [.refx k o b])::B⟩):qJ P n c Q ⟨S,B⟩:=fun C a w N hn ⟨D,β,hs⟩=>by
 obtain ⟨b,hb⟩:∃ b,β k=some b:=by
  rcases hs.mem.ok _ _ hj with ⟨_,e⟩ | ⟨_,vs,T,_,_,_,g4,_⟩
  ·cases e
  ·obtain ⟨u,_,_,b,e3,_⟩:=g4 0 _ rfl
   exact ⟨b,e3⟩
 have conv:∀ {i c},jW ((j,some [SV.refx k o b])::B) i=some c→∃ c',jW B i=some c':=fun {i c} hi=>by
  rw[jM] at hi
  split at hi
  ·rename_i e;subst e;exact ⟨_,hj⟩
  ·exact ⟨_,hi⟩
 refine h b C a w N hn ⟨D,β,hs.base,⟨fun i c hi=>?_,fun i1 i2 c1 c2 q1 q2=>?_⟩,fun i c hi=>?_,hs.slots⟩
 ·rw[jM] at hi
  split at hi
  ·rename_i e;subst e
   injection hi with hi;subst hi
   rcases hs.mem.ok _ _ hj with ⟨_,e⟩ | ⟨b2,vs,T,g1,g2,g3,g4,g5⟩
   ·cases e
   ·refine .inr ⟨b2,vs,T,g1,g2,g3,fun q x hx=>?_,g5⟩
    cases q with
    |zero=>
     simp only[List.getElem?_cons_zero,Option.some.injEq] at hx
     subst hx
     obtain ⟨u,e1,e2,b3,e3,e4⟩:=g4 0 _ rfl
     rw[hb] at e3
     injection e3 with e3
     subst e3
     exact ⟨u,e1,e2,hb,e4⟩
    |succ q=>simp at hx
  ·exact hs.mem.ok i c hi
 ·obtain ⟨d1,g1⟩:=conv q1
  obtain ⟨d2,g2⟩:=conv q2
  exact hs.mem.inj i1 i2 d1 d2 g1 g2
 ·obtain ⟨d1,g1⟩:=conv hi
  exact hs.high i d1 g1
theorem oLx{P:Program}{o:Oper}{S:SL}{B:BS}{T:TypeId}{x:Operand}{k j q b:Nat}(hs:qO P T=some (false,1))(ho:o.op=.load T x:=by exact rfl)(hx:ev (kF S) x=.ref k 0:=by exact rfl)(hb:jW B k=some [.refx j q b]:=by exact rfl):ROk P o S B k (.ref j q):=by
 obtain ⟨cs,h,e⟩:=uN (P:=P) (o:=o) (S:=S) (B:=B) (off:=0) (k:=k) (cs:=[.refx j q b]) hs ho hx hb (by rfl)
 exact ⟨cs,h.weaken fun w D β v hv=>⟨b,hv.1,hv.2⟩,e⟩
section
variable {P:Program} {n:Fr} {ops:Array Oper} {K:SL→BS→Prop} {S:SL} {B:BS} {l:List Oper} {o:Oper} {α:Type} {T E t':TypeId} {x y:Operand} {k s m bytes:Nat} {zv:List Value}
variable {news:List Nat} {acc0:List (List Nat × List Nat)}
theorem wAS(k':Nat)(F:α→jS)(L L':List α)(hL:L.length=m)(hT:vF P T=some (E,s))(hz:xX P E=some zv)(hby:yE P E=some bytes)(r:DK P n ops K (k'::news) (acc0++[([k],[k',k])]) ((dO o,.own k' E s (L++L').length)::S) ((k',some (nD F (L++L')))::(k,none)::B) l)
  (ho:o.op=.call { callee:=.builtin .append,args:=#[x,y],argTypes:=#[T,T] }:=by exact rfl) (g:goK n ops S o=true:=by kernel_rfl) (hx:ev (kF S) x=.own k E s m:=by exact rfl) (hb:jW B k=some (nD F L):=by kernel_rfl) (hy:ev (kF S) y=.d (.sl t' s (L'.map F)):=by exact rfl) (hF:∀ g,(F g).cells.length=s:=by intro g;kernel_rfl) (hzl:zv.length=s:=by kernel_rfl)
  (hpos:Nat.blt 0 L'.length=true:=by kernel_rfl) (hbig:m+L'.length≤maxLen:=by first | (simp only[List.length_cons,List.length_nil,maxLen];omega) | (simp [maxLen];omega)) (hbig':(m+L'.length)*bytes≤140737488355328:=by first | omega | (simp only[List.length_cons,List.length_nil];omega) | (simp;omega))
  (hne:Nat.beq k k'=false:=by kernel_rfl) (h1:(S.all fun p=>!p.2.names k')=true:=by kernel_rfl)
  (h2:FrB k' B:=by repeat first | exact frb_nil _ | refine frb_map rfl ?_ | refine frb_d rfl ?_ | refine frb_cs rfl rfl ?_ | refine frb_none rfl ?_) (hn:clear1 news (.own k' E s 0)=true:=by kernel_rfl):DK P n ops K news acc0 S B (o::l):=by
 obtain ⟨st1,acc,r1,r0,r2⟩:=r
 obtain ⟨hd,hg,hdB⟩:=yD g
 have h:=app_local (P:=P) (o:=o) (S:=kF S) (k:=k) (k':=k') (cs:=nD F L) (es':=L'.map F) ho hT hz hzl hby hx (yQ k' id _) (by rw[List.length_map,cN F hF,hL]) hy (by rw[List.length_map];exact Nat.le_of_ble_eq_true hpos) (by simpa using hbig) (by simpa using hbig')
 have e1:nD F L++(kY (L'.map F)).map .d=nD F (L++L'):=by
  show (kY (L.map F)).map SV.d++(kY (L'.map F)).map SV.d=(kY ((L++L').map F)).map SV.d
  rw[List.map_append,fU,List.map_append]
 have e2:m+(L'.map F).length=(L++L').length:=by rw[List.length_map,List.length_append,hL]
 rw[e1,e2] at h
 have hs:=mL.a (P:=P) (n:=n) (ops:=ops) (news:=news) (st:=⟨S,B⟩) (o:=o) h hg (by rw[hd];exact hdB) hb (freshB_of h1 h2) (iA hne) hn (clearL_map _ id _)
 rw[hd] at hs
 exact ⟨st1,([k],[k',k])::acc,.cons hs r1,by simpa using r0,r2⟩
end
def xn(p q j:Nat):Nat:=if j=p then q else if j=q then p else j
theorem xn_xn(p q j:Nat):xn p q (xn p q j)=j:=by
 unfold xn
 by_cases h1:j=p
 ·subst h1
  by_cases h2:q=j
  ·subst h2;simp
  ·simp [h2]
 ·by_cases h2:j=q
  ·subst h2
   simp [h1]
  ·simp [h1,h2]
theorem takesS_ren{P:Program}{f:FuncId}{xs:List SV}{B:BS}{r:SV}{B' B2:BS}(p q:Nat)(h:vR P f xs B r B')(hB:B2.map (fun e=>(e.1,e.2.map fun c=>c.map (SV.ren (xn p q))))=B'.map (fun e=>(xn p q e.1,e.2)))(hr:r.ren (xn p q)=r)(hx:(xs.all fun x=>!x.pins p&&!x.pins q)=true):vR P f xs B r B2 :=
 ⟨h.may,fun w D β vs hD hm hl ha=>(h.run w D β vs hD hm hl ha).mono fun e w' ⟨v,D',β',he,s⟩=>by
  have hinv:(fun j=>(fun k=>β' (xn p q k)) (xn p q j))=β':=funext fun j=>by show β' (xn p q (xn p q j))=β' j;rw[xn_xn]
  -- a block of B2 is a block of B' under the other number
  have key:∀ {l l':BS},l.map (fun e=>(e.1,e.2.map fun c=>c.map (SV.ren (xn p q))))=l'.map (fun e=>(xn p q e.1,e.2))→∀ {k c},jW l k=some c→jW l' (xn p q k)=some (c.map (SV.ren (xn p q))):=by
   intro l
   induction l with
   |nil=>intro l' _ k c h;simp [jW] at h
   |cons e l ih=>
    intro l' hl k c hk
    obtain ⟨j,x⟩:=e
    cases l' with
    |nil=>simp at hl
    |cons e' l'=>
     obtain ⟨j',x'⟩:=e'
     simp only[List.map_cons,List.cons.injEq,Prod.mk.injEq] at hl
     obtain ⟨⟨h1,h2⟩,h3⟩:=hl
     rw[jM] at hk
     rw[jM]
     split at hk
     ·rename_i ejk
      subst ejk
      rw[if_pos (by rw[h1,xn_xn]),← h2,hk];rfl
     ·rename_i hne
      rw[if_neg (fun e=>hne (by rw[h1,e,xn_xn]))]
      exact ih h3 hk
  have hmem:∀ {k c},jW B2 k=some c→jW B' (xn p q k)=some (c.map (SV.ren (xn p q))):=key hB
  refine ⟨v,D',fun k=>β' (xn p q k),he,s.below,s.keep,s.oth,s.up,s.new,s.dok,⟨fun k c hk=>?_,fun k1 k2 c1 c2 q1 q2 b e1 e2=>?_⟩,fun k c hk b hb=>s.high _ _ (hmem hk) b hb,fun i x hi k hk=>?_,?_⟩
  ·have:=s.mem.ok _ _ (hmem hk)
   exact (blk_ren (xn p q)).1 this
  ·have:=s.mem.inj _ _ _ _ (hmem q1) (hmem q2) b e1 e2
   rw[← xn_xn p q k1,this,xn_xn]
  ·have hall:=List.all_eq_true.1 hx x (List.mem_of_getElem? hi)
   rw[Bool.and_eq_true,Bool.not_eq_true',Bool.not_eq_true'] at hall
   have h1:k≠p:=fun e=>by subst e;rw[hk] at hall;cases hall.1
   have h2:k≠q:=fun e=>by subst e;rw[hk] at hall;cases hall.2
   show β' (xn p q k)=β k
   rw[show xn p q k=k by unfold xn;rw[if_neg h1,if_neg h2]]
   exact s.same i x hi k hk
  ·have:=s.res
   rw[← hr] at this
   exact (repS_ren (xn p q)).1 this⟩
end Go.Fid
namespace Go.Proofs.YtnajallgoaiahaaGreatDoor
open Go.Fid
theorem xK(h140:140≠1000000)(x:jZ):yK 1000000 (jJ x):=.agg (eK (.val _) (eK (avo_vals h140 _) (eK (.val _) (eK (avo_vals h140 _) (eK (.val _) (eK (avo_vals h140 _) (eK (.val _) (eK (avo_vals h140 _) avo_nil))))))))
end Go.Proofs.YtnajallgoaiahaaGreatDoor
