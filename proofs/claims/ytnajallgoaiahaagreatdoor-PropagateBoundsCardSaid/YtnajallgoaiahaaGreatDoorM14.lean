/- Part 14 of a proof: rules, plain facts, and functions walked. -/
import Derived.Test.YtnajallgoaiahaaGreatDoorM13
import Derived.Test.YtnajallgoaiahaaGreatDoorM10
import Derived.Test.YtnajallgoaiahaaGreatDoorM9
import Derived.Test.YtnajallgoaiahaaGreatDoorChecked
import Derived.RangeFuncBox
import Derived.Shelf.Abstract
import Derived.OwnWalkIn
import Derived.TacticsInMore
import Derived.LoopNIn
import Derived.LoopIn
set_option linter.all false
set_option maxRecDepth 4000
namespace Go.Proofs.YtnajallgoaiahaaGreatDoor
open Go.Fid
theorem bo4:boolB Tryz.prog 4=true:=by kernel_rfl
theorem un3:(Tryz.prog.underlying 3).isSome=true:=by kernel_rfl
theorem t_sign(x:qF)(hx:x.gs.length<=1099511627776):jO Tryz.prog 136 [(jX x)] (.val (.int .i64 ((uK (kG x))))):=by
 refine qY Tryz.func136 ?_
 refine jB<|kx [(1,(.ref 0 0))] [(0,some (bx (jX x)))] (zN (uU 0)<|zM<|zZ) ?_
 refine jB<|jH<|jB<|kx [(3,(vb ((((kY x).length:Nat):Int) == 0)))] [] (zR (kJ kC)<|zE (jV (nD x (by omega)))<|zE (vP kO (L:=(kY x)))<|zE xR<|zM<|zZ) ?_
 refine jG (b:=((((kY x).length:Nat):Int) == 0)) rfl (fun h1=>?_) (fun h1=>?_)
 ·replace h1:=eq_of_beq h1
  refine jB<|kx [(2,(jS 0))] [] (zM<|zZ) ?_
  refine jE ⟨_,(.tmp (d:=(.val (.int .i64 (0)))) rfl .nil),?_⟩
  rw[toZ_nil h1];rfl
 ·replace h1:=ne_of_beq_false h1
  refine jB<|kx [(8,(vb x.neg))] [] (zE (kV vZ)<|zR (uE iP)<|zM<|zZ) ?_
  refine jG (b:=x.neg) rfl (fun h2=>?_) (fun h2=>?_)
  ·refine jB<|kx [(2,(vi (-1)))] [] (zM<|zZ) ?_
   refine jE ⟨_,(.tmp (d:=(.val (.int .i64 (-1)))) rfl .nil),?_⟩
   rw[sign_neg h1 h2];rfl
  ·refine jC<|jB<|kx [(2,(jS 1))] [] (zM<|zZ) ?_
   refine jE ⟨_,(.tmp (d:=(.val (.int .i64 (1)))) rfl .nil),?_⟩
   rw[sign_pos h1 h2];rfl
theorem t_neg(x:qF)(hx:x.gs.length<=1099511627776):jO Tryz.prog 225 [(jX x)] (jX (kN (-kG x))):=by
 refine qY Tryz.func225 ?_
 refine jB<|kx [(1,(.ref 0 0)),(2,(.ref 1 0))] [(0,some (bx (jX x))),(1,some (bx (jX (qF.mk false []))))] (zN (uU 0)<|zN (qR 1 gE gF)<|zZ) ?_
 refine jB<|kd [] [(1,some (bx (jX (xT (!x.neg) (val (kY x))))))] mo (wE (kV vZ)<|wR (uE iP)<|wE gD<|wR (kJ kC)<|wE (jV (nD x (by omega)))<|wE (jV (t_clone (kY x) (Nat.le_trans (nI _) (by omega))))<|wE (jV (cK (!x.neg) (kY x) (qV _).1 (Nat.le_trans (nI _) (by omega))))<|wT (qA kC)<|wZ) ?_
 refine jE ⟨_,(kI (cs:=(bx (jX (xT (!x.neg) (val (kY x)))))) (d:=(jX (xT (!x.neg) (val (kY x))))) rfl rfl kC rfl rfl .nil),?_⟩
 rw[<- neg_eq];rfl
theorem t_sum(b:Bool)(l:List Nat)(c:Bool)(m:List Nat)(hl:yW l)(hm:yW m)(hll:l.length<=1099511627776)(hlm:m.length<=1099511627776):jO Tryz.prog 229 [(.val (.bool (b))),(.sl 140 1 (List.map jD l)),(.val (.bool (c))),(.sl 140 1 (List.map jD m))] (jX (kN (dZ b (val l)+dZ c (val m)))):=by
 refine qY Tryz.func229 ?_
 refine jB<|kx [(8,(.ref 0 0))] [(0,some (bx (jX (qF.mk false []))))] (zN (qR 0 gE gF)<|zZ) ?_
 refine jB<|jH<|jB<|kx [(9,(vb (b == c)))] [] (zM<|zM<|zE (oEb bo4)<|zM<|zZ) ?_
 refine jG (b:=(b == c)) rfl (fun h1=>?_) (fun h1=>?_)
 ·replace h1:=eq_of_beq h1
  refine jB<|kx [] [(0,some (bx (jX (xT b (val (ofNat (val l+val m)))))))] (zM<|zM<|zM<|zE (jV (t_plus l m hl.1 hm.1 (by omega) (by omega)))<|zE (jV (cK b (ofNat (val l+val m)) (kP _) (Nat.le_trans (add_len hl.1 hm.1) (by omega))))<|zT (qA kC)<|zZ) ?_
  refine jE ⟨_,(kI (cs:=(bx (jX (xT b (val (ofNat (val l+val m))))))) (d:=(jX (xT b (val (ofNat (val l+val m)))))) rfl rfl kC rfl rfl .nil),?_⟩
  rw[<- sum_same h1];rfl
 ·replace h1:=ne_of_beq_false h1
  refine jB<|kx [(18,(vb (decide (0<=(vK ((val l:Nat):Int) ((val m:Nat):Int))))))] [] (zM<|zM<|zE (jV (t_compare l m (by assumption) (by assumption) (by omega)))<|zE oGe<|zM<|zZ) ?_
  refine jG rfl (fun h2=>?_) (fun h2=>?_)
  ·replace h2:=uV h2
   refine jB<|kx [] [(0,some (bx (jX (xT b (val (ofNat (val l-val m)))))))] (zM<|zM<|zM<|zE (jV (t_minus l m hl.1 hm.1 (by have:=oB h2;omega) (by omega)))<|zE (jV (cK b (ofNat (val l-val m)) (kP _) (Nat.le_trans (sub_len hl.1) (by omega))))<|zT (qA kC)<|zZ) ?_
   refine jE ⟨_,(kI (cs:=(bx (jX (xT b (val (ofNat (val l-val m))))))) (d:=(jX (xT b (val (ofNat (val l-val m)))))) rfl rfl kC rfl rfl .nil),?_⟩
   rw[<- sum_first h1 (by have:=oB h2;omega)];rfl
  ·replace h2:=vB h2
   refine jC<|jB<|kx [] [(0,some (bx (jX (xT c (val (ofNat (val m-val l)))))))] (zM<|zM<|zM<|zE (jV (t_minus m l hm.1 hl.1 (by have:=cmpI_lt h2;omega) (by omega)))<|zE (jV (cK c (ofNat (val m-val l)) (kP _) (Nat.le_trans (sub_len hm.1) (by omega))))<|zT (qA kC)<|zZ) ?_
   refine jE ⟨_,(kI (cs:=(bx (jX (xT c (val (ofNat (val m-val l))))))) (d:=(jX (xT c (val (ofNat (val m-val l)))))) rfl rfl kC rfl rfl .nil),?_⟩
   rw[<- sum_second h1 (by have:=cmpI_lt h2;omega)];rfl
theorem t_add(x:qF)(y:qF)(hx:x.gs.length<=1099511627776)(hy:y.gs.length<=1099511627776):jO Tryz.prog 150 [(jX x),(jX y)] (jX (kN (kG x+kG y))):=by
 refine qY Tryz.func150 ?_
 refine jB<|kx [(2,(.ref 0 0)),(3,(.ref 1 0)),(4,(.ref 2 0))] [(0,some (bx (jX x))),(1,some (bx (jX y))),(2,some (bx (jX (qF.mk false []))))] (zN (uU 0)<|zN (uU 1)<|zN (qR 2 gE gF)<|zZ) ?_
 refine jB<|kd [] [(2,some (bx (jX (kN (dZ x.neg (val (kY x))+dZ y.neg (val (kY y)))))))] mo (wE (kV vZ)<|wR (uE iP)<|wR (kJ kC)<|wE (jV (nD x (by omega)))<|wE (kV vZ)<|wR (uE iP)<|wR (kJ kC)<|wE (jV (nD y (by omega)))<|wE (jV (t_sum x.neg (kY x) y.neg (kY y) (qV _) (qV _) (Nat.le_trans (nI _) (by omega)) (Nat.le_trans (nI _) (by omega))))<|wT (qA kC)<|wZ) ?_
 refine jE ⟨_,(kI (cs:=(bx (jX (kN (dZ x.neg (val (kY x))+dZ y.neg (val (kY y))))))) (d:=(jX (kN (dZ x.neg (val (kY x))+dZ y.neg (val (kY y)))))) rfl rfl kC rfl rfl .nil),?_⟩
 rfl
theorem t_mul(x:qF)(y:qF)(hx:x.gs.length<=1099511627776)(hy:y.gs.length<=1099511627776):jO Tryz.prog 142 [(jX x),(jX y)] (jX (kN (kG x*kG y))):=by
 refine qY Tryz.func142 ?_
 refine jB<|kx [(2,(.ref 0 0)),(3,(.ref 1 0)),(4,(.ref 2 0))] [(0,some (bx (jX x))),(1,some (bx (jX y))),(2,some (bx (jX (qF.mk false []))))] (zN (uU 0)<|zN (uU 1)<|zN (qR 2 gE gF)<|zZ) ?_
 refine jB<|kd [] [(2,some (bx (jX (xT (!(x.neg == y.neg)) (val (ofNat (val (kY x)*val (kY y))))))))] mo (wE (kV vZ)<|wR (uE iP)<|wE (kV vZ)<|wR (uE iP)<|wE (oNb bo4)<|wR (kJ kC)<|wE (jV (nD x (by omega)))<|wR (kJ kC)<|wE (jV (nD y (by omega)))<|wE (jV (t_times (kY x) (kY y) (qV _).1 (qV _).1 (Nat.le_trans (nI _) (by omega)) (Nat.le_trans (nI _) (by omega))))<|wE (jV (cK (!(x.neg == y.neg)) (ofNat (val (kY x)*val (kY y))) (kP _) (Nat.le_trans (mul_len (qV _).1 (qV _).1) (by have:=nI x;have:=nI y;omega))))<|wT (qA kC)<|wZ) ?_
 refine jE ⟨_,(kI (cs:=(bx (jX (xT (!(x.neg == y.neg)) (val (ofNat (val (kY x)*val (kY y)))))))) (d:=(jX (xT (!(x.neg == y.neg)) (val (ofNat (val (kY x)*val (kY y))))))) rfl rfl kC rfl rfl .nil),?_⟩
 rw[show kG x*kG y=_ from rfl,kG,kG,<- mul_eq];rfl
theorem t_of(n:Int)(hlo:-9223372036854775808<=n:=by decide)(hhi:n<=9223372036854775807:=by decide):jO Tryz.prog 139 [(.val (.int .i64 (n)))] (jX (kN n)):=by
 refine qY Tryz.func139 ?_
 refine jB<|kx [(2,(.ref 0 0))] [(0,some (bx (jX (qF.mk false []))))] (zN (qR 0 gE gF)<|zZ) ?_
 refine jB<|kx [(3,(nK ((n % 18446744073709551616).toNat)))] [] (zM<|zE (cM un3 gL ((n % 18446744073709551616).toNat) (hr:=by exact (conv_u64 _)))<|zM<|zZ) ?_
 refine jB<|jB<|kx [(7,(vb (decide (n<0))))] [] (zM<|zE xK<|zZ) ?_
 refine jG (b:=decide (n<0)) rfl (fun h1=>?_) (fun h1=>?_)
 ·replace h1:=uV h1
  refine kx [(3,(nK ((-n).toNat)))] [] (zM<|zE (oNg (((-n).toNat:Nat):Int) (hr:=by exact (neg_u64 (by assumption) hlo)))<|zM<|zZ) ?_
  refine jB<|kx [] [(0,some (bx (jX (xT (decide (n<0)) (val (ofNat ((-n).toNat)))))))] (zM<|zE xK<|zM<|zE (jV (t_split ((-n).toNat) (by omega)))<|zE (jV (cK (decide (n<0)) (ofNat ((-n).toNat)) (kP _) (Nat.le_trans (aV (by omega)) (by decide))))<|zT (qA kC)<|zZ) ?_
  refine jE ⟨_,(kI (cs:=(bx (jX (xT (decide (n<0)) (val (ofNat ((-n).toNat))))))) (d:=(jX (xT (decide (n<0)) (val (ofNat ((-n).toNat)))))) rfl rfl kC rfl rfl .nil),?_⟩
  rw[of_neg h1];rfl
 ·replace h1:=vB h1
  refine jC<|jB<|kx [] [(0,some (bx (jX (xT (decide (n<0)) (val (ofNat ((n % 18446744073709551616).toNat)))))))] (zM<|zE xK<|zM<|zE (jV (t_split ((n % 18446744073709551616).toNat) (by omega)))<|zE (jV (cK (decide (n<0)) (ofNat ((n % 18446744073709551616).toNat)) (kP _) (Nat.le_trans (aV (by omega)) (by decide))))<|zT (qA kC)<|zZ) ?_
  refine jE ⟨_,(kI (cs:=(bx (jX (xT (decide (n<0)) (val (ofNat ((n % 18446744073709551616).toNat))))))) (d:=(jX (xT (decide (n<0)) (val (ofNat ((n % 18446744073709551616).toNat)))))) rfl rfl kC rfl rfl .nil),?_⟩
  rw[of_pos h1 hhi];rfl
theorem t_compareI(x:qF)(y:qF)(hx:x.gs.length<=1099511627776)(hy:y.gs.length<=1099511627776):jO Tryz.prog 137 [(jX x),(jX y)] (.val (.int .i64 ((vK (kG x) (kG y))))):=by
 refine qY Tryz.func137 ?_
 refine jB<|kx [(2,(.ref 0 0)),(3,(.ref 1 0))] [(0,some (bx (jX x))),(1,some (bx (jX y)))] (zN (uU 0)<|zN (uU 1)<|zM<|zZ) ?_
 refine jB<|jB<|kd [(5,(vi (uK (kG x)))),(6,(vi (uK (kG y))))] [] mo (wR (kJ kC)<|wE (jV (t_sign x (by omega)))<|wR (kJ kC)<|wE (jV (t_sign y (by omega)))<|wM<|wM<|wZ) ?_
 refine jB<|kx [(14,(vb ((uK (kG x)) != (uK (kG y)))))] [] (zM<|zM<|zE mF<|zZ) ?_
 refine jG (b:=((uK (kG x)) != (uK (kG y)))) rfl (fun h1=>?_) (fun h1=>?_)
 ·replace h1:=bne_iff_ne.1 h1
  refine jB<|kx [(4,(vi (vK (uK (kG x)) (uK (kG y)))))] [] (zM<|zM<|zE (jV (t_cmp_int (uK (kG x)) (uK (kG y))))<|zM<|zZ) ?_
  refine jE ⟨_,(.tmp (d:=(.val (.int .i64 ((vK (uK (kG x)) (uK (kG y))))))) rfl .nil),?_⟩
  rw[<- cmp_sign h1];rfl
 ·replace h1:=bne_eq_false_iff_eq.1 h1
  refine jC<|jB<|kd [(7,(vi (vK ((val (kY x):Nat):Int) ((val (kY y):Nat):Int))))] [] mo (wR (kJ kC)<|wE (jV (nD x (by omega)))<|wR (kJ kC)<|wE (jV (nD y (by omega)))<|wE (jV (t_compare (kY x) (kY y) (qV _) (qV _) (Nat.le_trans (nI _) (by omega))))<|wM<|wZ) ?_
  refine jB<|jB<|kx [(24,(vb x.neg))] [] (zE (kV vZ)<|zR (uE iP)<|zZ) ?_
  refine jG (b:=x.neg) rfl (fun h2=>?_) (fun h2=>?_)
  ·refine jB<|kx [(4,(vi (-(vK ((val (kY x):Nat):Int) ((val (kY y):Nat):Int)))))] [] (zM<|zE (oNg (-(vK ((val (kY x):Nat):Int) ((val (kY y):Nat):Int))) (hr:=by exact (wi64 (by omega) (by have:=cmpI_range ((val (kY x):Nat):Int) ((val (kY y):Nat):Int);omega) (by have:=cmpI_range ((val (kY x):Nat):Int) ((val (kY y):Nat):Int);omega))))<|zM<|zZ) ?_
   refine jE ⟨_,(.tmp (d:=(.val (.int .i64 (-(vK ((val (kY x):Nat):Int) ((val (kY y):Nat):Int)))))) rfl .nil),?_⟩
   rw[<- cmp_neg h1 h2];rfl
  ·refine jC<|jB<|kx [(4,(vi (vK ((val (kY x):Nat):Int) ((val (kY y):Nat):Int))))] [] (zM<|zM<|zZ) ?_
   refine jE ⟨_,(.tmp (d:=(.val (.int .i64 ((vK ((val (kY x):Nat):Int) ((val (kY y):Nat):Int)))))) rfl .nil),?_⟩
   rw[<- cmp_pos h1 h2];rfl
open Go.RowKit Go.Shelf
attribute [local go_sem] Oper.semAt_some
set_option maxRecDepth 100000 in
set_option maxHeartbeats 2000000 in
theorem trimV(b cap:Nat)(l:List Nat)(hd:Go.Fid.Dig l)(h0:Go.Fid.val l≠0)(w:World)(hc:∀ i,i<l.length->w.cell? ⟨b,i,none⟩=some (.int .u32 ((l.getD i 0:Nat):Int)))(h1:l.length<=cap)(h2:cap<=maxLen) :
  CallsIn Fence.wide 1 Tryz.prog 251 #[.slice (some ⟨b,0,none⟩) l.length cap] w fun e w'=>e=.returned (.slice (some ⟨b,0,none⟩) (Go.Fid.ofNat (Go.Fid.val l)).length cap)/\w'=w:=by
 refine callsIn_of_wp Tryz.func251 rfl trivial ?_ rfl
 simp only[Tryz.ntmps251,List.size_toArray,List.length_cons,List.length_nil,Nat.reduceAdd,Nat.reduceSub,Array.replicate_succ,Array.replicate_zero,List.push_toArray,List.append_toArray,List.nil_append,List.cons_append]
 gi_wp2
 gi_loopw [0] (fun i wr=>∃ j:Nat,j<=l.length/\0<j/\i=.slice (some ⟨b,0,none⟩) j cap/\Go.Fid.val (l.take j)=Go.Fid.val l/\wr=w)
  (fun i _=>match i with | .slice _ n _=>n | _=>0)
 case atStart=>
  have hl:0<l.length:=by
   rcases l with _ | ⟨d,l⟩
   ·exact absurd rfl h0
   ·simp
  exact ⟨l.length,Nat.le_refl _,hl,rfl,by rw[List.take_length],rfl⟩
 case round=>
  obtain ⟨j,hj,hj0,rfl,hv,rfl⟩:=hrel
  have hcj:=hc (j-1) (by omega)
  have hj63:(j:Int)<=9223372036854775807:=by unfold maxLen at h2;omega
  have hv2:=Go.Fid.val_take_succ l (j-1)
  rw[show j-1+1=j by omega] at hv2
  by_cases hz:l.getD (j-1) 0=0
  ·rw[hz] at hcj hv2
   have h1j:0<j-1:=by
    rcases Nat.eq_zero_or_pos (j-1) with e | e
    ·rw[e,List.take_zero,Go.Fid.val_nil,Nat.mul_zero] at hv2
     omega
    ·exact e
   gi_wp2
   go_roundw
   case rel=>exact ⟨j-1,by omega,h1j,by simp,by rw[<- hv,hv2];simp,trivial⟩
   case measure=>simp;omega
  ·gi_wp2
   ·rename_i hq
    exfalso
    simp [List.getD] at hz hq
    omega
   ·refine ⟨rfl,.slice (some ⟨b,0,none⟩) j cap,by simp [results,Tryz.results251,go_sem],?_⟩
    have e:Go.Fid.ofNat (Go.Fid.val l)=l.take j:=by
     rw[<- hv]
     refine (Go.Fid.can_eq ⟨hd.take j,?_⟩).symm
     unfold Go.Fid.Top
     have h5:(l.take j).length-1=j-1:=by rw[List.length_take];omega
     rw[h5]
     have h6:j-1<l.length:=by omega
     simp [List.getD,List.getElem?_eq_getElem h6,List.getElem?_take_of_lt (show j-1<j by omega)] at hz ⊢
     exact hz
    rw[e,List.length_take,Nat.min_eq_left hj]
    exact ⟨rfl,rfl⟩
theorem trim_cb:Go.Fid.callB Tryz.prog 251=true:=by kernel_rfl
open Go.Fid in
theorem e_trimO{o:Oper}{S:Nat->SV}{x:Operand}{ats:Array TypeId}{k T m:Nat}(l:List Nat)(ho:o.op=.call { callee:=.value (.func 251),args:=#[x],argTypes:=ats })(hx:ev S x=.own k T 1 m)(hl:l.length=m)(hd:Dig l)(h0:val l≠0) :
  vI Tryz.prog o S [(k,l.map (fun g=>SV.d (jD g)))] (.own k T 1 (ofNat (val l)).length) :=
 fun a w D β Q hop hrd hD=>by
  have hxv:=hop x (by simp [ho,Op.operands,Call.operands])
  rw[hx] at hxv
  have hm:0<m:=by
   rcases Nat.eq_zero_or_pos m with e | e
   ·rw[e] at hl
    have:=List.eq_nil_of_length_eq_zero hl
    subst this
    exact absurd rfl h0
   ·exact e
  have hle:(ofNat (val l)).length<=l.length:=uL (xM hd)
  rcases hxv with ⟨_,e,_⟩ | ⟨b,cap,vs,h1,h2,h3,h4,h5,h6⟩
  ·omega
  ·have hblk:=hrd (k,l.map (fun g=>SV.d (jD g))) (by simp)
   rcases hblk with ⟨g1,_⟩ | ⟨b',vs',T',g1,g2,g3,g4,g5⟩
   ·rw[h1] at g1;cases g1
   ·obtain rfl:b=b':=by rw[h1] at g1;injection g1
    rw[h3] at g2
    injection g2 with g2
    injection g2 with g2 gT
    subst g2;subst gT
    have hcell:∀ i,w.cell? ⟨b,i,none⟩=vs[i]?:=fun i=>cell_of_row w b i vs T (0,0) h3
    have hrun:(execOp a.eval o).run Tryz.prog w=.ok (.enter 251 #[.slice (some ⟨b,0,none⟩) l.length cap]) w:=by
     simp only[execOp,ho,resolve,Deferred.ofValue,Act.eval,Sem.run_bind,Sem.run_pure,Result.andThen_ok,invoke,Array.empty_append,Array.append_empty]
     rw[xF trim_cb]
     simp [h2,hl]
    refine mH hrun (((callsIn_wide (n:=1)).1 (trimV b cap l hd h0 w (fun i hi=>?_) (by omega) h6)).mono fun e w' h=>?_)
    ·rw[hcell]
     obtain ⟨u,e1,_,e3⟩:=g4 i (.d (jD (l.getD i 0))) (by rw[List.getElem?_map,List.getElem?_eq_getElem hi];simp [List.getD,List.getElem?_eq_getElem hi])
     rw[e1,vW e3]
    ·obtain ⟨he,rfl⟩:=h
     exact ⟨_,he,_,D,rfl,Below.refl _ _,⟨fun _ _ _ h=>h,fun _ _ _ h=>.inl h⟩,.inr ⟨b,cap,vs,h1,rfl,h3,h4,by omega,h6⟩⟩
open Go.Fid in
theorem trim_take{l:List Nat}(hd:Dig l):ofNat (val l)=l.take (ofNat (val l)).length:=by
 have h1:∀ (n:Nat) (l:List Nat),l.length=n->Dig l->ofNat (val l)=l.take (ofNat (val l)).length:=by
  intro n
  induction n with
  |zero=>intro l hl _;rw[List.eq_nil_of_length_eq_zero hl];rw[val_nil,uS];rfl
  |succ n ih=>
   intro l hl hd
   have h2:=val_take_succ l n
   rw[<- hl,List.take_length] at h2
   by_cases hz:l.getD n 0=0
   ·rw[hz,Nat.mul_zero,Nat.add_zero] at h2
    have h3:=ih (l.take n) (by rw[List.length_take];omega) (hd.take n)
    rw[<- h2,List.take_take] at h3
    have h4:(ofNat (val l)).length<=n:=by
     rw[h2];exact uL (by have:=xM (hd.take n);rwa [List.length_take,Nat.min_eq_left (by omega)] at this)
    rw[Nat.min_eq_left h4] at h3
    exact h3
   ·have h3:yW l:=⟨hd,by
     unfold Top
     rw[show l.length-1=n by omega]
     have h6:n<l.length:=by omega
     simp [List.getD,List.getElem?_eq_getElem h6] at hz ⊢
     exact hz⟩
    rw[<- can_eq h3,List.take_length]
 exact h1 _ l rfl hd
end Go.Proofs.YtnajallgoaiahaaGreatDoor
namespace Go.Proofs.YtnajallgoaiahaaGreatDoor
open Go.Fid
theorem ze41:yI Tryz.prog 41=some [.slice none 0 0]:=by kernel_rfl
theorem zo41:iB [.slice none 0 0] [.sl 140 1 []]:=by simp [iB,Value.oneCell']
theorem t_short(a:List Nat)(d:Nat)(hda:Dig a)(hd0:0<d)(hd1:d<=1000000000)(hla:a.length<=17592186044416):jO Tryz.prog 252 [(.sl 140 1 (List.map jD a)),(.val (.int .u32 (((d:Nat):Int))))] (.tup [(.sl 140 1 (List.map jD (ofNat (val a / d)))),(.val (.int .u32 ((((val a % d):Nat):Int))))]):=by
 refine qY Tryz.func252 ?_
 refine jB<|kx [(3,(.ref 0 0)),(4,(.ref 1 0)),(5,(lF 0))] [(0,some (bx (.val (.int .u32 (((d:Nat):Int)))))),(1,some (bx (.sl 140 1 (List.map jD []))))] (zN (uU 0)<|zN (qR 1 ze41 zo41)<|zM<|zZ) ?_
 refine jB<|kx [] [(1,some [(.own 2 140 1 a.length)]),(2,some (bm jD (List.replicate a.length 0)))] (zM<|zE (vP kO)<|zN (oMk 2 jD (0:Nat) a.length a.length kO xB yZ mI)<|zT (oSo yD)<|zZ) ?_
 refine jB<|kx [(6,(.ref 3 0))] [(3,some (bx (.val (.int .u64 (0)))))] (zH (qR 3 ze170 zo170)<|zT (qA sh170)<|zZ) ?_
 refine jB<|pwp_backL backs cb249 rfl 7 jD a 0 (fun (q,zD)=>⟨[(3,(.ref 0 0)),(4,(.ref 1 0)),(5,(lF 0)),(6,(.ref 3 0))],[(0,some (bx (.val (.int .u32 (((d:Nat):Int)))))),(1,some [(.own 2 140 1 a.length)]),(2,some (bm jD q)),(3,some (bx (.val (.int .u64 (((zD:Nat):Int))))))]⟩) (fun (j:Nat) (q,zD)=>q.length=a.length/\Dig q/\zD<d/\val (a.drop (a.length-j))=val (q.drop (a.length-j))*d+zD) (List.replicate a.length 0,0) rfl rfl rfl rfl rfl rfl rfl rfl rfl rfl rfl rfl (fun _=>rfl) (fun _=>rfl) wk ⟨by simp,yM _,hd0,by simp [val,eX]⟩ (by omega) ?_ ?_
 ·rintro rl j ⟨q,zD⟩ hj ⟨uF,hdq,hr,hv⟩
  have hg:=hda.getD (a.length-1-j)
  obtain ⟨hb1,hb2⟩:=short_bound hr hd1 hg
  refine jB<|kx [(7,(jS (a.length-1-j)))] [] (zM<|zZ) ?_
  refine kx [(8,(lF (a.getD (a.length-1-j) 0)))] [] (zM<|zZ) ?_
  refine jH<|jB<|kx [(9,(nK ((zD*1000000000)+(a.getD (a.length-1-j) 0))))] [] (zR (uE sh170)<|zE (oMl (zD*1000000000))<|zM<|zE (cM gN gL (a.getD (a.length-1-j) 0))<|zE (vO ((zD*1000000000)+(a.getD (a.length-1-j) 0)))<|zM<|zZ) ?_
  refine kd [] [(2,some (bm jD (q.set (a.length-1-j) (((zD*1000000000)+(a.getD (a.length-1-j) 0)) / d)))),(3,some (bx (.val (.int .u64 ((((((zD*1000000000)+(a.getD (a.length-1-j) 0)) % d):Nat):Int))))))] mo (wR (uE yD)<|wM<|wM<|wR (uE uB)<|wE (cM gN gL d)<|wE (oQu (((zD*1000000000)+(a.getD (a.length-1-j) 0)) / d))<|wE (cM mB nO (((zD*1000000000)+(a.getD (a.length-1-j) 0)) / d))<|wM<|wR (uE uB)<|wE (cM gN gL d)<|wE (oRe (((zD*1000000000)+(a.getD (a.length-1-j) 0)) % d))<|wE (iE kO (a.length-1-j))<|wT (oSp uB (a.length-1-j) (((zD*1000000000)+(a.getD (a.length-1-j) 0)) / d))<|wT (qA sh170)<|wZ) ?_
  exact ⟨(q.set (a.length-1-j) ((zD*1000000000+a.getD (a.length-1-j) 0) / d),(zD*1000000000+a.getD (a.length-1-j) 0) % d),wk,⟨by simpa using uF,hdq.set _ hb2,Nat.mod_lt _ hd0,short_step hj uF hv rfl⟩⟩
 ·rintro ⟨q,zD⟩ ⟨uF,hdq,hr,hv⟩
  obtain ⟨e1,e2⟩:=short_end hv hr
  refine jB<|kU (publishB (j:=1) (k:=2) (es:=List.map jD q) rfl rfl rfl (vD _ _ (fun _=>rfl)) (uW _ _ uF) (xE _ _ (fun _=>rfl) uF)) ?_
  refine kd [(5,(lF zD))] [(1,some (bx (.sl 140 1 (List.map jD (ofNat (val q))))))] mo (wR (uE yD)<|wE (jV (t_trim q (by assumption) (by omega)))<|wR (uE sh170)<|wE (cM mB nO zD)<|wT (qA yD)<|wM<|wZ) ?_
  refine jE ⟨_,(res_1 (cs:=(bx (.sl 140 1 (List.map jD (ofNat (val q)))))) (d:=(.sl 140 1 (List.map jD (ofNat (val q))))) rfl rfl yD rfl rfl (.tmp (d:=(.val (.int .u32 (((zD:Nat):Int))))) rfl .nil)),?_⟩
  rw[<- e1,<- e2];rfl
theorem o_times(a b:List Nat)(hda:Dig a)(hdb:Dig b)(hla:a.length<=4398046511104)(hlb:b.length<=4398046511104)(h0:0<val a*val b):TakesO Tryz.prog 226 [(.sl 140 1 (List.map jD a)),(.sl 140 1 (List.map jD b))] 140 1 (ofNat (val a*val b)).length (List.map jD (ofNat (val a*val b))):=by
 refine fn_introO Tryz.func226 rfl cb226 rfl (fD h0) ?_
 refine jB<|kx [] [] (zE (aZ 140 1)<|zZ) ?_
 refine jB<|kx [(5,(.own 0 140 1 (a.length+b.length)))] [(0,some (bm jD (List.replicate (a.length+b.length) 0)))] (zM<|zE (vP kO)<|zM<|zE (vP kO)<|zE (vO (a.length+b.length))<|zN (oMk 0 jD (0:Nat) (a.length+b.length) (a.length+b.length) kO xB yZ mI)<|zM<|zZ) ?_
 refine jB<|jB<|kx [(18,(vl 140 1 jD a)),(19,(jS a.length)),(20,(jS 0))] [] (zM<|zE (vP kO)<|zM<|zZ) ?_
 refine jH<|kF (α:=Nat × List Nat) (fun (i,out)=>⟨[(1,(vl 140 1 jD b)),(5,(.own 0 140 1 (a.length+b.length))),(18,(vl 140 1 jD a)),(19,(jS a.length)),(20,(jS i))],[(0,some (bm jD out))]⟩) (fun (i,out)=>out.length=a.length+b.length/\Dig out/\i<=a.length/\(∀ k,i+b.length<=k->out.getD k 0=0)/\val out=val (a.take i)*val b) (fun (i,out)=>a.length-i) (0,List.replicate (a.length+b.length) 0) wk ⟨by simp,yM _,Nat.zero_le _,fun k _=>aU _ k,by simp [val,eX]⟩ ?_
 rintro ⟨i,out⟩ ⟨uF,hdo,hi,hz,hv⟩
 have hai:=hda.getD i
 refine jB<|kx [(21,(vb (decide (((i:Nat):Int)<((a.length:Nat):Int)))))] [] (zE xK<|zZ) ?_
 refine jB<|jG rfl (fun h1=>?_) (fun h1=>?_)
 ·replace h1:=uV h1
  refine jC<|jB<|jH<|jB<|kx [(6,(jS i)),(7,(lF (a.getD i 0)))] [] (zM<|zE (yE kO i (0:Nat))<|zE (yV uB)<|zM<|zM<|zZ) ?_
  refine jB<|kx [(8,(nK 0))] [] (zM<|zZ) ?_
  refine jB<|jB<|kx [(25,(vl 140 1 jD b)),(26,(jS b.length)),(27,(jS 0))] [] (zM<|zE (vP kO)<|zM<|zZ) ?_
  refine jH<|kF (α:=Nat × List Nat × Nat) (fun (j,o2,c)=>⟨[(1,(vl 140 1 jD b)),(5,(.own 0 140 1 (a.length+b.length))),(6,(jS i)),(7,(lF (a.getD i 0))),(8,(nK c)),(18,(vl 140 1 jD a)),(19,(jS a.length)),(20,(jS i)),(25,(vl 140 1 jD b)),(26,(jS b.length)),(27,(jS j))],[(0,some (bm jD o2))]⟩) (fun (j,o2,c)=>o2.length=a.length+b.length/\Dig o2/\j<=b.length/\c<1000000000/\(∀ k,i+b.length<=k->o2.getD k 0=0)/\val o2+pw (i+j)*c=val (a.take i)*val b+pw i*(a.getD i 0*val (b.take j))) (fun (j,o2,c)=>b.length-j) (0,out,0) wk ⟨uF,hdo,Nat.zero_le _,by decide,hz,by simp [val,hv]⟩ ?_
  rintro ⟨j,o2,c⟩ ⟨hlen2,hdo2,hj,hc,hz2,hv2⟩
  have hbj:=hdb.getD j
  have hoj:=hdo2.getD (i+j)
  have hpq:a.getD i 0*b.getD j 0<=999999999*999999999:=Nat.mul_le_mul (by omega) (by omega)
  refine jB<|kx [(28,(vb (decide (((j:Nat):Int)<((b.length:Nat):Int)))))] [] (zE xK<|zZ) ?_
  refine jB<|jG rfl (fun h2=>?_) (fun h2=>?_)
  ·replace h2:=uV h2
   refine jC<|jB<|jH<|jB<|kx [(9,(jS j)),(10,(lF (b.getD j 0)))] [] (zM<|zE (yE kO j (0:Nat))<|zE (yV uB)<|zM<|zM<|zZ) ?_
   refine jB<|kx [(11,(nK (((o2.getD (i+j) 0)+((a.getD i 0)*(b.getD j 0)))+c)))] [] (zM<|zM<|zM<|zE (vO (i+j))<|zE (iE kO (i+j))<|zR (oLp uB (i+j) (0:Nat))<|zE (cM gN gL (o2.getD (i+j) 0))<|zM<|zE (cM gN gL (a.getD i 0))<|zM<|zE (cM gN gL (b.getD j 0))<|zE (oMl ((a.getD i 0)*(b.getD j 0)))<|zE (vO ((o2.getD (i+j) 0)+((a.getD i 0)*(b.getD j 0))))<|zM<|zE (vO (((o2.getD (i+j) 0)+((a.getD i 0)*(b.getD j 0)))+c))<|zM<|zZ) ?_
   refine kx [(8,(nK ((((o2.getD (i+j) 0)+((a.getD i 0)*(b.getD j 0)))+c) / 1000000000)))] [(0,some (bm jD (o2.set (i+j) ((((o2.getD (i+j) 0)+((a.getD i 0)*(b.getD j 0)))+c) % 1000000000))))] (zM<|zM<|zM<|zE (vO (i+j))<|zM<|zE (oRe ((((o2.getD (i+j) 0)+((a.getD i 0)*(b.getD j 0)))+c) % 1000000000))<|zE (cM mB nO ((((o2.getD (i+j) 0)+((a.getD i 0)*(b.getD j 0)))+c) % 1000000000))<|zM<|zE (oQu ((((o2.getD (i+j) 0)+((a.getD i 0)*(b.getD j 0)))+c) / 1000000000))<|zE (iE kO (i+j))<|zT (oSp uB (i+j) ((((o2.getD (i+j) 0)+((a.getD i 0)*(b.getD j 0)))+c) % 1000000000))<|zM<|zZ) ?_
   refine kx [(27,(jS (j+1)))] [] (zE (vO (j+1))<|zM<|zZ) ?_
   exact ⟨(j+1,o2.set (i+j) ((o2.getD (i+j) 0+a.getD i 0*b.getD j 0+c) % 1000000000),(o2.getD (i+j) 0+a.getD i 0*b.getD j 0+c) / 1000000000),wk,(by obtain ⟨q1,q2⟩:=times_step (by omega) hdo2 hv2 rfl (val_take_succ b j);exact ⟨by simpa using hlen2,q1,by omega,by omega,zero_set (by omega) hz2,q2⟩),(by first|omega|(dsimp only;omega))⟩
  ·replace h2:=vB h2
   have hje:j=b.length:=by omega
   rw[hje] at hv2
   refine kD<|kx [] [(0,some (bm jD (o2.set (i+b.length) c)))] (zM<|zM<|zM<|zE (vP kO)<|zE (vO (i+b.length))<|zM<|zE (cM mB nO c)<|zE (iE kO (i+b.length))<|zT (oSp uB (i+b.length) c)<|zZ) ?_
   refine kx [(20,(jS (i+1)))] [] (zE (vO (i+1))<|zM<|zZ) ?_
   exact ⟨(i+1,o2.set (i+b.length) c),wk,(by obtain ⟨q1,q2,q3,q4⟩:=times_row hdo2 (by omega) hlen2 hz2 hc hv2;exact ⟨q1,q2,by omega,q3,q4⟩),(by first|omega|(dsimp only;omega))⟩
 ·replace h1:=vB h1
  have hie:i=a.length:=by omega
  rw[hie,List.take_length] at hv
  refine kD<|jB<|kx [(4,(.own 0 140 1 ((ofNat (val out)).length)))] [] (zM<|zR ⟨_,e_trimO out (by exact rfl) (by exact rfl) uF hdo (by omega),by kernel_rfl⟩<|zM<|zZ) ?_
  rw[<- hv]
  refine jE ⟨4,0,rfl,rfl,(bm jD out),rfl,?_⟩
  exact own_prefix _ (trim_take hdo)
end Go.Proofs.YtnajallgoaiahaaGreatDoor
