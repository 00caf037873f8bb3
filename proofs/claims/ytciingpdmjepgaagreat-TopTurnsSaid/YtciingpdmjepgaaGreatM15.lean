/- Part 15 of a proof: rules, plain facts, and functions walked. -/
import Derived.Test.YtciingpdmjepgaaGreatM14
import Derived.Test.YtciingpdmjepgaaGreatM11
import Derived.Test.YtciingpdmjepgaaGreatM10
import Derived.Test.YtciingpdmjepgaaGreatChecked
import Derived.RangeFuncBox
import Derived.Shelf.Abstract
import Derived.OwnWalkIn
import Derived.TacticsInMore
import Derived.LoopNIn
import Derived.LoopIn
set_option linter.all false
set_option maxRecDepth 4000
namespace Go.Proofs.YtciingpdmjepgaaGreat
open Go.Fid
theorem bo4:boolB Tryz.prog 4=true:=by kernel_rfl
theorem un3:(Tryz.prog.underlying 3).isSome=true:=by kernel_rfl
theorem t_sign(x:kR)(hx:x.gs.length<=1099511627776):jU Tryz.prog 69 [(jL x)] (.val (.int .i64 ((kW (qB x))))):=by
 refine vD Tryz.func69 ?_
 refine jA<|kx [(1,(.ref 0 0))] [(0,some (bx (jL x)))] (zN (yB 0)<|zM<|zZ) ?_
 refine jA<|jH<|jA<|kx [(3,(vb ((((jQ x).length:Nat):Int) == 0)))] [] (zR (qE jP)<|zE (kD (yJ x (by omega)))<|zE (vV kE (L:=(jQ x)))<|zE zW<|zM<|zZ) ?_
 refine jF (b:=((((jQ x).length:Nat):Int) == 0)) rfl (fun h1=>?_) (fun h1=>?_)
 ·replace h1:=eq_of_beq h1
  refine jA<|kx [(2,(jN 0))] [] (zM<|zZ) ?_
  refine jG ⟨_,(.tmp (d:=(.val (.int .i64 (0)))) rfl .nil),?_⟩
  rw[toZ_nil h1];rfl
 ·replace h1:=ne_of_beq_false h1
  refine jA<|kx [(8,(vb x.neg))] [] (zE (jY vT)<|zR (jZ aH)<|zM<|zZ) ?_
  refine jF (b:=x.neg) rfl (fun h2=>?_) (fun h2=>?_)
  ·refine jA<|kx [(2,(vi (-1)))] [] (zM<|zZ) ?_
   refine jG ⟨_,(.tmp (d:=(.val (.int .i64 (-1)))) rfl .nil),?_⟩
   rw[sign_neg h1 h2];rfl
  ·refine jD<|jA<|kx [(2,(jN 1))] [] (zM<|zZ) ?_
   refine jG ⟨_,(.tmp (d:=(.val (.int .i64 (1)))) rfl .nil),?_⟩
   rw[sign_pos h1 h2];rfl
theorem t_neg(x:kR)(hx:x.gs.length<=1099511627776):jU Tryz.prog 86 [(jL x)] (jL (kG (-qB x))):=by
 refine vD Tryz.func86 ?_
 refine jA<|kx [(1,(.ref 0 0)),(2,(.ref 1 0))] [(0,some (bx (jL x))),(1,some (bx (jL (kR.mk false []))))] (zN (yB 0)<|zN (vL 1 vY vZ)<|zZ) ?_
 refine jA<|kd [] [(1,some (bx (jL (xV (!x.neg) (val (jQ x))))))] mo (wE (jY vT)<|wR (jZ aH)<|wE eU<|wR (qE jP)<|wE (kD (yJ x (by omega)))<|wE (kD (t_clone (jQ x) (Nat.le_trans (zV _) (by omega))))<|wE (kD (mT (!x.neg) (jQ x) (kX _).1 (Nat.le_trans (zV _) (by omega))))<|wT (qO jP)<|wZ) ?_
 refine jG ⟨_,(qK (cs:=(bx (jL (xV (!x.neg) (val (jQ x)))))) (d:=(jL (xV (!x.neg) (val (jQ x))))) rfl rfl jP rfl rfl .nil),?_⟩
 rw[<- neg_eq];rfl
theorem t_sum(b:Bool)(l:List Nat)(c:Bool)(m:List Nat)(hl:yA l)(hm:yA m)(hll:l.length<=1099511627776)(hlm:m.length<=1099511627776):jU Tryz.prog 83 [(.val (.bool (b))),(.sl 135 1 (List.map jC l)),(.val (.bool (c))),(.sl 135 1 (List.map jC m))] (jL (kG (mE b (val l)+mE c (val m)))):=by
 refine vD Tryz.func83 ?_
 refine jA<|kx [(8,(.ref 0 0))] [(0,some (bx (jL (kR.mk false []))))] (zN (vL 0 vY vZ)<|zZ) ?_
 refine jA<|jH<|jA<|kx [(9,(vb (b == c)))] [] (zM<|zM<|zE (oEb bo4)<|zM<|zZ) ?_
 refine jF (b:=(b == c)) rfl (fun h1=>?_) (fun h1=>?_)
 ·replace h1:=eq_of_beq h1
  refine jA<|kx [] [(0,some (bx (jL (xV b (val (ofNat (val l+val m)))))))] (zM<|zM<|zM<|zE (kD (t_plus l m hl.1 hm.1 (by omega) (by omega)))<|zE (kD (mT b (ofNat (val l+val m)) (kB _) (Nat.le_trans (add_len hl.1 hm.1) (by omega))))<|zT (qO jP)<|zZ) ?_
  refine jG ⟨_,(qK (cs:=(bx (jL (xV b (val (ofNat (val l+val m))))))) (d:=(jL (xV b (val (ofNat (val l+val m)))))) rfl rfl jP rfl rfl .nil),?_⟩
  rw[<- sum_same h1];rfl
 ·replace h1:=ne_of_beq_false h1
  refine jA<|kx [(18,(vb (decide (0<=(uM ((val l:Nat):Int) ((val m:Nat):Int))))))] [] (zM<|zM<|zE (kD (t_compare l m (by assumption) (by assumption) (by omega)))<|zE oGe<|zM<|zZ) ?_
  refine jF rfl (fun h2=>?_) (fun h2=>?_)
  ·replace h2:=uY h2
   refine jA<|kx [] [(0,some (bx (jL (xV b (val (ofNat (val l-val m)))))))] (zM<|zM<|zM<|zE (kD (t_minus l m hl.1 hm.1 (by have:=aS h2;omega) (by omega)))<|zE (kD (mT b (ofNat (val l-val m)) (kB _) (Nat.le_trans (sub_len hl.1) (by omega))))<|zT (qO jP)<|zZ) ?_
   refine jG ⟨_,(qK (cs:=(bx (jL (xV b (val (ofNat (val l-val m))))))) (d:=(jL (xV b (val (ofNat (val l-val m)))))) rfl rfl jP rfl rfl .nil),?_⟩
   rw[<- sum_first h1 (by have:=aS h2;omega)];rfl
  ·replace h2:=uZ h2
   refine jD<|jA<|kx [] [(0,some (bx (jL (xV c (val (ofNat (val m-val l)))))))] (zM<|zM<|zM<|zE (kD (t_minus m l hm.1 hl.1 (by have:=cmpI_lt h2;omega) (by omega)))<|zE (kD (mT c (ofNat (val m-val l)) (kB _) (Nat.le_trans (sub_len hm.1) (by omega))))<|zT (qO jP)<|zZ) ?_
   refine jG ⟨_,(qK (cs:=(bx (jL (xV c (val (ofNat (val m-val l))))))) (d:=(jL (xV c (val (ofNat (val m-val l)))))) rfl rfl jP rfl rfl .nil),?_⟩
   rw[<- sum_second h1 (by have:=cmpI_lt h2;omega)];rfl
theorem t_add(x:kR)(y:kR)(hx:x.gs.length<=1099511627776)(hy:y.gs.length<=1099511627776):jU Tryz.prog 62 [(jL x),(jL y)] (jL (kG (qB x+qB y))):=by
 refine vD Tryz.func62 ?_
 refine jA<|kx [(2,(.ref 0 0)),(3,(.ref 1 0)),(4,(.ref 2 0))] [(0,some (bx (jL x))),(1,some (bx (jL y))),(2,some (bx (jL (kR.mk false []))))] (zN (yB 0)<|zN (yB 1)<|zN (vL 2 vY vZ)<|zZ) ?_
 refine jA<|kd [] [(2,some (bx (jL (kG (mE x.neg (val (jQ x))+mE y.neg (val (jQ y)))))))] mo (wE (jY vT)<|wR (jZ aH)<|wR (qE jP)<|wE (kD (yJ x (by omega)))<|wE (jY vT)<|wR (jZ aH)<|wR (qE jP)<|wE (kD (yJ y (by omega)))<|wE (kD (t_sum x.neg (jQ x) y.neg (jQ y) (kX _) (kX _) (Nat.le_trans (zV _) (by omega)) (Nat.le_trans (zV _) (by omega))))<|wT (qO jP)<|wZ) ?_
 refine jG ⟨_,(qK (cs:=(bx (jL (kG (mE x.neg (val (jQ x))+mE y.neg (val (jQ y))))))) (d:=(jL (kG (mE x.neg (val (jQ x))+mE y.neg (val (jQ y)))))) rfl rfl jP rfl rfl .nil),?_⟩
 rfl
theorem t_mul(x:kR)(y:kR)(hx:x.gs.length<=1099511627776)(hy:y.gs.length<=1099511627776):jU Tryz.prog 45 [(jL x),(jL y)] (jL (kG (qB x*qB y))):=by
 refine vD Tryz.func45 ?_
 refine jA<|kx [(2,(.ref 0 0)),(3,(.ref 1 0)),(4,(.ref 2 0))] [(0,some (bx (jL x))),(1,some (bx (jL y))),(2,some (bx (jL (kR.mk false []))))] (zN (yB 0)<|zN (yB 1)<|zN (vL 2 vY vZ)<|zZ) ?_
 refine jA<|kd [] [(2,some (bx (jL (xV (!(x.neg == y.neg)) (val (ofNat (val (jQ x)*val (jQ y))))))))] mo (wE (jY vT)<|wR (jZ aH)<|wE (jY vT)<|wR (jZ aH)<|wE (oNb bo4)<|wR (qE jP)<|wE (kD (yJ x (by omega)))<|wR (qE jP)<|wE (kD (yJ y (by omega)))<|wE (kD (t_times (jQ x) (jQ y) (kX _).1 (kX _).1 (Nat.le_trans (zV _) (by omega)) (Nat.le_trans (zV _) (by omega))))<|wE (kD (mT (!(x.neg == y.neg)) (ofNat (val (jQ x)*val (jQ y))) (kB _) (Nat.le_trans (mul_len (kX _).1 (kX _).1) (by have:=zV x;have:=zV y;omega))))<|wT (qO jP)<|wZ) ?_
 refine jG ⟨_,(qK (cs:=(bx (jL (xV (!(x.neg == y.neg)) (val (ofNat (val (jQ x)*val (jQ y)))))))) (d:=(jL (xV (!(x.neg == y.neg)) (val (ofNat (val (jQ x)*val (jQ y))))))) rfl rfl jP rfl rfl .nil),?_⟩
 rw[show qB x*qB y=_ from rfl,qB,qB,<- mul_eq];rfl
theorem nI(n:Int)(hlo:-9223372036854775808<=n:=by decide)(hhi:n<=9223372036854775807:=by decide):jU Tryz.prog 43 [(.val (.int .i64 (n)))] (jL (kG n)):=by
 refine vD Tryz.func43 ?_
 refine jA<|kx [(2,(.ref 0 0))] [(0,some (bx (jL (kR.mk false []))))] (zN (vL 0 vY vZ)<|zZ) ?_
 refine jA<|kx [(3,(yH ((n % 18446744073709551616).toNat)))] [] (zM<|zE (nR un3 xM ((n % 18446744073709551616).toNat) (hr:=by exact (conv_u64 _)))<|zM<|zZ) ?_
 refine jA<|jA<|kx [(7,(vb (decide (n<0))))] [] (zM<|zE uT<|zZ) ?_
 refine jF (b:=decide (n<0)) rfl (fun h1=>?_) (fun h1=>?_)
 ·replace h1:=uY h1
  refine kx [(3,(yH ((-n).toNat)))] [] (zM<|zE (oNg (((-n).toNat:Nat):Int) (hr:=by exact (neg_u64 (by assumption) hlo)))<|zM<|zZ) ?_
  refine jA<|kx [] [(0,some (bx (jL (xV (decide (n<0)) (val (ofNat ((-n).toNat)))))))] (zM<|zE uT<|zM<|zE (kD (t_split ((-n).toNat) (by omega)))<|zE (kD (mT (decide (n<0)) (ofNat ((-n).toNat)) (kB _) (Nat.le_trans (dX (by omega)) (by decide))))<|zT (qO jP)<|zZ) ?_
  refine jG ⟨_,(qK (cs:=(bx (jL (xV (decide (n<0)) (val (ofNat ((-n).toNat))))))) (d:=(jL (xV (decide (n<0)) (val (ofNat ((-n).toNat)))))) rfl rfl jP rfl rfl .nil),?_⟩
  rw[of_neg h1];rfl
 ·replace h1:=uZ h1
  refine jD<|jA<|kx [] [(0,some (bx (jL (xV (decide (n<0)) (val (ofNat ((n % 18446744073709551616).toNat)))))))] (zM<|zE uT<|zM<|zE (kD (t_split ((n % 18446744073709551616).toNat) (by omega)))<|zE (kD (mT (decide (n<0)) (ofNat ((n % 18446744073709551616).toNat)) (kB _) (Nat.le_trans (dX (by omega)) (by decide))))<|zT (qO jP)<|zZ) ?_
  refine jG ⟨_,(qK (cs:=(bx (jL (xV (decide (n<0)) (val (ofNat ((n % 18446744073709551616).toNat))))))) (d:=(jL (xV (decide (n<0)) (val (ofNat ((n % 18446744073709551616).toNat)))))) rfl rfl jP rfl rfl .nil),?_⟩
  rw[of_pos h1 hhi];rfl
theorem t_compareI(x:kR)(y:kR)(hx:x.gs.length<=1099511627776)(hy:y.gs.length<=1099511627776):jU Tryz.prog 122 [(jL x),(jL y)] (.val (.int .i64 ((uM (qB x) (qB y))))):=by
 refine vD Tryz.func122 ?_
 refine jA<|kx [(2,(.ref 0 0)),(3,(.ref 1 0))] [(0,some (bx (jL x))),(1,some (bx (jL y)))] (zN (yB 0)<|zN (yB 1)<|zM<|zZ) ?_
 refine jA<|jA<|kd [(5,(vi (kW (qB x)))),(6,(vi (kW (qB y))))] [] mo (wR (qE jP)<|wE (kD (t_sign x (by omega)))<|wR (qE jP)<|wE (kD (t_sign y (by omega)))<|wM<|wM<|wZ) ?_
 refine jA<|kx [(14,(vb ((kW (qB x)) != (kW (qB y)))))] [] (zM<|zM<|zE xX<|zZ) ?_
 refine jF (b:=((kW (qB x)) != (kW (qB y)))) rfl (fun h1=>?_) (fun h1=>?_)
 ·replace h1:=bne_iff_ne.1 h1
  refine jA<|kx [(4,(vi (uM (kW (qB x)) (kW (qB y)))))] [] (zM<|zM<|zE (kD (t_cmp_int (kW (qB x)) (kW (qB y))))<|zM<|zZ) ?_
  refine jG ⟨_,(.tmp (d:=(.val (.int .i64 ((uM (kW (qB x)) (kW (qB y))))))) rfl .nil),?_⟩
  rw[<- cmp_sign h1];rfl
 ·replace h1:=bne_eq_false_iff_eq.1 h1
  refine jD<|jA<|kd [(7,(vi (uM ((val (jQ x):Nat):Int) ((val (jQ y):Nat):Int))))] [] mo (wR (qE jP)<|wE (kD (yJ x (by omega)))<|wR (qE jP)<|wE (kD (yJ y (by omega)))<|wE (kD (t_compare (jQ x) (jQ y) (kX _) (kX _) (Nat.le_trans (zV _) (by omega))))<|wM<|wZ) ?_
  refine jA<|jA<|kx [(24,(vb x.neg))] [] (zE (jY vT)<|zR (jZ aH)<|zZ) ?_
  refine jF (b:=x.neg) rfl (fun h2=>?_) (fun h2=>?_)
  ·refine jA<|kx [(4,(vi (-(uM ((val (jQ x):Nat):Int) ((val (jQ y):Nat):Int)))))] [] (zM<|zE (oNg (-(uM ((val (jQ x):Nat):Int) ((val (jQ y):Nat):Int))) (hr:=by exact (wi64 (by omega) (by have:=cmpI_range ((val (jQ x):Nat):Int) ((val (jQ y):Nat):Int);omega) (by have:=cmpI_range ((val (jQ x):Nat):Int) ((val (jQ y):Nat):Int);omega))))<|zM<|zZ) ?_
   refine jG ⟨_,(.tmp (d:=(.val (.int .i64 (-(uM ((val (jQ x):Nat):Int) ((val (jQ y):Nat):Int)))))) rfl .nil),?_⟩
   rw[<- cmp_neg h1 h2];rfl
  ·refine jD<|jA<|kx [(4,(vi (uM ((val (jQ x):Nat):Int) ((val (jQ y):Nat):Int))))] [] (zM<|zM<|zZ) ?_
   refine jG ⟨_,(.tmp (d:=(.val (.int .i64 ((uM ((val (jQ x):Nat):Int) ((val (jQ y):Nat):Int)))))) rfl .nil),?_⟩
   rw[<- cmp_pos h1 h2];rfl
open Go.RowKit Go.Shelf
attribute [local go_sem] Oper.semAt_some
set_option maxRecDepth 100000 in
set_option maxHeartbeats 2000000 in
theorem trimV(b cap:Nat)(l:List Nat)(hd:Go.Fid.Dig l)(h0:Go.Fid.val l≠0)(w:World)(hc:∀ i,i<l.length->w.cell? ⟨b,i,none⟩=some (.int .u32 ((l.getD i 0:Nat):Int)))(h1:l.length<=cap)(h2:cap<=maxLen) :
  CallsIn Fence.wide 1 Tryz.prog 88 #[.slice (some ⟨b,0,none⟩) l.length cap] w fun e w'=>e=.returned (.slice (some ⟨b,0,none⟩) (Go.Fid.ofNat (Go.Fid.val l)).length cap)/\w'=w:=by
 refine callsIn_of_wp Tryz.func88 rfl trivial ?_ rfl
 simp only[Tryz.ntmps88,List.size_toArray,List.length_cons,List.length_nil,Nat.reduceAdd,Nat.reduceSub,Array.replicate_succ,Array.replicate_zero,List.push_toArray,List.append_toArray,List.nil_append,List.cons_append]
 gi_wp2
 gi_loopw [0] (fun i wr=>∃ j:Nat,j<=l.length/\0<j/\i=.slice (some ⟨b,0,none⟩) j cap/\Go.Fid.val (l.take j)=Go.Fid.val l/\wr=w)
  (fun i _=>match i with | .slice _ n _=>n | _=>0)
 case atStart=>
  have hl:0<l.length:=by
   rcases l with _ | ⟨d,l⟩
   ·exact absurd rfl h0
   ·simp
  exact ⟨l.length,Nat.le_refl _,hl,rfl,by rw[List.take_length],rfl⟩
 case round=>
  obtain ⟨j,hj,hj0,rfl,hv,rfl⟩:=hrel
  have hcj:=hc (j-1) (by omega)
  have hj63:(j:Int)<=9223372036854775807:=by unfold maxLen at h2;omega
  have hv2:=Go.Fid.val_take_succ l (j-1)
  rw[show j-1+1=j by omega] at hv2
  by_cases hz:l.getD (j-1) 0=0
  ·rw[hz] at hcj hv2
   have h1j:0<j-1:=by
    rcases Nat.eq_zero_or_pos (j-1) with e | e
    ·rw[e,List.take_zero,Go.Fid.val_nil,Nat.mul_zero] at hv2
     omega
    ·exact e
   gi_wp2
   go_roundw
   case rel=>exact ⟨j-1,by omega,h1j,by simp,by rw[<- hv,hv2];simp,trivial⟩
   case measure=>simp;omega
  ·gi_wp2
   ·rename_i hq
    exfalso
    simp [List.getD] at hz hq
    omega
   ·refine ⟨rfl,.slice (some ⟨b,0,none⟩) j cap,by simp [results,Tryz.results88,go_sem],?_⟩
    have e:Go.Fid.ofNat (Go.Fid.val l)=l.take j:=by
     rw[<- hv]
     refine (Go.Fid.can_eq ⟨hd.take j,?_⟩).symm
     unfold Go.Fid.Top
     have h5:(l.take j).length-1=j-1:=by rw[List.length_take];omega
     rw[h5]
     have h6:j-1<l.length:=by omega
     simp [List.getD,List.getElem?_eq_getElem h6,List.getElem?_take_of_lt (show j-1<j by omega)] at hz ⊢
     exact hz
    rw[e,List.length_take,Nat.min_eq_left hj]
    exact ⟨rfl,rfl⟩
theorem trim_cb:Go.Fid.callB Tryz.prog 88=true:=by kernel_rfl
open Go.Fid in
theorem e_trimO{o:Oper}{S:Nat->SV}{x:Operand}{ats:Array TypeId}{k T m:Nat}(l:List Nat)(ho:o.op=.call { callee:=.value (.func 88),args:=#[x],argTypes:=ats })(hx:ev S x=.own k T 1 m)(hl:l.length=m)(hd:Dig l)(h0:val l≠0) :
  qU Tryz.prog o S [(k,l.map (fun g=>SV.d (jC g)))] (.own k T 1 (ofNat (val l)).length) :=
 fun a w D β Q hop hrd hD=>by
  have hxv:=hop x (by simp [ho,Op.operands,Call.operands])
  rw[hx] at hxv
  have hm:0<m:=by
   rcases Nat.eq_zero_or_pos m with e | e
   ·rw[e] at hl
    have:=List.eq_nil_of_length_eq_zero hl
    subst this
    exact absurd rfl h0
   ·exact e
  have hle:(ofNat (val l)).length<=l.length:=qP (uV hd)
  rcases hxv with ⟨_,e,_⟩ | ⟨b,cap,vs,h1,h2,h3,h4,h5,h6⟩
  ·omega
  ·have hblk:=hrd (k,l.map (fun g=>SV.d (jC g))) (by simp)
   rcases hblk with g0 | ⟨b',vs',T',g1,g2,g3,g4,g5⟩
   ·exact (g0.at_cells h1 h3).elim
   ·obtain rfl:b=b':=by rw[h1] at g1;injection g1
    rw[h3] at g2
    injection g2 with g2
    injection g2 with g2 gT
    subst g2;subst gT
    have hcell:∀ i,w.cell? ⟨b,i,none⟩=vs[i]?:=fun i=>cell_of_row w b i vs T (0,0) h3
    have hrun:(execOp a.eval o).run Tryz.prog w=.ok (.enter 88 #[.slice (some ⟨b,0,none⟩) l.length cap]) w:=by
     simp only[execOp,ho,resolve,Deferred.ofValue,Act.eval,Sem.run_bind,Sem.run_pure,Result.andThen_ok,invoke,Array.empty_append,Array.append_empty]
     rw[vQ trim_cb]
     simp [h2,hl]
    refine cK hrun (((callsIn_wide (n:=1)).1 (trimV b cap l hd h0 w (fun i hi=>?_) (by omega) h6)).mono fun e w' h=>?_)
    ·rw[hcell]
     obtain ⟨u,e1,_,e3⟩:=g4 i (.d (jC (l.getD i 0))) (by rw[List.getElem?_map,List.getElem?_eq_getElem hi];simp [List.getD,List.getElem?_eq_getElem hi])
     rw[e1,qH e3]
    ·obtain ⟨he,rfl⟩:=h
     exact ⟨_,he,_,D,rfl,Below.refl _ _,⟨fun _ _ _ h=>h,fun _ _ _ h=>.inl h⟩,.inr ⟨b,cap,vs,h1,rfl,h3,h4,by omega,h6⟩⟩
open Go.Fid in
theorem trim_take{l:List Nat}(hd:Dig l):ofNat (val l)=l.take (ofNat (val l)).length:=by
 have h1:∀ (n:Nat) (l:List Nat),l.length=n->Dig l->ofNat (val l)=l.take (ofNat (val l)).length:=by
  intro n
  induction n with
  |zero=>intro l hl _;rw[List.eq_nil_of_length_eq_zero hl];rw[val_nil,uG];rfl
  |succ n ih=>
   intro l hl hd
   have h2:=val_take_succ l n
   rw[<- hl,List.take_length] at h2
   by_cases hz:l.getD n 0=0
   ·rw[hz,Nat.mul_zero,Nat.add_zero] at h2
    have h3:=ih (l.take n) (by rw[List.length_take];omega) (hd.take n)
    rw[<- h2,List.take_take] at h3
    have h4:(ofNat (val l)).length<=n:=by
     rw[h2];exact qP (by have:=uV (hd.take n);rwa [List.length_take,Nat.min_eq_left (by omega)] at this)
    rw[Nat.min_eq_left h4] at h3
    exact h3
   ·have h3:yA l:=⟨hd,by
     unfold Top
     rw[show l.length-1=n by omega]
     have h6:n<l.length:=by omega
     simp [List.getD,List.getElem?_eq_getElem h6] at hz ⊢
     exact hz⟩
    rw[<- can_eq h3,List.take_length]
 exact h1 _ l rfl hd
end Go.Proofs.YtciingpdmjepgaaGreat
namespace Go.Proofs.YtciingpdmjepgaaGreat
open Go.Fid
theorem ze47:uO Tryz.prog 47=some [.slice none 0 0]:=by kernel_rfl
theorem zo47:nH [.slice none 0 0] [.sl 135 1 []]:=by simp [nH,Value.oneCell']
theorem t_short(a:List Nat)(d:Nat)(hda:Dig a)(hd0:0<d)(hd1:d<=1000000000)(hla:a.length<=17592186044416):jU Tryz.prog 119 [(.sl 135 1 (List.map jC a)),(.val (.int .u32 (((d:Nat):Int))))] (.tup [(.sl 135 1 (List.map jC (ofNat (val a / d)))),(.val (.int .u32 ((((val a % d):Nat):Int))))]):=by
 refine vD Tryz.func119 ?_
 refine jA<|kx [(3,(.ref 0 0)),(4,(.ref 1 0)),(5,(fU 0))] [(0,some (bx (.val (.int .u32 (((d:Nat):Int)))))),(1,some (bx (.sl 135 1 (List.map jC []))))] (zN (yB 0)<|zN (vL 1 ze47 zo47)<|zM<|zZ) ?_
 refine jA<|kx [] [(1,some [(.own 2 135 1 a.length)]),(2,some (bm jC (List.replicate a.length 0)))] (zM<|zE (vV kE)<|zN (oMk 2 jC (0:Nat) a.length a.length kE uW xY nC)<|zT (oSo gM)<|zZ) ?_
 refine jA<|kx [(6,(.ref 3 0))] [(3,some (bx (.val (.int .u64 (0)))))] (zH (vL 3 ze122 zo122)<|zT (qO eE)<|zZ) ?_
 refine jA<|pwp_backL backs cb84 rfl 7 jC a 0 (fun (q,vE)=>⟨[(3,(.ref 0 0)),(4,(.ref 1 0)),(5,(fU 0)),(6,(.ref 3 0))],[(0,some (bx (.val (.int .u32 (((d:Nat):Int)))))),(1,some [(.own 2 135 1 a.length)]),(2,some (bm jC q)),(3,some (bx (.val (.int .u64 (((vE:Nat):Int))))))]⟩) (fun (j:Nat) (q,vE)=>q.length=a.length/\Dig q/\vE<d/\val (a.drop (a.length-j))=val (q.drop (a.length-j))*d+vE) (List.replicate a.length 0,0) rfl rfl rfl rfl rfl rfl rfl rfl rfl rfl rfl rfl (fun _=>rfl) (fun _=>rfl) wk ⟨by simp,xF _,hd0,by simp [val,fK]⟩ (by omega) ?_ ?_
 ·rintro rl j ⟨q,vE⟩ hj ⟨uB,hdq,hr,hv⟩
  have hg:=hda.getD (a.length-1-j)
  obtain ⟨hb1,hb2⟩:=short_bound hr hd1 hg
  refine jA<|kx [(7,(jN (a.length-1-j)))] [] (zM<|zZ) ?_
  refine kx [(8,(fU (a.getD (a.length-1-j) 0)))] [] (zM<|zZ) ?_
  refine jH<|jA<|kx [(9,(yH ((vE*1000000000)+(a.getD (a.length-1-j) 0))))] [] (zR (jZ eE)<|zE (oMl (vE*1000000000))<|zM<|zE (nR xW xM (a.getD (a.length-1-j) 0))<|zE (uL ((vE*1000000000)+(a.getD (a.length-1-j) 0)))<|zM<|zZ) ?_
  refine kd [] [(2,some (bm jC (q.set (a.length-1-j) (((vE*1000000000)+(a.getD (a.length-1-j) 0)) / d)))),(3,some (bx (.val (.int .u64 ((((((vE*1000000000)+(a.getD (a.length-1-j) 0)) % d):Nat):Int))))))] mo (wR (jZ gM)<|wM<|wM<|wR (jZ qM)<|wE (nR xW xM d)<|wE (oQu (((vE*1000000000)+(a.getD (a.length-1-j) 0)) / d))<|wE (nR yS yT (((vE*1000000000)+(a.getD (a.length-1-j) 0)) / d))<|wM<|wR (jZ qM)<|wE (nR xW xM d)<|wE (oRe (((vE*1000000000)+(a.getD (a.length-1-j) 0)) % d))<|wE (oXo kE (a.length-1-j))<|wT (oSp qM (a.length-1-j) (((vE*1000000000)+(a.getD (a.length-1-j) 0)) / d))<|wT (qO eE)<|wZ) ?_
  exact ⟨(q.set (a.length-1-j) ((vE*1000000000+a.getD (a.length-1-j) 0) / d),(vE*1000000000+a.getD (a.length-1-j) 0) % d),wk,⟨by simpa using uB,hdq.set _ hb2,Nat.mod_lt _ hd0,short_step hj uB hv rfl⟩⟩
 ·rintro ⟨q,vE⟩ ⟨uB,hdq,hr,hv⟩
  obtain ⟨e1,e2⟩:=short_end hv hr
  refine jA<|kU (publishB (j:=1) (k:=2) (es:=List.map jC q) rfl rfl rfl (vP _ _ (fun _=>rfl)) (vN _ _ uB) (xO _ _ (fun _=>rfl) uB)) ?_
  refine kd [(5,(fU vE))] [(1,some (bx (.sl 135 1 (List.map jC (ofNat (val q))))))] mo (wR (jZ gM)<|wE (kD (t_trim q (by assumption) (by omega)))<|wR (jZ eE)<|wE (nR yS yT vE)<|wT (qO gM)<|wM<|wZ) ?_
  refine jG ⟨_,(fC (cs:=(bx (.sl 135 1 (List.map jC (ofNat (val q)))))) (d:=(.sl 135 1 (List.map jC (ofNat (val q))))) rfl rfl gM rfl rfl (.tmp (d:=(.val (.int .u32 (((vE:Nat):Int))))) rfl .nil)),?_⟩
  rw[<- e1,<- e2];rfl
theorem o_times(a b:List Nat)(hda:Dig a)(hdb:Dig b)(hla:a.length<=4398046511104)(hlb:b.length<=4398046511104)(h0:0<val a*val b):TakesO Tryz.prog 71 [(.sl 135 1 (List.map jC a)),(.sl 135 1 (List.map jC b))] 135 1 (ofNat (val a*val b)).length (List.map jC (ofNat (val a*val b))):=by
 refine fn_introO Tryz.func71 rfl cb71 rfl (fM h0) ?_
 refine jA<|kx [] [] (zE (fH 135 1)<|zZ) ?_
 refine jA<|kx [(5,(.own 0 135 1 (a.length+b.length)))] [(0,some (bm jC (List.replicate (a.length+b.length) 0)))] (zM<|zE (vV kE)<|zM<|zE (vV kE)<|zE (uL (a.length+b.length))<|zN (oMk 0 jC (0:Nat) (a.length+b.length) (a.length+b.length) kE uW xY nC)<|zM<|zZ) ?_
 refine jA<|jA<|kx [(18,(vl 135 1 jC a)),(19,(jN a.length)),(20,(jN 0))] [] (zM<|zE (vV kE)<|zM<|zZ) ?_
 refine jH<|kF (α:=Nat × List Nat) (fun (i,out)=>⟨[(1,(vl 135 1 jC b)),(5,(.own 0 135 1 (a.length+b.length))),(18,(vl 135 1 jC a)),(19,(jN a.length)),(20,(jN i))],[(0,some (bm jC out))]⟩) (fun (i,out)=>out.length=a.length+b.length/\Dig out/\i<=a.length/\(∀ k,i+b.length<=k->out.getD k 0=0)/\val out=val (a.take i)*val b) (fun (i,out)=>a.length-i) (0,List.replicate (a.length+b.length) 0) wk ⟨by simp,xF _,Nat.zero_le _,fun k _=>getD_replicate _ k,by simp [val,fK]⟩ ?_
 rintro ⟨i,out⟩ ⟨uB,hdo,hi,hz,hv⟩
 have hai:=hda.getD i
 refine jA<|kx [(21,(vb (decide (((i:Nat):Int)<((a.length:Nat):Int)))))] [] (zE uT<|zZ) ?_
 refine jA<|jF rfl (fun h1=>?_) (fun h1=>?_)
 ·replace h1:=uY h1
  refine jD<|jA<|jH<|jA<|kx [(6,(jN i)),(7,(fU (a.getD i 0)))] [] (zM<|zE (nA kE i (0:Nat))<|zE (mV qM)<|zM<|zM<|zZ) ?_
  refine jA<|kx [(8,(yH 0))] [] (zM<|zZ) ?_
  refine jA<|jA<|kx [(25,(vl 135 1 jC b)),(26,(jN b.length)),(27,(jN 0))] [] (zM<|zE (vV kE)<|zM<|zZ) ?_
  refine jH<|kF (α:=Nat × List Nat × Nat) (fun (j,o2,c)=>⟨[(1,(vl 135 1 jC b)),(5,(.own 0 135 1 (a.length+b.length))),(6,(jN i)),(7,(fU (a.getD i 0))),(8,(yH c)),(18,(vl 135 1 jC a)),(19,(jN a.length)),(20,(jN i)),(25,(vl 135 1 jC b)),(26,(jN b.length)),(27,(jN j))],[(0,some (bm jC o2))]⟩) (fun (j,o2,c)=>o2.length=a.length+b.length/\Dig o2/\j<=b.length/\c<1000000000/\(∀ k,i+b.length<=k->o2.getD k 0=0)/\val o2+pw (i+j)*c=val (a.take i)*val b+pw i*(a.getD i 0*val (b.take j))) (fun (j,o2,c)=>b.length-j) (0,out,0) wk ⟨uB,hdo,Nat.zero_le _,by decide,hz,by simp [val,hv]⟩ ?_
  rintro ⟨j,o2,c⟩ ⟨hlen2,hdo2,hj,hc,hz2,hv2⟩
  have hbj:=hdb.getD j
  have hoj:=hdo2.getD (i+j)
  have hpq:a.getD i 0*b.getD j 0<=999999999*999999999:=Nat.mul_le_mul (by omega) (by omega)
  refine jA<|kx [(28,(vb (decide (((j:Nat):Int)<((b.length:Nat):Int)))))] [] (zE uT<|zZ) ?_
  refine jA<|jF rfl (fun h2=>?_) (fun h2=>?_)
  ·replace h2:=uY h2
   refine jD<|jA<|jH<|jA<|kx [(9,(jN j)),(10,(fU (b.getD j 0)))] [] (zM<|zE (nA kE j (0:Nat))<|zE (mV qM)<|zM<|zM<|zZ) ?_
   refine jA<|kx [(11,(yH (((o2.getD (i+j) 0)+((a.getD i 0)*(b.getD j 0)))+c)))] [] (zM<|zM<|zM<|zE (uL (i+j))<|zE (oXo kE (i+j))<|zR (oLp qM (i+j) (0:Nat))<|zE (nR xW xM (o2.getD (i+j) 0))<|zM<|zE (nR xW xM (a.getD i 0))<|zM<|zE (nR xW xM (b.getD j 0))<|zE (oMl ((a.getD i 0)*(b.getD j 0)))<|zE (uL ((o2.getD (i+j) 0)+((a.getD i 0)*(b.getD j 0))))<|zM<|zE (uL (((o2.getD (i+j) 0)+((a.getD i 0)*(b.getD j 0)))+c))<|zM<|zZ) ?_
   refine kx [(8,(yH ((((o2.getD (i+j) 0)+((a.getD i 0)*(b.getD j 0)))+c) / 1000000000)))] [(0,some (bm jC (o2.set (i+j) ((((o2.getD (i+j) 0)+((a.getD i 0)*(b.getD j 0)))+c) % 1000000000))))] (zM<|zM<|zM<|zE (uL (i+j))<|zM<|zE (oRe ((((o2.getD (i+j) 0)+((a.getD i 0)*(b.getD j 0)))+c) % 1000000000))<|zE (nR yS yT ((((o2.getD (i+j) 0)+((a.getD i 0)*(b.getD j 0)))+c) % 1000000000))<|zM<|zE (oQu ((((o2.getD (i+j) 0)+((a.getD i 0)*(b.getD j 0)))+c) / 1000000000))<|zE (oXo kE (i+j))<|zT (oSp qM (i+j) ((((o2.getD (i+j) 0)+((a.getD i 0)*(b.getD j 0)))+c) % 1000000000))<|zM<|zZ) ?_
   refine kx [(27,(jN (j+1)))] [] (zE (uL (j+1))<|zM<|zZ) ?_
   exact ⟨(j+1,o2.set (i+j) ((o2.getD (i+j) 0+a.getD i 0*b.getD j 0+c) % 1000000000),(o2.getD (i+j) 0+a.getD i 0*b.getD j 0+c) / 1000000000),wk,(by obtain ⟨q1,q2⟩:=times_step (by omega) hdo2 hv2 rfl (val_take_succ b j);exact ⟨by simpa using hlen2,q1,by omega,by omega,zero_set (by omega) hz2,q2⟩),(by first|omega|(dsimp only;omega))⟩
  ·replace h2:=uZ h2
   have hje:j=b.length:=by omega
   rw[hje] at hv2
   refine jS<|kx [] [(0,some (bm jC (o2.set (i+b.length) c)))] (zM<|zM<|zM<|zE (vV kE)<|zE (uL (i+b.length))<|zM<|zE (nR yS yT c)<|zE (oXo kE (i+b.length))<|zT (oSp qM (i+b.length) c)<|zZ) ?_
   refine kx [(20,(jN (i+1)))] [] (zE (uL (i+1))<|zM<|zZ) ?_
   exact ⟨(i+1,o2.set (i+b.length) c),wk,(by obtain ⟨q1,q2,q3,q4⟩:=times_row hdo2 (by omega) hlen2 hz2 hc hv2;exact ⟨q1,q2,by omega,q3,q4⟩),(by first|omega|(dsimp only;omega))⟩
 ·replace h1:=uZ h1
  have hie:i=a.length:=by omega
  rw[hie,List.take_length] at hv
  refine jS<|jA<|kx [(4,(.own 0 135 1 ((ofNat (val out)).length)))] [] (zM<|zR ⟨_,e_trimO out (by exact rfl) (by exact rfl) uB hdo (by omega),by kernel_rfl⟩<|zM<|zZ) ?_
  rw[<- hv]
  refine jG ⟨4,0,rfl,rfl,(bm jC out),rfl,?_⟩
  exact own_prefix _ (trim_take hdo)
end Go.Proofs.YtciingpdmjepgaaGreat
