/- Part 18 of a proof: rules, plain facts, and functions walked. -/
import Derived.Test.YteimogfidbkpnaaGreatM17
import Derived.Test.YteimogfidbkpnaaGreatM10
import Derived.Test.YteimogfidbkpnaaGreatM7
import Derived.Test.YteimogfidbkpnaaGreatChecked
import Derived.RangeFuncBox
import Derived.Shelf.Abstract
import Derived.OwnWalkIn
import Derived.TacticsInMore
import Derived.LoopNIn
import Derived.LoopIn
set_option linter.all false
set_option maxRecDepth 4000
namespace Go.Proofs.YteimogfidbkpnaaGreat
open Go.Fid
theorem bo4:boolB Tryz.prog 4=true:=by kernel_rfl
theorem cb35:callB Tryz.prog 35=true:=by kernel_rfl
theorem cb36:callB Tryz.prog 36=true:=by kernel_rfl
theorem cb38:callB Tryz.prog 38=true:=by kernel_rfl
theorem cb70:callB Tryz.prog 70=true:=by kernel_rfl
theorem cb100:callB Tryz.prog 100=true:=by kernel_rfl
theorem cb124:callB Tryz.prog 124=true:=by kernel_rfl
theorem cb132:callB Tryz.prog 132=true:=by kernel_rfl
theorem un3:(Tryz.prog.underlying 3).isSome=true:=by kernel_rfl
theorem t_sign(x:kM)(hx:x.gs.length≤1099511627776):jR Tryz.prog 35 [(jJ x)] (.val (.int .i64 ((qQ (jO x))))):=by
 refine jH Tryz.func35 rfl cb35 rfl ?_
 show qS _ _ _ _ ⟨[(0,(.d (jJ x)))],[]⟩
 refine jA<|kx [(1,(.ref 0 0))] [(0,some (bx (jJ x)))] (zN (vL 0)<|zM<|zZ) ?_
 refine jA<|jD<|jA<|kx [(3,(vb ((((kF x).length:Nat):Int) == 0)))] [] (zR (kI jS)<|zE (jX (yJ x (by omega)))<|zE (yU kC (L:=(kF x)))<|zE oEq<|zM<|zZ) ?_
 refine jG (b:=((((kF x).length:Nat):Int) == 0)) rfl (fun h1=>?_) (fun h1=>?_)
 ·replace h1:=eq_of_beq h1
  refine jA<|kx [(2,(jL 0))] [] (zM<|zZ) ?_
  refine jE ⟨_,(.tmp (d:=(.val (.int .i64 (0)))) rfl .nil),?_⟩
  rw[toZ_nil h1];rfl
 ·replace h1:=ne_of_beq_false h1
  refine jA<|kx [(8,(vb x.neg))] [] (zE (kJ vN)<|zR (kX sh4)<|zM<|zZ) ?_
  refine jG (b:=x.neg) rfl (fun h2=>?_) (fun h2=>?_)
  ·refine jA<|kx [(2,(vi (-1)))] [] (zM<|zZ) ?_
   refine jE ⟨_,(.tmp (d:=(.val (.int .i64 (-1)))) rfl .nil),?_⟩
   rw[sign_neg h1 h2];rfl
  ·refine jC<|jA<|kx [(2,(jL 1))] [] (zM<|zZ) ?_
   refine jE ⟨_,(.tmp (d:=(.val (.int .i64 (1)))) rfl .nil),?_⟩
   rw[sign_pos h1 h2];rfl
theorem t_neg(x:kM)(hx:x.gs.length≤1099511627776):jR Tryz.prog 100 [(jJ x)] (jJ (jZ (-jO x))):=by
 refine jH Tryz.func100 rfl cb100 rfl ?_
 show qS _ _ _ _ ⟨[(0,(.d (jJ x)))],[]⟩
 refine jA<|kx [(1,(.ref 0 0)),(2,(.ref 1 0))] [(0,some (bx (jJ x))),(1,some (bx (jJ (kM.mk false []))))] (zN (vL 0)<|zN (uX 1 yI yL)<|zZ) ?_
 refine jA<|kd [] [(1,some (bx (jJ (vO (!x.neg) (val (kF x))))))] mo (wE (kJ vN)<|wR (kX sh4)<|wE oNt<|wR (kI jS)<|wE (jX (yJ x (by omega)))<|wE (jX (t_clone (kF x) (Nat.le_trans (xM _) (by omega))))<|wE (jX (nI (!x.neg) (kF x) (kW _).1 (Nat.le_trans (xM _) (by omega))))<|wT (qF jS)<|wZ) ?_
 refine jE ⟨_,(kV (cs:=(bx (jJ (vO (!x.neg) (val (kF x)))))) (d:=(jJ (vO (!x.neg) (val (kF x))))) rfl rfl jS rfl rfl .nil),?_⟩
 rw[← neg_eq];rfl
theorem t_sum(b:Bool)(l:List Nat)(c:Bool)(m:List Nat)(hl:yB l)(hm:yB m)(hll:l.length≤1099511627776)(hlm:m.length≤1099511627776):jR Tryz.prog 132 [(.val (.bool (b))),(.sl 121 1 (List.map jB l)),(.val (.bool (c))),(.sl 121 1 (List.map jB m))] (jJ (jZ (nK b (val l)+nK c (val m)))):=by
 refine jH Tryz.func132 rfl cb132 rfl ?_
 show qS _ _ _ _ ⟨[(0,(vb b)),(1,(vl 121 1 jB l)),(2,(vb c)),(3,(vl 121 1 jB m))],[]⟩
 refine jA<|kx [(8,(.ref 0 0))] [(0,some (bx (jJ (kM.mk false []))))] (zN (uX 0 yI yL)<|zZ) ?_
 refine jA<|jD<|jA<|kx [(9,(vb (b == c)))] [] (zM<|zM<|zE (oEb bo4)<|zM<|zZ) ?_
 refine jG (b:=(b == c)) rfl (fun h1=>?_) (fun h1=>?_)
 ·replace h1:=eq_of_beq h1
  refine jA<|kx [] [(0,some (bx (jJ (vO b (val (ofNat (val l+val m)))))))] (zM<|zM<|zM<|zE (jX (t_plus l m hl.1 hm.1 (by omega) (by omega)))<|zE (jX (nI b (ofNat (val l+val m)) (jY _) (Nat.le_trans (add_len hl.1 hm.1) (by omega))))<|zT (qF jS)<|zZ) ?_
  refine jE ⟨_,(kV (cs:=(bx (jJ (vO b (val (ofNat (val l+val m))))))) (d:=(jJ (vO b (val (ofNat (val l+val m)))))) rfl rfl jS rfl rfl .nil),?_⟩
  rw[← sum_same h1];rfl
 ·replace h1:=ne_of_beq_false h1
  refine jA<|kx [(18,(vb (decide (0≤(uP ((val l:Nat):Int) ((val m:Nat):Int))))))] [] (zM<|zM<|zE (jX (t_compare l m (by assumption) (by assumption) (by omega)))<|zE oGe<|zM<|zZ) ?_
  refine jG rfl (fun h2=>?_) (fun h2=>?_)
  ·replace h2:=vM h2
   refine jA<|kx [] [(0,some (bx (jJ (vO b (val (ofNat (val l-val m)))))))] (zM<|zM<|zM<|zE (jX (t_minus l m hl.1 hm.1 (by have:=fM h2;omega) (by omega)))<|zE (jX (nI b (ofNat (val l-val m)) (jY _) (Nat.le_trans (sub_len hl.1) (by omega))))<|zT (qF jS)<|zZ) ?_
   refine jE ⟨_,(kV (cs:=(bx (jJ (vO b (val (ofNat (val l-val m))))))) (d:=(jJ (vO b (val (ofNat (val l-val m)))))) rfl rfl jS rfl rfl .nil),?_⟩
   rw[← sum_first h1 (by have:=fM h2;omega)];rfl
  ·replace h2:=vK h2
   refine jC<|jA<|kx [] [(0,some (bx (jJ (vO c (val (ofNat (val m-val l)))))))] (zM<|zM<|zM<|zE (jX (t_minus m l hm.1 hl.1 (by have:=cmpI_lt h2;omega) (by omega)))<|zE (jX (nI c (ofNat (val m-val l)) (jY _) (Nat.le_trans (sub_len hm.1) (by omega))))<|zT (qF jS)<|zZ) ?_
   refine jE ⟨_,(kV (cs:=(bx (jJ (vO c (val (ofNat (val m-val l))))))) (d:=(jJ (vO c (val (ofNat (val m-val l)))))) rfl rfl jS rfl rfl .nil),?_⟩
   rw[← sum_second h1 (by have:=cmpI_lt h2;omega)];rfl
theorem t_add(x:kM)(y:kM)(hx:x.gs.length≤1099511627776)(hy:y.gs.length≤1099511627776):jR Tryz.prog 124 [(jJ x),(jJ y)] (jJ (jZ (jO x+jO y))):=by
 refine jH Tryz.func124 rfl cb124 rfl ?_
 show qS _ _ _ _ ⟨[(0,(.d (jJ x))),(1,(.d (jJ y)))],[]⟩
 refine jA<|kx [(2,(.ref 0 0)),(3,(.ref 1 0)),(4,(.ref 2 0))] [(0,some (bx (jJ x))),(1,some (bx (jJ y))),(2,some (bx (jJ (kM.mk false []))))] (zN (vL 0)<|zN (vL 1)<|zN (uX 2 yI yL)<|zZ) ?_
 refine jA<|kd [] [(2,some (bx (jJ (jZ (nK x.neg (val (kF x))+nK y.neg (val (kF y)))))))] mo (wE (kJ vN)<|wR (kX sh4)<|wR (kI jS)<|wE (jX (yJ x (by omega)))<|wE (kJ vN)<|wR (kX sh4)<|wR (kI jS)<|wE (jX (yJ y (by omega)))<|wE (jX (t_sum x.neg (kF x) y.neg (kF y) (kW _) (kW _) (Nat.le_trans (xM _) (by omega)) (Nat.le_trans (xM _) (by omega))))<|wT (qF jS)<|wZ) ?_
 refine jE ⟨_,(kV (cs:=(bx (jJ (jZ (nK x.neg (val (kF x))+nK y.neg (val (kF y))))))) (d:=(jJ (jZ (nK x.neg (val (kF x))+nK y.neg (val (kF y)))))) rfl rfl jS rfl rfl .nil),?_⟩
 rfl
theorem t_mul(x:kM)(y:kM)(hx:x.gs.length≤1099511627776)(hy:y.gs.length≤1099511627776):jR Tryz.prog 70 [(jJ x),(jJ y)] (jJ (jZ (jO x*jO y))):=by
 refine jH Tryz.func70 rfl cb70 rfl ?_
 show qS _ _ _ _ ⟨[(0,(.d (jJ x))),(1,(.d (jJ y)))],[]⟩
 refine jA<|kx [(2,(.ref 0 0)),(3,(.ref 1 0)),(4,(.ref 2 0))] [(0,some (bx (jJ x))),(1,some (bx (jJ y))),(2,some (bx (jJ (kM.mk false []))))] (zN (vL 0)<|zN (vL 1)<|zN (uX 2 yI yL)<|zZ) ?_
 refine jA<|kd [] [(2,some (bx (jJ (vO (!(x.neg == y.neg)) (val (ofNat (val (kF x)*val (kF y))))))))] mo (wE (kJ vN)<|wR (kX sh4)<|wE (kJ vN)<|wR (kX sh4)<|wE (oNb bo4)<|wR (kI jS)<|wE (jX (yJ x (by omega)))<|wR (kI jS)<|wE (jX (yJ y (by omega)))<|wE (jX (t_times (kF x) (kF y) (kW _).1 (kW _).1 (Nat.le_trans (xM _) (by omega)) (Nat.le_trans (xM _) (by omega))))<|wE (jX (nI (!(x.neg == y.neg)) (ofNat (val (kF x)*val (kF y))) (jY _) (Nat.le_trans (mul_len (kW _).1 (kW _).1) (by have:=xM x;have:=xM y;omega))))<|wT (qF jS)<|wZ) ?_
 refine jE ⟨_,(kV (cs:=(bx (jJ (vO (!(x.neg == y.neg)) (val (ofNat (val (kF x)*val (kF y)))))))) (d:=(jJ (vO (!(x.neg == y.neg)) (val (ofNat (val (kF x)*val (kF y))))))) rfl rfl jS rfl rfl .nil),?_⟩
 rw[show jO x*jO y=_ from rfl,jO,jO,← mul_eq];rfl
theorem t_of(n:Int)(hlo:-9223372036854775808≤n)(hhi:n≤9223372036854775807):jR Tryz.prog 38 [(.val (.int .i64 (n)))] (jJ (jZ n)):=by
 refine jH Tryz.func38 rfl cb38 rfl ?_
 show qS _ _ _ _ ⟨[(0,(vi n))],[]⟩
 refine jA<|kx [(2,(.ref 0 0))] [(0,some (bx (jJ (kM.mk false []))))] (zN (uX 0 yI yL)<|zZ) ?_
 refine jA<|kx [(3,(zG ((n % 18446744073709551616).toNat)))] [] (zM<|zE (gM un3 xR ((n % 18446744073709551616).toNat) (hr:=by exact (conv_u64 _)))<|zM<|zZ) ?_
 refine jA<|jA<|kx [(7,(vb (decide (n<0))))] [] (zM<|zE uE<|zZ) ?_
 refine jG (b:=decide (n<0)) rfl (fun h1=>?_) (fun h1=>?_)
 ·replace h1:=vM h1
  refine kx [(3,(zG ((-n).toNat)))] [] (zM<|zE (oNg (((-n).toNat:Nat):Int) (hr:=by exact (neg_u64 (by assumption) hlo)))<|zM<|zZ) ?_
  refine jA<|kx [] [(0,some (bx (jJ (vO (decide (n<0)) (val (ofNat ((-n).toNat)))))))] (zM<|zE uE<|zM<|zE (jX (t_split ((-n).toNat) (by omega)))<|zE (jX (nI (decide (n<0)) (ofNat ((-n).toNat)) (jY _) (Nat.le_trans (cQ (by omega)) (by decide))))<|zT (qF jS)<|zZ) ?_
  refine jE ⟨_,(kV (cs:=(bx (jJ (vO (decide (n<0)) (val (ofNat ((-n).toNat))))))) (d:=(jJ (vO (decide (n<0)) (val (ofNat ((-n).toNat)))))) rfl rfl jS rfl rfl .nil),?_⟩
  rw[of_neg h1];rfl
 ·replace h1:=vK h1
  refine jC<|jA<|kx [] [(0,some (bx (jJ (vO (decide (n<0)) (val (ofNat ((n % 18446744073709551616).toNat)))))))] (zM<|zE uE<|zM<|zE (jX (t_split ((n % 18446744073709551616).toNat) (by omega)))<|zE (jX (nI (decide (n<0)) (ofNat ((n % 18446744073709551616).toNat)) (jY _) (Nat.le_trans (cQ (by omega)) (by decide))))<|zT (qF jS)<|zZ) ?_
  refine jE ⟨_,(kV (cs:=(bx (jJ (vO (decide (n<0)) (val (ofNat ((n % 18446744073709551616).toNat))))))) (d:=(jJ (vO (decide (n<0)) (val (ofNat ((n % 18446744073709551616).toNat)))))) rfl rfl jS rfl rfl .nil),?_⟩
  rw[of_pos h1 hhi];rfl
theorem t_compareI(x:kM)(y:kM)(hx:x.gs.length≤1099511627776)(hy:y.gs.length≤1099511627776):jR Tryz.prog 36 [(jJ x),(jJ y)] (.val (.int .i64 ((uP (jO x) (jO y))))):=by
 refine jH Tryz.func36 rfl cb36 rfl ?_
 show qS _ _ _ _ ⟨[(0,(.d (jJ x))),(1,(.d (jJ y)))],[]⟩
 refine jA<|kx [(2,(.ref 0 0)),(3,(.ref 1 0))] [(0,some (bx (jJ x))),(1,some (bx (jJ y)))] (zN (vL 0)<|zN (vL 1)<|zM<|zZ) ?_
 refine jA<|jA<|kd [(5,(vi (qQ (jO x)))),(6,(vi (qQ (jO y))))] [] mo (wR (kI jS)<|wE (jX (t_sign x (by omega)))<|wR (kI jS)<|wE (jX (t_sign y (by omega)))<|wM<|wM<|wZ) ?_
 refine jA<|kx [(14,(vb ((qQ (jO x)) != (qQ (jO y)))))] [] (zM<|zM<|zE oNe<|zZ) ?_
 refine jG (b:=((qQ (jO x)) != (qQ (jO y)))) rfl (fun h1=>?_) (fun h1=>?_)
 ·replace h1:=bne_iff_ne.1 h1
  refine jA<|kx [(4,(vi (uP (qQ (jO x)) (qQ (jO y)))))] [] (zM<|zM<|zE (jX (t_cmp_int (qQ (jO x)) (qQ (jO y))))<|zM<|zZ) ?_
  refine jE ⟨_,(.tmp (d:=(.val (.int .i64 ((uP (qQ (jO x)) (qQ (jO y))))))) rfl .nil),?_⟩
  rw[← cmp_sign h1];rfl
 ·replace h1:=bne_eq_false_iff_eq.1 h1
  refine jC<|jA<|kd [(7,(vi (uP ((val (kF x):Nat):Int) ((val (kF y):Nat):Int))))] [] mo (wR (kI jS)<|wE (jX (yJ x (by omega)))<|wR (kI jS)<|wE (jX (yJ y (by omega)))<|wE (jX (t_compare (kF x) (kF y) (kW _) (kW _) (Nat.le_trans (xM _) (by omega))))<|wM<|wZ) ?_
  refine jA<|jA<|kx [(24,(vb x.neg))] [] (zE (kJ vN)<|zR (kX sh4)<|zZ) ?_
  refine jG (b:=x.neg) rfl (fun h2=>?_) (fun h2=>?_)
  ·refine jA<|kx [(4,(vi (-(uP ((val (kF x):Nat):Int) ((val (kF y):Nat):Int)))))] [] (zM<|zE (oNg (-(uP ((val (kF x):Nat):Int) ((val (kF y):Nat):Int))) (hr:=by exact (wi64 (by omega) (by have:=cmpI_range ((val (kF x):Nat):Int) ((val (kF y):Nat):Int);omega) (by have:=cmpI_range ((val (kF x):Nat):Int) ((val (kF y):Nat):Int);omega))))<|zM<|zZ) ?_
   refine jE ⟨_,(.tmp (d:=(.val (.int .i64 (-(uP ((val (kF x):Nat):Int) ((val (kF y):Nat):Int)))))) rfl .nil),?_⟩
   rw[← cmp_neg h1 h2];rfl
  ·refine jC<|jA<|kx [(4,(vi (uP ((val (kF x):Nat):Int) ((val (kF y):Nat):Int))))] [] (zM<|zM<|zZ) ?_
   refine jE ⟨_,(.tmp (d:=(.val (.int .i64 ((uP ((val (kF x):Nat):Int) ((val (kF y):Nat):Int)))))) rfl .nil),?_⟩
   rw[← cmp_pos h1 h2];rfl
open Go.RowKit Go.Shelf
attribute [local go_sem] Oper.semAt_some
set_option maxRecDepth 100000 in
set_option maxHeartbeats 2000000 in
theorem trimV(b cap:Nat)(l:List Nat)(hd:Go.Fid.Dig l)(h0:Go.Fid.val l≠0)(w:World)(hc:∀ i,i<l.length→w.cell? ⟨b,i,none⟩=some (.int .u32 ((l.getD i 0:Nat):Int)))(h1:l.length≤cap)(h2:cap≤maxLen) :
  CallsIn Fence.wide 1 Tryz.prog 111 #[.slice (some ⟨b,0,none⟩) l.length cap] w fun e w'=>e=.returned (.slice (some ⟨b,0,none⟩) (Go.Fid.ofNat (Go.Fid.val l)).length cap)∧w'=w:=by
 refine callsIn_of_wp Tryz.func111 rfl trivial ?_ rfl
 simp only[Tryz.ntmps111,List.size_toArray,List.length_cons,List.length_nil,Nat.reduceAdd,Nat.reduceSub,Array.replicate_succ,Array.replicate_zero,List.push_toArray,List.append_toArray,List.nil_append,List.cons_append]
 gi_wp2
 gi_loopw [0] (fun i wr=>∃ j:Nat,j≤l.length∧0<j∧i=.slice (some ⟨b,0,none⟩) j cap∧Go.Fid.val (l.take j)=Go.Fid.val l∧wr=w)
  (fun i _=>match i with | .slice _ n _=>n | _=>0)
 case atStart=>
  have hl:0<l.length:=by
   rcases l with _ | ⟨d,l⟩
   ·exact absurd rfl h0
   ·simp
  exact ⟨l.length,Nat.le_refl _,hl,rfl,by rw[List.take_length],rfl⟩
 case round=>
  obtain ⟨j,hj,hj0,rfl,hv,rfl⟩:=hrel
  have hcj:=hc (j-1) (by omega)
  have hj63:(j:Int)≤9223372036854775807:=by unfold maxLen at h2;omega
  have hv2:=Go.Fid.val_take_succ l (j-1)
  rw[show j-1+1=j by omega] at hv2
  by_cases hz:l.getD (j-1) 0=0
  ·rw[hz] at hcj hv2
   have h1j:0<j-1:=by
    rcases Nat.eq_zero_or_pos (j-1) with e | e
    ·rw[e,List.take_zero,Go.Fid.val_nil,Nat.mul_zero] at hv2
     omega
    ·exact e
   gi_wp2
   go_roundw
   case rel=>exact ⟨j-1,by omega,h1j,by simp,by rw[← hv,hv2];simp,trivial⟩
   case measure=>simp;omega
  ·gi_wp2
   ·rename_i hq
    exfalso
    simp [List.getD] at hz hq
    omega
   ·refine ⟨rfl,.slice (some ⟨b,0,none⟩) j cap,by simp [results,Tryz.results111,go_sem],?_⟩
    have e:Go.Fid.ofNat (Go.Fid.val l)=l.take j:=by
     rw[← hv]
     refine (Go.Fid.can_eq ⟨hd.take j,?_⟩).symm
     unfold Go.Fid.Top
     have h5:(l.take j).length-1=j-1:=by rw[List.length_take];omega
     rw[h5]
     have h6:j-1<l.length:=by omega
     simp [List.getD,List.getElem?_eq_getElem h6,List.getElem?_take_of_lt (show j-1<j by omega)] at hz ⊢
     exact hz
    rw[e,List.length_take,Nat.min_eq_left hj]
    exact ⟨rfl,rfl⟩
theorem trim_cb:Go.Fid.callB Tryz.prog 111=true:=by kernel_rfl
open Go.Fid in
theorem e_trimO{o:Oper}{S:Nat→SV}{x:Operand}{ats:Array TypeId}{k T m:Nat}(l:List Nat)(ho:o.op=.call { callee:=.value (.func 111),args:=#[x],argTypes:=ats })(hx:ev S x=.own k T 1 m)(hl:l.length=m)(hd:Dig l)(h0:val l≠0) :
  qX Tryz.prog o S [(k,l.map (fun g=>SV.d (jB g)))] (.own k T 1 (ofNat (val l)).length) :=
 fun a w D β Q hop hrd hD=>by
  have hxv:=hop x (by simp [ho,Op.operands,Call.operands])
  rw[hx] at hxv
  have hm:0<m:=by
   rcases Nat.eq_zero_or_pos m with e | e
   ·rw[e] at hl
    have:=List.eq_nil_of_length_eq_zero hl
    subst this
    exact absurd rfl h0
   ·exact e
  have hle:(ofNat (val l)).length≤l.length:=qU (vF hd)
  rcases hxv with ⟨_,e,_⟩ | ⟨b,cap,vs,h1,h2,h3,h4,h5,h6⟩
  ·omega
  ·have hblk:=hrd (k,l.map (fun g=>SV.d (jB g))) (by simp)
   rcases hblk with ⟨g1,_⟩ | ⟨b',vs',T',g1,g2,g3,g4,g5⟩
   ·rw[h1] at g1;cases g1
   ·obtain rfl:b=b':=by rw[h1] at g1;injection g1
    rw[h3] at g2
    injection g2 with g2
    injection g2 with g2 gT
    subst g2;subst gT
    have hcell:∀ i,w.cell? ⟨b,i,none⟩=vs[i]?:=fun i=>cell_of_row w b i vs T (0,0) h3
    have hrun:(execOp a.eval o).run Tryz.prog w=.ok (.enter 111 #[.slice (some ⟨b,0,none⟩) l.length cap]) w:=by
     simp only[execOp,ho,resolve,Deferred.ofValue,Act.eval,Sem.run_bind,Sem.run_pure,Result.andThen_ok,invoke,Array.empty_append,Array.append_empty]
     rw[yQ trim_cb]
     simp [h2,hl]
    refine cD hrun (((callsIn_wide (n:=1)).1 (trimV b cap l hd h0 w (fun i hi=>?_) (by omega) h6)).mono fun e w' h=>?_)
    ·rw[hcell]
     obtain ⟨u,e1,_,e3⟩:=g4 i (.d (jB (l.getD i 0))) (by rw[List.getElem?_map,List.getElem?_eq_getElem hi];simp [List.getD,List.getElem?_eq_getElem hi])
     rw[e1,uF e3]
    ·obtain ⟨he,rfl⟩:=h
     exact ⟨_,he,_,D,rfl,Below.refl _ _,⟨fun _ _ _ h=>h,fun _ _ _ h=>.inl h⟩,.inr ⟨b,cap,vs,h1,rfl,h3,h4,by omega,h6⟩⟩
open Go.Fid in
theorem trim_take{l:List Nat}(hd:Dig l):ofNat (val l)=l.take (ofNat (val l)).length:=by
 have h1:∀ (n:Nat) (l:List Nat),l.length=n→Dig l→ofNat (val l)=l.take (ofNat (val l)).length:=by
  intro n
  induction n with
  |zero=>intro l hl _;rw[List.eq_nil_of_length_eq_zero hl];rw[val_nil,uJ];rfl
  |succ n ih=>
   intro l hl hd
   have h2:=val_take_succ l n
   rw[← hl,List.take_length] at h2
   by_cases hz:l.getD n 0=0
   ·rw[hz,Nat.mul_zero,Nat.add_zero] at h2
    have h3:=ih (l.take n) (by rw[List.length_take];omega) (hd.take n)
    rw[← h2,List.take_take] at h3
    have h4:(ofNat (val l)).length≤n:=by
     rw[h2];exact qU (by have:=vF (hd.take n);rwa [List.length_take,Nat.min_eq_left (by omega)] at this)
    rw[Nat.min_eq_left h4] at h3
    exact h3
   ·have h3:yB l:=⟨hd,by
     unfold Top
     rw[show l.length-1=n by omega]
     have h6:n<l.length:=by omega
     simp [List.getD,List.getElem?_eq_getElem h6] at hz ⊢
     exact hz⟩
    rw[← can_eq h3,List.take_length]
 exact h1 _ l rfl hd
end Go.Proofs.YteimogfidbkpnaaGreat
namespace Go.Proofs.YteimogfidbkpnaaGreat
open Go.Fid
theorem cb112:callB Tryz.prog 112=true:=by kernel_rfl
theorem ze34:uL Tryz.prog 34=some [.slice none 0 0]:=by kernel_rfl
theorem zo34:gD [.slice none 0 0] [.sl 121 1 []]:=by simp [gD,Value.oneCell']
theorem t_short(a:List Nat)(d:Nat)(hda:Dig a)(hd0:0<d)(hd1:d≤1000000000)(hla:a.length≤17592186044416):jR Tryz.prog 112 [(.sl 121 1 (List.map jB a)),(.val (.int .u32 (((d:Nat):Int))))] (.tup [(.sl 121 1 (List.map jB (ofNat (val a / d)))),(.val (.int .u32 ((((val a % d):Nat):Int))))]):=by
 refine jH Tryz.func112 rfl cb112 rfl ?_
 show qS _ _ _ _ ⟨[(0,(vl 121 1 jB a)),(1,(cV d))],[]⟩
 refine jA<|kx [(3,(.ref 0 0)),(4,(.ref 1 0)),(5,(cV 0))] [(0,some (bx (.val (.int .u32 (((d:Nat):Int)))))),(1,some (bx (.sl 121 1 (List.map jB []))))] (zN (vL 0)<|zN (uX 1 ze34 zo34)<|zM<|zZ) ?_
 refine jA<|kx [] [(1,some [(.own 2 121 1 a.length)]),(2,some (bm jB (List.replicate a.length 0)))] (zM<|zE (yU kC)<|zN (oMk 2 jB (0:Nat) a.length a.length kC vC xV gH)<|zT (oSo xX)<|zZ) ?_
 refine jA<|kx [(6,(.ref 3 0))] [(3,some (bx (.val (.int .u64 (0)))))] (zH (uX 3 ze126 zo126)<|zT (qF sh126)<|zZ) ?_
 refine jA<|pwp_backL backs cb109 rfl 7 jB a 0 (fun (q,vT)=>⟨[(3,(.ref 0 0)),(4,(.ref 1 0)),(5,(cV 0)),(6,(.ref 3 0))],[(0,some (bx (.val (.int .u32 (((d:Nat):Int)))))),(1,some [(.own 2 121 1 a.length)]),(2,some (bm jB q)),(3,some (bx (.val (.int .u64 (((vT:Nat):Int))))))]⟩) (fun (j:Nat) (q,vT)=>q.length=a.length∧Dig q∧vT<d∧val (a.drop (a.length-j))=val (q.drop (a.length-j))*d+vT) (List.replicate a.length 0,0) rfl rfl rfl rfl rfl rfl rfl rfl rfl rfl rfl rfl (fun _=>rfl) (fun _=>rfl) wk ⟨by simp,xH _,hd0,by simp [val,mH]⟩ (by omega) ?_ ?_
 ·rintro rl j ⟨q,vT⟩ hj ⟨uB,hdq,hr,hv⟩
  have hg:=hda.getD (a.length-1-j)
  obtain ⟨hb1,hb2⟩:=short_bound hr hd1 hg
  refine jA<|kx [(7,(jL (a.length-1-j)))] [] (zM<|zZ) ?_
  refine kx [(8,(cV (a.getD (a.length-1-j) 0)))] [] (zM<|zZ) ?_
  refine jD<|jA<|kx [(9,(zG ((vT*1000000000)+(a.getD (a.length-1-j) 0))))] [] (zR (kX sh126)<|zE (oMl (vT*1000000000))<|zM<|zE (gM xU xR (a.getD (a.length-1-j) 0))<|zE (qP ((vT*1000000000)+(a.getD (a.length-1-j) 0)))<|zM<|zZ) ?_
  refine kd [] [(2,some (bm jB (q.set (a.length-1-j) (((vT*1000000000)+(a.getD (a.length-1-j) 0)) / d)))),(3,some (bx (.val (.int .u64 ((((((vT*1000000000)+(a.getD (a.length-1-j) 0)) % d):Nat):Int))))))] mo (wR (kX xX)<|wM<|wM<|wR (kX qJ)<|wE (gM xU xR d)<|wE (oQu (((vT*1000000000)+(a.getD (a.length-1-j) 0)) / d))<|wE (gM yN yE (((vT*1000000000)+(a.getD (a.length-1-j) 0)) / d))<|wM<|wR (kX qJ)<|wE (gM xU xR d)<|wE (oRe (((vT*1000000000)+(a.getD (a.length-1-j) 0)) % d))<|wE (cH kC (a.length-1-j))<|wT (oSp qJ (a.length-1-j) (((vT*1000000000)+(a.getD (a.length-1-j) 0)) / d))<|wT (qF sh126)<|wZ) ?_
  exact ⟨(q.set (a.length-1-j) ((vT*1000000000+a.getD (a.length-1-j) 0) / d),(vT*1000000000+a.getD (a.length-1-j) 0) % d),wk,⟨by simpa using uB,hdq.set _ hb2,Nat.mod_lt _ hd0,short_step hj uB hv rfl⟩⟩
 ·rintro ⟨q,vT⟩ ⟨uB,hdq,hr,hv⟩
  obtain ⟨e1,e2⟩:=short_end hv hr
  refine jA<|kE (publishB (j:=1) (k:=2) (es:=List.map jB q) rfl rfl rfl (qZ _ _ (fun _=>rfl)) (uR _ _ uB) (uS _ _ (fun _=>rfl) uB)) ?_
  refine kd [(5,(cV vT))] [(1,some (bx (.sl 121 1 (List.map jB (ofNat (val q))))))] mo (wR (kX xX)<|wE (jX (t_trim q (by assumption) (by omega)))<|wR (kX sh126)<|wE (gM yN yE vT)<|wT (qF xX)<|wM<|wZ) ?_
  refine jE ⟨_,(res_1 (cs:=(bx (.sl 121 1 (List.map jB (ofNat (val q)))))) (d:=(.sl 121 1 (List.map jB (ofNat (val q))))) rfl rfl xX rfl rfl (.tmp (d:=(.val (.int .u32 (((vT:Nat):Int))))) rfl .nil)),?_⟩
  rw[← e1,← e2];rfl
theorem o_times(a b:List Nat)(hda:Dig a)(hdb:Dig b)(hla:a.length≤4398046511104)(hlb:b.length≤4398046511104)(h0:0<val a*val b):TakesO Tryz.prog 102 [(.sl 121 1 (List.map jB a)),(.sl 121 1 (List.map jB b))] 121 1 (ofNat (val a*val b)).length (List.map jB (ofNat (val a*val b))):=by
 refine fn_introO Tryz.func102 rfl cb102 rfl (mD h0) ?_
 show qS _ _ _ _ ⟨[(0,(vl 121 1 jB a)),(1,(vl 121 1 jB b))],[]⟩
 refine jA<|kx [] [] (zE (oNl 121 1)<|zZ) ?_
 refine jA<|kx [(5,(.own 0 121 1 (a.length+b.length)))] [(0,some (bm jB (List.replicate (a.length+b.length) 0)))] (zM<|zE (yU kC)<|zM<|zE (yU kC)<|zE (qP (a.length+b.length))<|zN (oMk 0 jB (0:Nat) (a.length+b.length) (a.length+b.length) kC vC xV gH)<|zM<|zZ) ?_
 refine jA<|jA<|kx [(18,(vl 121 1 jB a)),(19,(jL a.length)),(20,(jL 0))] [] (zM<|zE (yU kC)<|zM<|zZ) ?_
 refine jD<|kP (α:=Nat × List Nat) (fun (i,out)=>⟨[(1,(vl 121 1 jB b)),(5,(.own 0 121 1 (a.length+b.length))),(18,(vl 121 1 jB a)),(19,(jL a.length)),(20,(jL i))],[(0,some (bm jB out))]⟩) (fun (i,out)=>out.length=a.length+b.length∧Dig out∧i≤a.length∧(∀ k,i+b.length≤k→out.getD k 0=0)∧val out=val (a.take i)*val b) (fun (i,out)=>a.length-i) (0,List.replicate (a.length+b.length) 0) wk ⟨by simp,xH _,Nat.zero_le _,fun k _=>cK _ k,by simp [val,mH]⟩ ?_
 rintro ⟨i,out⟩ ⟨uB,hdo,hi,hz,hv⟩
 have hai:=hda.getD i
 refine jA<|kx [(21,(vb (decide (((i:Nat):Int)<((a.length:Nat):Int)))))] [] (zE uE<|zZ) ?_
 refine jA<|jG rfl (fun h1=>?_) (fun h1=>?_)
 ·replace h1:=vM h1
  refine jC<|jA<|jD<|jA<|kx [(6,(jL i)),(7,(cV (a.getD i 0)))] [] (zM<|zE (nG kC i (0:Nat))<|zE (xE qJ)<|zM<|zM<|zZ) ?_
  refine jA<|kx [(8,(zG 0))] [] (zM<|zZ) ?_
  refine jA<|jA<|kx [(25,(vl 121 1 jB b)),(26,(jL b.length)),(27,(jL 0))] [] (zM<|zE (yU kC)<|zM<|zZ) ?_
  refine jD<|kP (α:=Nat × List Nat × Nat) (fun (j,o2,c)=>⟨[(1,(vl 121 1 jB b)),(5,(.own 0 121 1 (a.length+b.length))),(6,(jL i)),(7,(cV (a.getD i 0))),(8,(zG c)),(18,(vl 121 1 jB a)),(19,(jL a.length)),(20,(jL i)),(25,(vl 121 1 jB b)),(26,(jL b.length)),(27,(jL j))],[(0,some (bm jB o2))]⟩) (fun (j,o2,c)=>o2.length=a.length+b.length∧Dig o2∧j≤b.length∧c<1000000000∧(∀ k,i+b.length≤k→o2.getD k 0=0)∧val o2+pw (i+j)*c=val (a.take i)*val b+pw i*(a.getD i 0*val (b.take j))) (fun (j,o2,c)=>b.length-j) (0,out,0) wk ⟨uB,hdo,Nat.zero_le _,by decide,hz,by simp [val,hv]⟩ ?_
  rintro ⟨j,o2,c⟩ ⟨hlen2,hdo2,hj,hc,hz2,hv2⟩
  have hbj:=hdb.getD j
  have hoj:=hdo2.getD (i+j)
  have hpq:a.getD i 0*b.getD j 0≤999999999*999999999:=Nat.mul_le_mul (by omega) (by omega)
  refine jA<|kx [(28,(vb (decide (((j:Nat):Int)<((b.length:Nat):Int)))))] [] (zE uE<|zZ) ?_
  refine jA<|jG rfl (fun h2=>?_) (fun h2=>?_)
  ·replace h2:=vM h2
   refine jC<|jA<|jD<|jA<|kx [(9,(jL j)),(10,(cV (b.getD j 0)))] [] (zM<|zE (nG kC j (0:Nat))<|zE (xE qJ)<|zM<|zM<|zZ) ?_
   refine jA<|kx [(11,(zG (((o2.getD (i+j) 0)+((a.getD i 0)*(b.getD j 0)))+c)))] [] (zM<|zM<|zM<|zE (qP (i+j))<|zE (cH kC (i+j))<|zR (oLp qJ (i+j) (0:Nat))<|zE (gM xU xR (o2.getD (i+j) 0))<|zM<|zE (gM xU xR (a.getD i 0))<|zM<|zE (gM xU xR (b.getD j 0))<|zE (oMl ((a.getD i 0)*(b.getD j 0)))<|zE (qP ((o2.getD (i+j) 0)+((a.getD i 0)*(b.getD j 0))))<|zM<|zE (qP (((o2.getD (i+j) 0)+((a.getD i 0)*(b.getD j 0)))+c))<|zM<|zZ) ?_
   refine kx [(8,(zG ((((o2.getD (i+j) 0)+((a.getD i 0)*(b.getD j 0)))+c) / 1000000000)))] [(0,some (bm jB (o2.set (i+j) ((((o2.getD (i+j) 0)+((a.getD i 0)*(b.getD j 0)))+c) % 1000000000))))] (zM<|zM<|zM<|zE (qP (i+j))<|zM<|zE (oRe ((((o2.getD (i+j) 0)+((a.getD i 0)*(b.getD j 0)))+c) % 1000000000))<|zE (gM yN yE ((((o2.getD (i+j) 0)+((a.getD i 0)*(b.getD j 0)))+c) % 1000000000))<|zM<|zE (oQu ((((o2.getD (i+j) 0)+((a.getD i 0)*(b.getD j 0)))+c) / 1000000000))<|zE (cH kC (i+j))<|zT (oSp qJ (i+j) ((((o2.getD (i+j) 0)+((a.getD i 0)*(b.getD j 0)))+c) % 1000000000))<|zM<|zZ) ?_
   refine kx [(27,(jL (j+1)))] [] (zE (qP (j+1))<|zM<|zZ) ?_
   exact ⟨(j+1,o2.set (i+j) ((o2.getD (i+j) 0+a.getD i 0*b.getD j 0+c) % 1000000000),(o2.getD (i+j) 0+a.getD i 0*b.getD j 0+c) / 1000000000),wk,(by obtain ⟨q1,q2⟩:=times_step (by omega) hdo2 hv2 rfl (val_take_succ b j);exact ⟨by simpa using hlen2,q1,by omega,by omega,zero_set (by omega) hz2,q2⟩),(by first|omega|(dsimp only;omega))⟩
  ·replace h2:=vK h2
   have hje:j=b.length:=by omega
   rw[hje] at hv2
   refine jV<|kx [] [(0,some (bm jB (o2.set (i+b.length) c)))] (zM<|zM<|zM<|zE (yU kC)<|zE (qP (i+b.length))<|zM<|zE (gM yN yE c)<|zE (cH kC (i+b.length))<|zT (oSp qJ (i+b.length) c)<|zZ) ?_
   refine kx [(20,(jL (i+1)))] [] (zE (qP (i+1))<|zM<|zZ) ?_
   exact ⟨(i+1,o2.set (i+b.length) c),wk,(by obtain ⟨q1,q2,q3,q4⟩:=times_row hdo2 (by omega) hlen2 hz2 hc hv2;exact ⟨q1,q2,by omega,q3,q4⟩),(by first|omega|(dsimp only;omega))⟩
 ·replace h1:=vK h1
  have hie:i=a.length:=by omega
  rw[hie,List.take_length] at hv
  refine jV<|jA<|kx [(4,(.own 0 121 1 ((ofNat (val out)).length)))] [] (zM<|zR ⟨_,e_trimO out (by exact rfl) (by exact rfl) uB hdo (by omega),by kernel_rfl⟩<|zM<|zZ) ?_
  rw[← hv]
  refine jE ⟨4,0,rfl,rfl,(bm jB out),rfl,?_⟩
  exact own_prefix _ (trim_take hdo)
end Go.Proofs.YteimogfidbkpnaaGreat
