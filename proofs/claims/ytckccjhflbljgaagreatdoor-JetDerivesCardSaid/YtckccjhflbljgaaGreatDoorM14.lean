/- Part 14 of a proof: rules, plain facts, and functions walked. -/
import Derived.Test.YtckccjhflbljgaaGreatDoorM9
import Derived.Test.YtckccjhflbljgaaGreatDoorM7
import Derived.Test.YtckccjhflbljgaaGreatDoorM6
import Derived.Test.YtckccjhflbljgaaGreatDoorChecked
import Derived.RangeFuncBox
import Derived.Shelf.Abstract
import Derived.OwnWalkIn
import Derived.TacticsInMore
import Derived.LoopNIn
import Derived.LoopIn
set_option linter.all false
set_option maxRecDepth 4000
namespace Go.Proofs.YtckccjhflbljgaaGreatDoor
open List Tryz
open Go.Fid
theorem bo4:boolB prog 4=true:=by kernel_rfl
theorem un3:(prog.underlying 3).isSome=true:=by kernel_rfl
theorem t_sign(x:kW)(hx:x.gs.length<=1099511627776):jP prog 84 [(jQ x)] (.val (.int .i64 ((qZ (jV x))))):=by
 refine vD func84 ?_
 refine jB<|kx [(1,(.ref 0 0))] [(0,some (bx (jQ x)))] (zN (xD 0)<|zM<|zZ) ?_
 refine jB<|jH<|jB<|kx [(3,(vb ((((kQ x).length:Nat):Int) == 0)))] [] (zR (kP kG)<|zE (kB (hZ x (by omega)))<|zE (yA kJ (L:=(kQ x)))<|zE xL<|zM<|zZ) ?_
 refine jD (b:=((((kQ x).length:Nat):Int) == 0)) rfl (λh1=>?_) (λh1=>?_)
 ·replace h1:=eq_of_beq h1
  refine jB<|kx [(2,(kE 0))] [] (zM<|zZ) ?_
  refine jE ⟨_,(.tmp (d:=(.val (.int .i64 (0)))) rfl .nil),?_⟩
  rw[toZ_nil h1];rfl
 ·replace h1:=ne_of_beq_false h1
  refine jB<|kx [(8,(vb x.neg))] [] (zE (kK vN)<|zR (qH aT)<|zM<|zZ) ?_
  refine jD (b:=x.neg) rfl (λh2=>?_) (λh2=>?_)
  ·refine jB<|kx [(2,(vi (-1)))] [] (zM<|zZ) ?_
   refine jE ⟨_,(.tmp (d:=(.val (.int .i64 (-1)))) rfl .nil),?_⟩
   rw[sign_neg h1 h2];rfl
  ·refine jF<|jB<|kx [(2,(kE 1))] [] (zM<|zZ) ?_
   refine jE ⟨_,(.tmp (d:=(.val (.int .i64 (1)))) rfl .nil),?_⟩
   rw[sign_pos h1 h2];rfl
theorem t_neg(x:kW)(hx:x.gs.length<=1099511627776):jP prog 89 [(jQ x)] (jQ (kN (-jV x))):=by
 refine vD func89 ?_
 refine jB<|kx [(1,(.ref 0 0)),(2,(.ref 1 0))] [(0,some (bx (jQ x))),(1,some (bx (jQ (kW.mk false []))))] (zN (xD 0)<|zN (vB 1 nT nY)<|zZ) ?_
 refine jB<|kd [] [(1,some (bx (jQ (xU (!x.neg) (val (kQ x))))))] mo (wE (kK vN)<|wR (qH aT)<|wE cU<|wR (kP kG)<|wE (kB (hZ x (by omega)))<|wE (kB (t_clone (kQ x) (Nat.le_trans (gH _) (by omega))))<|wE (kB (dY (!x.neg) (kQ x) (qJ _).1 (Nat.le_trans (gH _) (by omega))))<|wT (qL kG)<|wZ) ?_
 refine jE ⟨_,(kM (cs:=(bx (jQ (xU (!x.neg) (val (kQ x)))))) (d:=(jQ (xU (!x.neg) (val (kQ x))))) rfl rfl kG rfl rfl .nil),?_⟩
 rw[<- neg_eq];rfl
theorem t_sum(b:Bool)(l:List Nat)(c:Bool)(m:List Nat)(hl:gG l)(hm:gG m)(hll:l.length<=1099511627776)(hlm:m.length<=1099511627776):jP prog 162 [(.val (.bool (b))),(.sl 107 1 (map jC l)),(.val (.bool (c))),(.sl 107 1 (map jC m))] (jQ (kN (dD b (val l)+dD c (val m)))):=by
 refine vD func162 ?_
 refine jB<|kx [(8,(.ref 0 0))] [(0,some (bx (jQ (kW.mk false []))))] (zN (vB 0 nT nY)<|zZ) ?_
 refine jB<|jH<|jB<|kx [(9,(vb (b == c)))] [] (zM<|zM<|zE (oEb bo4)<|zM<|zZ) ?_
 refine jD (b:=(b == c)) rfl (λh1=>?_) (λh1=>?_)
 ·replace h1:=eq_of_beq h1
  refine jB<|kx [] [(0,some (bx (jQ (xU b (val (ofNat (val l+val m)))))))] (zM<|zM<|zM<|zE (kB (t_plus l m hl.1 hm.1 (by omega) (by omega)))<|zE (kB (dY b (ofNat (val l+val m)) (kI _) (Nat.le_trans (add_len hl.1 hm.1) (by omega))))<|zT (qL kG)<|zZ) ?_
  refine jE ⟨_,(kM (cs:=(bx (jQ (xU b (val (ofNat (val l+val m))))))) (d:=(jQ (xU b (val (ofNat (val l+val m)))))) rfl rfl kG rfl rfl .nil),?_⟩
  rw[<- sum_same h1];rfl
 ·replace h1:=ne_of_beq_false h1
  refine jB<|kx [(18,(vb (decide (0<=(uY ((val l:Nat):Int) ((val m:Nat):Int))))))] [] (zM<|zM<|zE (kB (t_compare l m (by assumption) (by assumption) (by omega)))<|zE oGe<|zM<|zZ) ?_
  refine jD rfl (λh2=>?_) (λh2=>?_)
  ·replace h2:=vF h2
   refine jB<|kx [] [(0,some (bx (jQ (xU b (val (ofNat (val l-val m)))))))] (zM<|zM<|zM<|zE (kB (t_minus l m hl.1 hm.1 (by have:=lA h2;omega) (by omega)))<|zE (kB (dY b (ofNat (val l-val m)) (kI _) (Nat.le_trans (sub_len hl.1) (by omega))))<|zT (qL kG)<|zZ) ?_
   refine jE ⟨_,(kM (cs:=(bx (jQ (xU b (val (ofNat (val l-val m))))))) (d:=(jQ (xU b (val (ofNat (val l-val m)))))) rfl rfl kG rfl rfl .nil),?_⟩
   rw[<- sum_first h1 (by have:=lA h2;omega)];rfl
  ·replace h2:=vT h2
   refine jF<|jB<|kx [] [(0,some (bx (jQ (xU c (val (ofNat (val m-val l)))))))] (zM<|zM<|zM<|zE (kB (t_minus m l hm.1 hl.1 (by have:=cmpI_lt h2;omega) (by omega)))<|zE (kB (dY c (ofNat (val m-val l)) (kI _) (Nat.le_trans (sub_len hm.1) (by omega))))<|zT (qL kG)<|zZ) ?_
   refine jE ⟨_,(kM (cs:=(bx (jQ (xU c (val (ofNat (val m-val l))))))) (d:=(jQ (xU c (val (ofNat (val m-val l)))))) rfl rfl kG rfl rfl .nil),?_⟩
   rw[<- sum_second h1 (by have:=cmpI_lt h2;omega)];rfl
theorem t_add(x:kW)(y:kW)(hx:x.gs.length<=1099511627776)(hy:y.gs.length<=1099511627776):jP prog 92 [(jQ x),(jQ y)] (jQ (kN (jV x+jV y))):=by
 refine vD func92 ?_
 refine jB<|kx [(2,(.ref 0 0)),(3,(.ref 1 0)),(4,(.ref 2 0))] [(0,some (bx (jQ x))),(1,some (bx (jQ y))),(2,some (bx (jQ (kW.mk false []))))] (zN (xD 0)<|zN (xD 1)<|zN (vB 2 nT nY)<|zZ) ?_
 refine jB<|kd [] [(2,some (bx (jQ (kN (dD x.neg (val (kQ x))+dD y.neg (val (kQ y)))))))] mo (wE (kK vN)<|wR (qH aT)<|wR (kP kG)<|wE (kB (hZ x (by omega)))<|wE (kK vN)<|wR (qH aT)<|wR (kP kG)<|wE (kB (hZ y (by omega)))<|wE (kB (t_sum x.neg (kQ x) y.neg (kQ y) (qJ _) (qJ _) (Nat.le_trans (gH _) (by omega)) (Nat.le_trans (gH _) (by omega))))<|wT (qL kG)<|wZ) ?_
 refine jE ⟨_,(kM (cs:=(bx (jQ (kN (dD x.neg (val (kQ x))+dD y.neg (val (kQ y))))))) (d:=(jQ (kN (dD x.neg (val (kQ x))+dD y.neg (val (kQ y)))))) rfl rfl kG rfl rfl .nil),?_⟩
 rfl
theorem t_mul(x:kW)(y:kW)(hx:x.gs.length<=1099511627776)(hy:y.gs.length<=1099511627776):jP prog 91 [(jQ x),(jQ y)] (jQ (kN (jV x*jV y))):=by
 refine vD func91 ?_
 refine jB<|kx [(2,(.ref 0 0)),(3,(.ref 1 0)),(4,(.ref 2 0))] [(0,some (bx (jQ x))),(1,some (bx (jQ y))),(2,some (bx (jQ (kW.mk false []))))] (zN (xD 0)<|zN (xD 1)<|zN (vB 2 nT nY)<|zZ) ?_
 refine jB<|kd [] [(2,some (bx (jQ (xU (!(x.neg == y.neg)) (val (ofNat (val (kQ x)*val (kQ y))))))))] mo (wE (kK vN)<|wR (qH aT)<|wE (kK vN)<|wR (qH aT)<|wE (oNb bo4)<|wR (kP kG)<|wE (kB (hZ x (by omega)))<|wR (kP kG)<|wE (kB (hZ y (by omega)))<|wE (kB (t_times (kQ x) (kQ y) (qJ _).1 (qJ _).1 (Nat.le_trans (gH _) (by omega)) (Nat.le_trans (gH _) (by omega))))<|wE (kB (dY (!(x.neg == y.neg)) (ofNat (val (kQ x)*val (kQ y))) (kI _) (Nat.le_trans (mul_len (qJ _).1 (qJ _).1) (by have:=gH x;have:=gH y;omega))))<|wT (qL kG)<|wZ) ?_
 refine jE ⟨_,(kM (cs:=(bx (jQ (xU (!(x.neg == y.neg)) (val (ofNat (val (kQ x)*val (kQ y)))))))) (d:=(jQ (xU (!(x.neg == y.neg)) (val (ofNat (val (kQ x)*val (kQ y))))))) rfl rfl kG rfl rfl .nil),?_⟩
 rw[show jV x*jV y=_ from rfl,jV,jV,<- mul_eq];rfl
theorem t_of(n:Int)(hlo:-9223372036854775808<=n:=by decide)(hhi:n<=9223372036854775807:=by decide):jP prog 87 [(.val (.int .i64 (n)))] (jQ (kN n)):=by
 refine vD func87 ?_
 refine jB<|kx [(2,(.ref 0 0))] [(0,some (bx (jQ (kW.mk false []))))] (zN (vB 0 nT nY)<|zZ) ?_
 refine jB<|kx [(3,(gL ((n % 18446744073709551616).toNat)))] [] (zM<|zE (cA un3 yJ ((n % 18446744073709551616).toNat) (hr:=by exact (conv_u64 _)))<|zM<|zZ) ?_
 refine jB<|jB<|kx [(7,(vb (decide (n<0))))] [] (zM<|zE gX<|zZ) ?_
 refine jD (b:=decide (n<0)) rfl (λh1=>?_) (λh1=>?_)
 ·replace h1:=vF h1
  refine kx [(3,(gL ((-n).toNat)))] [] (zM<|zE (oNg (((-n).toNat:Nat):Int) (hr:=by exact (neg_u64 (by assumption) hlo)))<|zM<|zZ) ?_
  refine jB<|kx [] [(0,some (bx (jQ (xU (decide (n<0)) (val (ofNat ((-n).toNat)))))))] (zM<|zE gX<|zM<|zE (kB (t_split ((-n).toNat) (by omega)))<|zE (kB (dY (decide (n<0)) (ofNat ((-n).toNat)) (kI _) (Nat.le_trans (aB (by omega)) (by decide))))<|zT (qL kG)<|zZ) ?_
  refine jE ⟨_,(kM (cs:=(bx (jQ (xU (decide (n<0)) (val (ofNat ((-n).toNat))))))) (d:=(jQ (xU (decide (n<0)) (val (ofNat ((-n).toNat)))))) rfl rfl kG rfl rfl .nil),?_⟩
  rw[of_neg h1];rfl
 ·replace h1:=vT h1
  refine jF<|jB<|kx [] [(0,some (bx (jQ (xU (decide (n<0)) (val (ofNat ((n % 18446744073709551616).toNat)))))))] (zM<|zE gX<|zM<|zE (kB (t_split ((n % 18446744073709551616).toNat) (by omega)))<|zE (kB (dY (decide (n<0)) (ofNat ((n % 18446744073709551616).toNat)) (kI _) (Nat.le_trans (aB (by omega)) (by decide))))<|zT (qL kG)<|zZ) ?_
  refine jE ⟨_,(kM (cs:=(bx (jQ (xU (decide (n<0)) (val (ofNat ((n % 18446744073709551616).toNat))))))) (d:=(jQ (xU (decide (n<0)) (val (ofNat ((n % 18446744073709551616).toNat)))))) rfl rfl kG rfl rfl .nil),?_⟩
  rw[of_pos h1 hhi];rfl
theorem t_compareI(x:kW)(y:kW)(hx:x.gs.length<=1099511627776)(hy:y.gs.length<=1099511627776):jP prog 85 [(jQ x),(jQ y)] (.val (.int .i64 ((uY (jV x) (jV y))))):=by
 refine vD func85 ?_
 refine jB<|kx [(2,(.ref 0 0)),(3,(.ref 1 0))] [(0,some (bx (jQ x))),(1,some (bx (jQ y)))] (zN (xD 0)<|zN (xD 1)<|zM<|zZ) ?_
 refine jB<|jB<|kd [(5,(vi (qZ (jV x)))),(6,(vi (qZ (jV y))))] [] mo (wR (kP kG)<|wE (kB (t_sign x (by omega)))<|wR (kP kG)<|wE (kB (t_sign y (by omega)))<|wM<|wM<|wZ) ?_
 refine jB<|kx [(14,(vb ((qZ (jV x)) != (qZ (jV y)))))] [] (zM<|zM<|zE aZ<|zZ) ?_
 refine jD (b:=((qZ (jV x)) != (qZ (jV y)))) rfl (λh1=>?_) (λh1=>?_)
 ·replace h1:=bne_iff_ne.1 h1
  refine jB<|kx [(4,(vi (uY (qZ (jV x)) (qZ (jV y)))))] [] (zM<|zM<|zE (kB (t_cmp_int (qZ (jV x)) (qZ (jV y))))<|zM<|zZ) ?_
  refine jE ⟨_,(.tmp (d:=(.val (.int .i64 ((uY (qZ (jV x)) (qZ (jV y))))))) rfl .nil),?_⟩
  rw[<- cmp_sign h1];rfl
 ·replace h1:=bne_eq_false_iff_eq.1 h1
  refine jF<|jB<|kd [(7,(vi (uY ((val (kQ x):Nat):Int) ((val (kQ y):Nat):Int))))] [] mo (wR (kP kG)<|wE (kB (hZ x (by omega)))<|wR (kP kG)<|wE (kB (hZ y (by omega)))<|wE (kB (t_compare (kQ x) (kQ y) (qJ _) (qJ _) (Nat.le_trans (gH _) (by omega))))<|wM<|wZ) ?_
  refine jB<|jB<|kx [(24,(vb x.neg))] [] (zE (kK vN)<|zR (qH aT)<|zZ) ?_
  refine jD (b:=x.neg) rfl (λh2=>?_) (λh2=>?_)
  ·refine jB<|kx [(4,(vi (-(uY ((val (kQ x):Nat):Int) ((val (kQ y):Nat):Int)))))] [] (zM<|zE (oNg (-(uY ((val (kQ x):Nat):Int) ((val (kQ y):Nat):Int))) (hr:=by exact (wi64 (by omega) (by have:=cmpI_range ((val (kQ x):Nat):Int) ((val (kQ y):Nat):Int);omega) (by have:=cmpI_range ((val (kQ x):Nat):Int) ((val (kQ y):Nat):Int);omega))))<|zM<|zZ) ?_
   refine jE ⟨_,(.tmp (d:=(.val (.int .i64 (-(uY ((val (kQ x):Nat):Int) ((val (kQ y):Nat):Int)))))) rfl .nil),?_⟩
   rw[<- cmp_neg h1 h2];rfl
  ·refine jF<|jB<|kx [(4,(vi (uY ((val (kQ x):Nat):Int) ((val (kQ y):Nat):Int))))] [] (zM<|zM<|zZ) ?_
   refine jE ⟨_,(.tmp (d:=(.val (.int .i64 ((uY ((val (kQ x):Nat):Int) ((val (kQ y):Nat):Int)))))) rfl .nil),?_⟩
   rw[<- cmp_pos h1 h2];rfl
open Go.RowKit Go.Shelf
attribute [local go_sem] Oper.semAt_some
set_option maxRecDepth 100000 in
set_option maxHeartbeats 2000000 in
theorem trimV(b cap:Nat)(l:List Nat)(hd:Go.Fid.Dig l)(h0:Go.Fid.val l≠0)(w:World)(hc:∀ i,i<l.length->w.cell? ⟨b,i,none⟩=some (.int .u32 ((l.getD i 0:Nat):Int)))(h1:l.length<=cap)(h2:cap<=maxLen) :
  CallsIn Fence.wide 1 prog 180 #[.slice (some ⟨b,0,none⟩) l.length cap] w λe w'=>e=.returned (.slice (some ⟨b,0,none⟩) (Go.Fid.ofNat (Go.Fid.val l)).length cap)/\w'=w:=by
 refine callsIn_of_wp func180 rfl trivial ?_ rfl
 simp only[ntmps180,size_toArray,length_cons,length_nil,Nat.reduceAdd,Nat.reduceSub,Array.replicate_succ,Array.replicate_zero,push_toArray,append_toArray,nil_append,cons_append]
 gi_wp2
 gi_loopw [0] (λi wr=>∃ j:Nat,j<=l.length/\0<j/\i=.slice (some ⟨b,0,none⟩) j cap/\Go.Fid.val (l.take j)=Go.Fid.val l/\wr=w)
  (λi _=>match i with | .slice _ n _=>n | _=>0)
 case atStart=>
  have hl:0<l.length:=by
   rcases l with _ | ⟨d,l⟩
   ·exact absurd rfl h0
   ·simp
  exact ⟨l.length,Nat.le_refl _,hl,rfl,by rw[take_length],rfl⟩
 case round=>
  obtain ⟨j,hj,hj0,rfl,hv,rfl⟩:=hrel
  have hcj:=hc (j-1) (by omega)
  have hj63:(j:Int)<=9223372036854775807:=by unfold maxLen at h2;omega
  have hv2:=Go.Fid.val_take_succ l (j-1)
  rw[show j-1+1=j by omega] at hv2
  by_cases hz:l.getD (j-1) 0=0
  ·rw[hz] at hcj hv2
   have h1j:0<j-1:=by
    rcases Nat.eq_zero_or_pos (j-1) with e | e
    ·rw[e,take_zero,Go.Fid.val_nil,Nat.mul_zero] at hv2
     omega
    ·exact e
   gi_wp2
   go_roundw
   case rel=>exact ⟨j-1,by omega,h1j,by simp,by rw[<- hv,hv2];simp,trivial⟩
   case measure=>simp;omega
  ·gi_wp2
   ·rename_i hq
    exfalso
    simp [List.getD] at hz hq
    omega
   ·refine ⟨rfl,.slice (some ⟨b,0,none⟩) j cap,by simp [results,Tryz.results180,go_sem],?_⟩
    have e:Go.Fid.ofNat (Go.Fid.val l)=l.take j:=by
     rw[<- hv]
     refine (Go.Fid.can_eq ⟨hd.take j,?_⟩).symm
     unfold Go.Fid.Top
     have h5:(l.take j).length-1=j-1:=by rw[length_take];omega
     rw[h5]
     have h6:j-1<l.length:=by omega
     simp [List.getD,getElem?_eq_getElem h6,getElem?_take_of_lt (show j-1<j by omega)] at hz ⊢
     exact hz
    rw[e,length_take,Nat.min_eq_left hj]
    exact ⟨rfl,rfl⟩
theorem trim_cb:Go.Fid.callB prog 180=true:=by kernel_rfl
open Go.Fid in
theorem e_trimO{o:Oper}{S:Nat->SV}{x:Operand}{ats:Array TypeId}{k T m:Nat}(l:List Nat)(ho:o.op=.call { callee:=.value (.func 180),args:=#[x],argTypes:=ats })(hx:ev S x=.own k T 1 m)(hl:l.length=m)(hd:Dig l)(h0:val l≠0) :
  uP prog o S [(k,l.map (λg=>SV.d (jC g)))] (.own k T 1 (ofNat (val l)).length) :=
 λa w D β Q hop hrd hD=>by
  have hxv:=hop x (by simp [ho,Op.operands,Call.operands])
  rw[hx] at hxv
  have hm:0<m:=by
   rcases Nat.eq_zero_or_pos m with e | e
   ·rw[e] at hl
    have:=eq_nil_of_length_eq_zero hl
    subst this
    exact absurd rfl h0
   ·exact e
  have hle:(ofNat (val l)).length<=l.length:=uF (xB hd)
  rcases hxv with ⟨_,e,_⟩ | ⟨b,cap,vs,h1,h2,h3,h4,h5,h6⟩
  ·omega
  ·have hblk:=hrd (k,l.map (λg=>SV.d (jC g))) (by simp)
   rcases hblk with g0 | ⟨b',vs',T',g1,g2,g3,g4,g5⟩
   ·exact (g0.at_cells h1 h3).elim
   ·obtain rfl:b=b':=by rw[h1] at g1;injection g1
    rw[h3] at g2
    injection g2 with g2
    injection g2 with g2 gT
    subst g2;subst gT
    have hcell:∀ i,w.cell? ⟨b,i,none⟩=vs[i]?:=λi=>cell_of_row w b i vs T (0,0) h3
    have hrun:(execOp a.eval o).run prog w=.ok (.enter 180 #[.slice (some ⟨b,0,none⟩) l.length cap]) w:=by
     simp only[execOp,ho,resolve,Deferred.ofValue,Act.eval,Sem.run_bind,Sem.run_pure,Result.andThen_ok,invoke,Array.empty_append,Array.append_empty]
     rw[xJ trim_cb]
     simp [h2,hl]
    refine dG hrun (((callsIn_wide (n:=1)).1 (trimV b cap l hd h0 w (λi hi=>?_) (by omega) h6)).mono λe w' h=>?_)
    ·rw[hcell]
     obtain ⟨u,e1,_,e3⟩:=g4 i (.d (jC (l.getD i 0))) (by rw[getElem?_map,getElem?_eq_getElem hi];simp [List.getD,getElem?_eq_getElem hi])
     rw[e1,vA e3]
    ·obtain ⟨he,rfl⟩:=h
     exact ⟨_,he,_,D,rfl,Below.refl _ _,⟨λ_ _ _ h=>h,λ_ _ _ h=>.inl h⟩,.inr ⟨b,cap,vs,h1,rfl,h3,h4,by omega,h6⟩⟩
open Go.Fid in
theorem trim_take{l:List Nat}(hd:Dig l):ofNat (val l)=l.take (ofNat (val l)).length:=by
 have h1:∀ (n:Nat) (l:List Nat),l.length=n->Dig l->ofNat (val l)=l.take (ofNat (val l)).length:=by
  intro n
  induction n with
  |zero=>intro l hl _;rw[eq_nil_of_length_eq_zero hl];rw[val_nil,uC];rfl
  |succ n ih=>
   intro l hl hd
   have h2:=val_take_succ l n
   rw[<- hl,take_length] at h2
   by_cases hz:l.getD n 0=0
   ·rw[hz,Nat.mul_zero,Nat.add_zero] at h2
    have h3:=ih (l.take n) (by rw[length_take];omega) (hd.take n)
    rw[<- h2,take_take] at h3
    have h4:(ofNat (val l)).length<=n:=by
     rw[h2];exact uF (by have:=xB (hd.take n);rwa [length_take,Nat.min_eq_left (by omega)] at this)
    rw[Nat.min_eq_left h4] at h3
    exact h3
   ·have h3:gG l:=⟨hd,by
     unfold Top
     rw[show l.length-1=n by omega]
     have h6:n<l.length:=by omega
     simp [List.getD,getElem?_eq_getElem h6] at hz ⊢
     exact hz⟩
    rw[<- can_eq h3,take_length]
 exact h1 _ l rfl hd
end Go.Proofs.YtckccjhflbljgaaGreatDoor
namespace Go.Proofs.YtckccjhflbljgaaGreatDoor
open List Tryz
open Go.Fid
theorem ze28:xH prog 28=some [.slice none 0 0]:=by kernel_rfl
theorem zo28:eO [.slice none 0 0] [.sl 107 1 []]:=by simp [eO,Value.oneCell']
theorem t_short(a:List Nat)(d:Nat)(hda:Dig a)(hd0:0<d)(hd1:d<=1000000000)(hla:a.length<=17592186044416):jP prog 181 [(.sl 107 1 (map jC a)),(.val (.int .u32 (((d:Nat):Int))))] (.tup [(.sl 107 1 (map jC (ofNat (val a / d)))),(.val (.int .u32 ((((val a % d):Nat):Int))))]):=by
 refine vD func181 ?_
 refine jB<|kx [(3,(.ref 0 0)),(4,(.ref 1 0)),(5,(iT 0))] [(0,some (bx (.val (.int .u32 (((d:Nat):Int)))))),(1,some (bx (.sl 107 1 (map jC []))))] (zN (xD 0)<|zN (vB 1 ze28 zo28)<|zM<|zZ) ?_
 refine jB<|kx [] [(1,some [(.own 2 107 1 a.length)]),(2,some (bm jC (replicate a.length 0)))] (zM<|zE (yA kJ)<|zN (oMk 2 jC (0:Nat) a.length a.length kJ xA yR mK)<|zT (oSo zU)<|zZ) ?_
 refine jB<|kx [(6,(.ref 3 0))] [(3,some (bx (.val (.int .u64 (0)))))] (zH (vB 3 ze137 zo137)<|zT (qL sh137)<|zZ) ?_
 refine jB<|pwp_backL backs cb178 rfl 7 jC a 0 (λ(q,xT)=>⟨[(3,(.ref 0 0)),(4,(.ref 1 0)),(5,(iT 0)),(6,(.ref 3 0))],[(0,some (bx (.val (.int .u32 (((d:Nat):Int)))))),(1,some [(.own 2 107 1 a.length)]),(2,some (bm jC q)),(3,some (bx (.val (.int .u64 (((xT:Nat):Int))))))]⟩) (λ(j:Nat) (q,xT)=>q.length=a.length/\Dig q/\xT<d/\val (a.drop (a.length-j))=val (q.drop (a.length-j))*d+xT) (replicate a.length 0,0) rfl rfl rfl rfl rfl rfl rfl rfl rfl rfl rfl rfl (λ_=>rfl) (λ_=>rfl) wk ⟨by simp,zV _,hd0,by simp [val,eG]⟩ (by omega) ?_ ?_
 ·rintro rl j ⟨q,xT⟩ hj ⟨qM,hdq,hr,hv⟩
  have hg:=hda.getD (a.length-1-j)
  obtain ⟨hb1,hb2⟩:=short_bound hr hd1 hg
  refine jB<|kx [(7,(kE (a.length-1-j)))] [] (zM<|zZ) ?_
  refine kx [(8,(iT (a.getD (a.length-1-j) 0)))] [] (zM<|zZ) ?_
  refine jH<|jB<|kx [(9,(gL ((xT*1000000000)+(a.getD (a.length-1-j) 0))))] [] (zR (qH sh137)<|zE (oMl (xT*1000000000))<|zM<|zE (cA yU yJ (a.getD (a.length-1-j) 0))<|zE (xO ((xT*1000000000)+(a.getD (a.length-1-j) 0)))<|zM<|zZ) ?_
  refine kd [] [(2,some (bm jC (q.set (a.length-1-j) (((xT*1000000000)+(a.getD (a.length-1-j) 0)) / d)))),(3,some (bx (.val (.int .u64 ((((((xT*1000000000)+(a.getD (a.length-1-j) 0)) % d):Nat):Int))))))] mo (wR (qH zU)<|wM<|wM<|wR (qH qP)<|wE (cA yU yJ d)<|wE (oQu (((xT*1000000000)+(a.getD (a.length-1-j) 0)) / d))<|wE (cA nL gP (((xT*1000000000)+(a.getD (a.length-1-j) 0)) / d))<|wM<|wR (qH qP)<|wE (cA yU yJ d)<|wE (oRe (((xT*1000000000)+(a.getD (a.length-1-j) 0)) % d))<|wE (yF kJ (a.length-1-j))<|wT (fF qP (a.length-1-j) (((xT*1000000000)+(a.getD (a.length-1-j) 0)) / d))<|wT (qL sh137)<|wZ) ?_
  exact ⟨(q.set (a.length-1-j) ((xT*1000000000+a.getD (a.length-1-j) 0) / d),(xT*1000000000+a.getD (a.length-1-j) 0) % d),wk,⟨by simpa using qM,hdq.set _ hb2,Nat.mod_lt _ hd0,short_step hj qM hv rfl⟩⟩
 ·rintro ⟨q,xT⟩ ⟨qM,hdq,hr,hv⟩
  obtain ⟨e1,e2⟩:=short_end hv hr
  refine jB<|kS (publishB (j:=1) (k:=2) (es:=map jC q) rfl rfl rfl (vX _ _ (λ_=>rfl)) (vK _ _ qM) (xV _ _ (λ_=>rfl) qM)) ?_
  refine kd [(5,(iT xT))] [(1,some (bx (.sl 107 1 (map jC (ofNat (val q))))))] mo (wR (qH zU)<|wE (kB (t_trim q (by assumption) (by omega)))<|wR (qH sh137)<|wE (cA nL gP xT)<|wT (qL zU)<|wM<|wZ) ?_
  refine jE ⟨_,(res_1 (cs:=(bx (.sl 107 1 (map jC (ofNat (val q)))))) (d:=(.sl 107 1 (map jC (ofNat (val q))))) rfl rfl zU rfl rfl (.tmp (d:=(.val (.int .u32 (((xT:Nat):Int))))) rfl .nil)),?_⟩
  rw[<- e1,<- e2];rfl
theorem o_times(a b:List Nat)(hda:Dig a)(hdb:Dig b)(hla:a.length<=4398046511104)(hlb:b.length<=4398046511104)(h0:0<val a*val b):TakesO prog 161 [(.sl 107 1 (map jC a)),(.sl 107 1 (map jC b))] 107 1 (ofNat (val a*val b)).length (map jC (ofNat (val a*val b))):=by
 refine fn_introO func161 rfl cb161 rfl (eH h0) ?_
 refine jB<|kx [] [] (zE (aN 107 1)<|zZ) ?_
 refine jB<|kx [(5,(.own 0 107 1 (a.length+b.length)))] [(0,some (bm jC (replicate (a.length+b.length) 0)))] (zM<|zE (yA kJ)<|zM<|zE (yA kJ)<|zE (xO (a.length+b.length))<|zN (oMk 0 jC (0:Nat) (a.length+b.length) (a.length+b.length) kJ xA yR mK)<|zM<|zZ) ?_
 refine jB<|jB<|kx [(18,(vl 107 1 jC a)),(19,(kE a.length)),(20,(kE 0))] [] (zM<|zE (yA kJ)<|zM<|zZ) ?_
 refine jH<|kR (α:=Nat × List Nat) (λ(i,out)=>⟨[(1,(vl 107 1 jC b)),(5,(.own 0 107 1 (a.length+b.length))),(18,(vl 107 1 jC a)),(19,(kE a.length)),(20,(kE i))],[(0,some (bm jC out))]⟩) (λ(i,out)=>out.length=a.length+b.length/\Dig out/\i<=a.length/\(∀ k,i+b.length<=k->out.getD k 0=0)/\val out=val (a.take i)*val b) (λ(i,out)=>a.length-i) (0,replicate (a.length+b.length) 0) wk ⟨by simp,zV _,Nat.zero_le _,λk _=>fQ _ k,by simp [val,eG]⟩ ?_
 rintro ⟨i,out⟩ ⟨qM,hdo,hi,hz,hv⟩
 have hai:=hda.getD i
 refine jB<|kx [(21,(vb (decide (((i:Nat):Int)<((a.length:Nat):Int)))))] [] (zE gX<|zZ) ?_
 refine jB<|jD rfl (λh1=>?_) (λh1=>?_)
 ·replace h1:=vF h1
  refine jF<|jB<|jH<|jB<|kx [(6,(kE i)),(7,(iT (a.getD i 0)))] [] (zM<|zE (cB kJ i (0:Nat))<|zE (dK qP)<|zM<|zM<|zZ) ?_
  refine jB<|kx [(8,(gL 0))] [] (zM<|zZ) ?_
  refine jB<|jB<|kx [(25,(vl 107 1 jC b)),(26,(kE b.length)),(27,(kE 0))] [] (zM<|zE (yA kJ)<|zM<|zZ) ?_
  refine jH<|kR (α:=Nat × List Nat × Nat) (λ(j,o2,c)=>⟨[(1,(vl 107 1 jC b)),(5,(.own 0 107 1 (a.length+b.length))),(6,(kE i)),(7,(iT (a.getD i 0))),(8,(gL c)),(18,(vl 107 1 jC a)),(19,(kE a.length)),(20,(kE i)),(25,(vl 107 1 jC b)),(26,(kE b.length)),(27,(kE j))],[(0,some (bm jC o2))]⟩) (λ(j,o2,c)=>o2.length=a.length+b.length/\Dig o2/\j<=b.length/\c<1000000000/\(∀ k,i+b.length<=k->o2.getD k 0=0)/\val o2+pw (i+j)*c=val (a.take i)*val b+pw i*(a.getD i 0*val (b.take j))) (λ(j,o2,c)=>b.length-j) (0,out,0) wk ⟨qM,hdo,Nat.zero_le _,by decide,hz,by simp [val,hv]⟩ ?_
  rintro ⟨j,o2,c⟩ ⟨hlen2,hdo2,hj,hc,hz2,hv2⟩
  have hbj:=hdb.getD j
  have hoj:=hdo2.getD (i+j)
  have hpq:a.getD i 0*b.getD j 0<=999999999*999999999:=Nat.mul_le_mul (by omega) (by omega)
  refine jB<|kx [(28,(vb (decide (((j:Nat):Int)<((b.length:Nat):Int)))))] [] (zE gX<|zZ) ?_
  refine jB<|jD rfl (λh2=>?_) (λh2=>?_)
  ·replace h2:=vF h2
   refine jF<|jB<|jH<|jB<|kx [(9,(kE j)),(10,(iT (b.getD j 0)))] [] (zM<|zE (cB kJ j (0:Nat))<|zE (dK qP)<|zM<|zM<|zZ) ?_
   refine jB<|kx [(11,(gL (((o2.getD (i+j) 0)+((a.getD i 0)*(b.getD j 0)))+c)))] [] (zM<|zM<|zM<|zE (xO (i+j))<|zE (yF kJ (i+j))<|zR (fE qP (i+j) (0:Nat))<|zE (cA yU yJ (o2.getD (i+j) 0))<|zM<|zE (cA yU yJ (a.getD i 0))<|zM<|zE (cA yU yJ (b.getD j 0))<|zE (oMl ((a.getD i 0)*(b.getD j 0)))<|zE (xO ((o2.getD (i+j) 0)+((a.getD i 0)*(b.getD j 0))))<|zM<|zE (xO (((o2.getD (i+j) 0)+((a.getD i 0)*(b.getD j 0)))+c))<|zM<|zZ) ?_
   refine kx [(8,(gL ((((o2.getD (i+j) 0)+((a.getD i 0)*(b.getD j 0)))+c) / 1000000000)))] [(0,some (bm jC (o2.set (i+j) ((((o2.getD (i+j) 0)+((a.getD i 0)*(b.getD j 0)))+c) % 1000000000))))] (zM<|zM<|zM<|zE (xO (i+j))<|zM<|zE (oRe ((((o2.getD (i+j) 0)+((a.getD i 0)*(b.getD j 0)))+c) % 1000000000))<|zE (cA nL gP ((((o2.getD (i+j) 0)+((a.getD i 0)*(b.getD j 0)))+c) % 1000000000))<|zM<|zE (oQu ((((o2.getD (i+j) 0)+((a.getD i 0)*(b.getD j 0)))+c) / 1000000000))<|zE (yF kJ (i+j))<|zT (fF qP (i+j) ((((o2.getD (i+j) 0)+((a.getD i 0)*(b.getD j 0)))+c) % 1000000000))<|zM<|zZ) ?_
   refine kx [(27,(kE (j+1)))] [] (zE (xO (j+1))<|zM<|zZ) ?_
   exact ⟨(j+1,o2.set (i+j) ((o2.getD (i+j) 0+a.getD i 0*b.getD j 0+c) % 1000000000),(o2.getD (i+j) 0+a.getD i 0*b.getD j 0+c) / 1000000000),wk,(by obtain ⟨q1,q2⟩:=times_step (by omega) hdo2 hv2 rfl (val_take_succ b j);exact ⟨by simpa using hlen2,q1,by omega,by omega,zero_set (by omega) hz2,q2⟩),(by first|omega|(dsimp only;omega))⟩
  ·replace h2:=vT h2
   have hje:j=b.length:=by omega
   rw[hje] at hv2
   refine kO<|kx [] [(0,some (bm jC (o2.set (i+b.length) c)))] (zM<|zM<|zM<|zE (yA kJ)<|zE (xO (i+b.length))<|zM<|zE (cA nL gP c)<|zE (yF kJ (i+b.length))<|zT (fF qP (i+b.length) c)<|zZ) ?_
   refine kx [(20,(kE (i+1)))] [] (zE (xO (i+1))<|zM<|zZ) ?_
   exact ⟨(i+1,o2.set (i+b.length) c),wk,(by obtain ⟨q1,q2,q3,q4⟩:=times_row hdo2 (by omega) hlen2 hz2 hc hv2;exact ⟨q1,q2,by omega,q3,q4⟩),(by first|omega|(dsimp only;omega))⟩
 ·replace h1:=vT h1
  have hie:i=a.length:=by omega
  rw[hie,take_length] at hv
  refine kO<|jB<|kx [(4,(.own 0 107 1 ((ofNat (val out)).length)))] [] (zM<|zR ⟨_,e_trimO out (by exact rfl) (by exact rfl) qM hdo (by omega),by kernel_rfl⟩<|zM<|zZ) ?_
  rw[<- hv]
  refine jE ⟨4,0,rfl,rfl,(bm jC out),rfl,?_⟩
  exact own_prefix _ (trim_take hdo)
theorem in2:intB prog 2=some .i64:=by kernel_rfl
theorem un2:(prog.underlying 2).isSome=true:=by kernel_rfl
set_option maxHeartbeats 4000000 in
theorem t_long(a b:List Nat)(hda:gG a)(hdb:gG b)(hb2:2<=b.length)(hba:val b<=val a)(hla:a.length<=1099511627776):jP prog 182 [(.sl 107 1 (map jC a)),(.sl 107 1 (map jC b))] (.tup [(.sl 107 1 (map jC (ofNat (val a / val b)))),(.sl 107 1 (map jC (ofNat (val a % val b))))]):=by
 have hab:=len_of_le hda hdb hba
 have hsc:=iA hdb (by omega)
 have htp:=lZ hdb (by omega)
 have hds:Dig [dL b]:=yO.2 ⟨by omega,gU⟩
 have hbp:0<val b:=by have:=val_top hdb.1 (by omega);have h2:=Nat.mul_le_mul_right (pw (b.length-1)) htp.1;have h3:=pw_pos (b.length-1);rw[Nat.succ_mul] at h2;omega
 obtain ⟨u0,hue⟩:∃ u0,u0=ofNat (val a*val [dL b]):=⟨_,rfl⟩
 obtain ⟨v,hve⟩:∃ v,v=ofNat (val b*val [dL b]):=⟨_,rfl⟩
 have hu0:Dig u0:=by rw[hue];exact kI _
 have hvd:Dig v:=by rw[hve];exact kI _
 have hvl:v.length=b.length:=by rw[hve,cZ];exact scl_len hdb (by omega)
 have hvv:val v=val b*dL b:=by rw[hve,cZ];exact kH _
 have hu0v:val u0=val a*dL b:=by rw[hue,cZ];exact kH _
 have hu0l:a.length<=u0.length/\u0.length<=a.length+1:=by rw[hue,cZ];exact scl_lenA hda hdb (by omega)
 have hLU:(u0++[0]).length=u0.length+1:=by simp
 have hcv:gG v:=by rw[hve];exact qF _
 have hv1p:0<v.getD (b.length-1) 0:=by rw[<- hvl];exact (lZ hcv (by omega)).1
 have hpv:pw (b.length-1)<=val v:=by have h1:=val_top hvd (by omega);rw[hvl] at h1;have h2:=Nat.mul_le_mul_right (pw (b.length-1)) hv1p;omega
 refine vD func182 ?_
 refine jB<|kx [] [] (zE (aN 107 1)<|zE (aN 107 1)<|zZ) ?_
 refine jB<|kx [(6,(iT (dL b)))] [] (zM<|zM<|zE (yA kJ)<|zE (oSb (b.length-1))<|zE (cB kJ (b.length-1) (0:Nat))<|zE (dK qP)<|zE (cA yU yJ (b.getD (b.length-1) 0))<|zE (xO ((b.getD (b.length-1) 0)+1))<|zE (oQu (dL b) (hr:=by exact (quo_u64 1000000000 (b.getD (b.length-1) 0+1))))<|zE (cA nL gP (dL b))<|zM<|zZ) ?_
 refine jB<|kx [(7,(.own 0 107 1 u0.length))] [(0,some (bm jC u0))] (zM<|zM<|zE (fC kJ xA yR)<|zN (oCo 0 (hue▸o_times a [dL b] hda.1 hds (by omega) (by simp) (by rw[cZ];exact Nat.mul_pos (by omega) hsc.1)))<|zM<|zZ) ?_
 refine jB<|kx [(8,(vl 107 1 jC v))] [] (zM<|zM<|zE (fC kJ xA yR)<|zE (kB (hve▸t_times b [dL b] hdb.1 hds (by omega) (by simp)))<|zM<|zZ) ?_
 refine jB<|kx [(9,(kE b.length))] [] (zM<|zE (oLn kJ b.length (hr:=by exact (by simp [hvl])))<|zM<|zZ) ?_
 refine jB<|kf [(7,(.own 0 107 1 ((u0++[0]).length)))] [(0,some (bm jC (u0++[0])))] (zM<|zE (fC kJ xA yR)<|zA jC u0 [0] rfl kJ xA mK<|zM<|zF) ?_
 refine jB<|jB<|kx [(50,(vb (decide ((((u0++[0]).length:Nat):Int)<=((a.length:Nat):Int)))))] [] (zM<|zE (oLo kJ)<|zM<|zE (yA kJ)<|zE oLe<|zZ) ?_
 refine jD rfl (λh1=>?_) (λh1=>?_)
 ·replace h1:=vF h1
  exfalso;simp at h1;omega
 ·replace h1:=vT h1
  refine jF<|jB<|kx [(4,(.own 1 107 1 ((u0++[0]).length-b.length)))] [(1,some (bm jC (replicate ((u0++[0]).length-b.length) 0)))] (zM<|zE (oLo kJ)<|zM<|zE (oSb ((u0++[0]).length-b.length))<|zH (oMk 1 jC (0:Nat) ((u0++[0]).length-b.length) ((u0++[0]).length-b.length) kJ xA yR mK)<|zM<|zZ) ?_
  refine jB<|jB<|kx [(10,(vi ((((u0++[0]).length-b.length:Nat):Int)-1)))] [] (zM<|zE (oLo kJ)<|zM<|zE (oSb ((u0++[0]).length-b.length))<|zE (zSb ((((u0++[0]).length-b.length:Nat):Int)-1))<|zM<|zZ) ?_
  refine jH<|kR (α:=Nat × List Nat × List Nat) (λ(k,u,q)=>⟨[(4,(.own 1 107 1 ((u0++[0]).length-b.length))),(6,(iT (dL b))),(7,(.own 0 107 1 ((u0++[0]).length))),(8,(vl 107 1 jC v)),(9,(kE b.length)),(10,(vi (((k:Nat):Int)-1)))],[(0,some (bm jC u)),(1,some (bm jC q))]⟩) (λ(k,u,q)=>u.length=(u0++[0]).length/\Dig u/\q.length=(u0++[0]).length-b.length/\Dig q/\k<=(u0++[0]).length-b.length/\val u+val v*(pw k*val (q.drop k))=val a*dL b/\val (u.drop k)<val v) (λ(k,u,q)=>k) ((u0++[0]).length-b.length,u0++[0],replicate ((u0++[0]).length-b.length) 0) wk ⟨rfl,lD.2 ⟨hu0,yO.2 ⟨by decide,gU⟩⟩,by simp,zV _,Nat.le_refl _,by simp [dX,val,hu0v],by have:=long_start hu0 hvl hb2 (by omega) hpv;rw[hLU];exact this⟩ ?_
  rintro ⟨k,u,q⟩ ⟨qM,hu,hql,hqd,hk,hU,hW⟩
  refine jB<|jB<|kx [(65,(vb (decide (0<=(((k:Nat):Int)-1)))))] [] (zM<|zE oGe<|zZ) ?_
  refine jD (b:=decide (0<=(((k:Nat):Int)-1))) rfl (λh2=>?_) (λh2=>?_)
  ·replace h2:=vF h2
   obtain ⟨j,rfl⟩:∃ j,k=j+1:=⟨k-1,by omega⟩
   rw[show (((j+1:Nat):Int)-1)=((j:Nat):Int) from by omega]
   have hg1:=hu.getD (j+b.length)
   have hg2:=hu.getD (j+b.length-1)
   have hg3:=hu.getD (j+b.length-2)
   have hg4:=hvd.getD (b.length-1)
   have hg5:=hvd.getD (b.length-2)
   obtain ⟨z1,z2,z3,z4,z5,z6⟩:=window_tops hu hvd hvl hb2 hW
   obtain ⟨hwz,hww⟩:=window hvd hvl hW
   refine jF<|jB<|jH<|jB<|kd [(10,(kE j)),(11,(gL (((u.getD (j+b.length) 0)*1000000000)+(u.getD ((j+b.length)-1) 0))))] [] mo (wM<|wM<|wM<|wE (xO (j+b.length))<|wR ⟨(bm jC u),e_clo (t_at u (j+b.length)) (by exact rfl) (by exact rfl) (by exact rfl) (.o (.d .nil)) (vX jC u (λ_=>rfl)) (vK _ _ qM) (xV _ _ (λ_=>rfl) qM),by kernel_rfl⟩<|wE (cA yU yJ (u.getD (j+b.length) 0))<|wE (oMl ((u.getD (j+b.length) 0)*1000000000))<|wM<|wM<|wM<|wE (xO (j+b.length))<|wE (oSb ((j+b.length)-1))<|wE (yF kJ ((j+b.length)-1))<|wR (fE qP ((j+b.length)-1) (0:Nat))<|wE (cA yU yJ (u.getD ((j+b.length)-1) 0))<|wE (xO (((u.getD (j+b.length) 0)*1000000000)+(u.getD ((j+b.length)-1) 0)))<|wM<|wZ) ?_
   refine jB<|kd [(12,(gL ((((u.getD (j+b.length) 0)*1000000000)+(u.getD ((j+b.length)-1) 0)) / (v.getD (b.length-1) 0)))),(13,(gL ((((u.getD (j+b.length) 0)*1000000000)+(u.getD ((j+b.length)-1) 0)) % (v.getD (b.length-1) 0))))] [] mo (wM<|wM<|wM<|wE (oSb (b.length-1))<|wE (cB kJ (b.length-1) (0:Nat))<|wE (dK qP)<|wE (cA yU yJ (v.getD (b.length-1) 0))<|wE (oQu ((((u.getD (j+b.length) 0)*1000000000)+(u.getD ((j+b.length)-1) 0)) / (v.getD (b.length-1) 0)))<|wM<|wM<|wM<|wE (oSb (b.length-1))<|wE (cB kJ (b.length-1) (0:Nat))<|wE (dK qP)<|wE (cA yU yJ (v.getD (b.length-1) 0))<|wE (oRe ((((u.getD (j+b.length) 0)*1000000000)+(u.getD ((j+b.length)-1) 0)) % (v.getD (b.length-1) 0)))<|wM<|wM<|wZ) ?_
   refine pwp_seqjoin (α:=Nat × Nat) (λ(G,R)=>⟨[(4,(.own 1 107 1 ((u0++[0]).length-b.length))),(6,(iT (dL b))),(7,(.own 0 107 1 ((u0++[0]).length))),(8,(vl 107 1 jC v)),(9,(kE b.length)),(10,(kE j)),(12,(gL G))],[(0,some (bm jC u)),(1,some (bm jC q))]⟩) (λ(G,R)=>G<1000000000/\val (u.drop j) / val v<=G/\G<=val (u.drop j) / val v+1) ?_ ?_
   ·refine kR (α:=Nat × Nat) (λ(G,R)=>⟨[(4,(.own 1 107 1 ((u0++[0]).length-b.length))),(6,(iT (dL b))),(7,(.own 0 107 1 ((u0++[0]).length))),(8,(vl 107 1 jC v)),(9,(kE b.length)),(10,(kE j)),(12,(gL G)),(13,(gL R))],[(0,some (bm jC u)),(1,some (bm jC q))]⟩) (λ(G,R)=>G*(v.getD (b.length-1) 0)+R=(u.getD (j+b.length) 0*1000000000+u.getD (j+b.length-1) 0)/\val (u.drop j) / val v<=G/\R<1000000000/\G<=1999999999) (λ(G,R)=>G) ((u.getD (j+b.length) 0*1000000000+u.getD (j+b.length-1) 0) / v.getD (b.length-1) 0,(u.getD (j+b.length) 0*1000000000+u.getD (j+b.length-1) 0) % v.getD (b.length-1) 0) wk ⟨by rw[Nat.mul_comm];exact Nat.div_add_mod _ _,guess_first0 z5 z4 hv1p hg3,Nat.lt_trans (Nat.mod_lt _ hv1p) hg4,guess_top hv1p z1 hg2⟩ ?_
    rintro ⟨G,R⟩ ⟨hG0,hG1,hR,hGb⟩
    have hpq:G*v.getD (b.length-2) 0<=1999999999*999999999:=Nat.mul_le_mul hGb (by omega)
    refine jB<|jB<|kd [(123,(vb (decide (1000000000<=((G:Nat):Int))||decide (((((R*1000000000)+(u.getD ((j+b.length)-2) 0)):Nat):Int)<(((G*(v.getD (b.length-2) 0)):Nat):Int)))))] [] mo ?_ ?_
    ·refine wM<|wE oGe<|wE (oV (vb (decide (1000000000<=((G:Nat):Int)))) (qA (by kernel_rfl)))<|?_
     rcases hb3:(decide (1000000000<=((G:Nat):Int))) with _ | _
     ·replace hb3:=vT hb3
      exact wM<|wM<|wM<|wE (oSb (b.length-2))<|wE (cB kJ (b.length-2) (0:Nat))<|wE (dK qP)<|wE (cA yU yJ (v.getD (b.length-2) 0))<|wE (oMl (G*(v.getD (b.length-2) 0)))<|wM<|wE (oMl (R*1000000000))<|wM<|wM<|wM<|wE (xO (j+b.length))<|wE (oSb ((j+b.length)-2))<|wE (yF kJ ((j+b.length)-2))<|wR (fE qP ((j+b.length)-2) (0:Nat))<|wE (cA yU yJ (u.getD ((j+b.length)-2) 0))<|wE (xO ((R*1000000000)+(u.getD ((j+b.length)-2) 0)))<|wE eR<|wE aK<|wZ
     ·replace hb3:=vF hb3
      exact wK<|wK<|wK<|wK<|wK<|wK<|wK<|wK<|wK<|wK<|wK<|wK<|wK<|wK<|wK<|wK<|wK<|wK<|wK<|wK<|wE nO<|wZ
    refine jD rfl (λh4=>?_) (λh4=>?_)
    ·rw[Bool.or_eq_true,decide_eq_true_eq,decide_eq_true_eq] at h4
     have hgl:=guess_less (pw_pos _) z5 z4 hG0 hG1 hv1p z2 (by omega)
     refine jF<|jH<|jB<|kx [(12,(gL (G-1)))] [] (zM<|zE (oSb (G-1))<|zM<|zZ) ?_
     refine jB<|kx [(13,(gL (R+(v.getD (b.length-1) 0))))] [] (zM<|zM<|zM<|zE (oSb (b.length-1))<|zE (cB kJ (b.length-1) (0:Nat))<|zE (dK qP)<|zE (cA yU yJ (v.getD (b.length-1) 0))<|zE (xO (R+(v.getD (b.length-1) 0)))<|zM<|zZ) ?_
     refine jB<|kx [(135,(vb (decide (1000000000<=(((R+(v.getD (b.length-1) 0)):Nat):Int)))))] [] (zM<|zE oGe<|zZ) ?_
     refine jD rfl (λh5=>?_) (λh5=>?_)
     ·replace h5:=vF h5
      refine kO ?_
      refine pjoin_exit (id:=2) (α:=Nat × Nat) (Q:=λ_ _=>True) (St:=λ(G,R)=>⟨[(4,(.own 1 107 1 ((u0++[0]).length-b.length))),(6,(iT (dL b))),(7,(.own 0 107 1 ((u0++[0]).length))),(8,(vl 107 1 jC v)),(9,(kE b.length)),(10,(kE j)),(12,(gL G))],[(0,some (bm jC u)),(1,some (bm jC q))]⟩) (I:=λ(G,R)=>G<1000000000/\val (u.drop j) / val v<=G/\G<=val (u.drop j) / val v+1) ?_
      exact ⟨(G-1,R+v.getD (b.length-1) 0),wk,(by have hd:=guess_dec hgl.2 hG0;have hgb:=guess_break hd z1 hg2 (by omega);exact ⟨hgb,hgl.1,guess_near z6 z3 hd hv1p (by omega) hgb (Nat.le_trans (Nat.mul_le_mul (show G-1<=999999999 by omega) (show v.getD (b.length-2) 0<=999999999 by omega)) (by omega))⟩)⟩
     ·replace h5:=vT h5
      refine jF ?_
      exact ⟨(G-1,R+v.getD (b.length-1) 0),wk,(by exact ⟨guess_dec hgl.2 hG0,hgl.1,by omega,by omega⟩),(by first|omega|(dsimp only;omega))⟩
    ·refine kO ?_
     refine pjoin_exit (id:=2) (α:=Nat × Nat) (Q:=λ_ _=>True) (St:=λ(G,R)=>⟨[(4,(.own 1 107 1 ((u0++[0]).length-b.length))),(6,(iT (dL b))),(7,(.own 0 107 1 ((u0++[0]).length))),(8,(vl 107 1 jC v)),(9,(kE b.length)),(10,(kE j)),(12,(gL G))],[(0,some (bm jC u)),(1,some (bm jC q))]⟩) (I:=λ(G,R)=>G<1000000000/\val (u.drop j) / val v<=G/\G<=val (u.drop j) / val v+1) ?_
     exact ⟨(G,R),wk,(by rw[Bool.or_eq_false_iff,decide_eq_false_iff_not,decide_eq_false_iff_not] at h4;exact ⟨by omega,hG1,guess_near z6 z3 hG0 hv1p (by omega) (by omega) (by omega)⟩)⟩
   ·rintro ⟨G,R⟩ ⟨hG,hG1,hG2⟩
    have hjn:j+b.length<(u0++[0]).length:=by omega
    refine jB<|kx [(14,(kE 0)),(15,(gL 0))] [] (zM<|zM<|zZ) ?_
    refine jB<|jB<|kx [(136,(kE b.length)),(137,(kE 0))] [] (zM<|zM<|zZ) ?_
    refine jH<|kR (α:=Nat × List Nat × Nat × Nat) (λ(i,u2,bo,ca)=>⟨[(4,(.own 1 107 1 ((u0++[0]).length-b.length))),(6,(iT (dL b))),(7,(.own 0 107 1 ((u0++[0]).length))),(8,(vl 107 1 jC v)),(9,(kE b.length)),(10,(kE j)),(12,(gL G)),(14,(vi ((bo:Nat):Int))),(15,(gL ca)),(136,(kE b.length)),(137,(kE i))],[(0,some (bm jC u2)),(1,some (bm jC q))]⟩) (λ(i,u2,bo,ca)=>u2.length=(u0++[0]).length/\Dig u2/\u2.take j=u.take j/\u2.drop (j+i)=u.drop (j+i)/\i<=b.length/\bo<=1/\ca<1000000000/\val ((u2.drop j).take i)+G*val (v.take i)=val ((u.drop j).take i)+pw i*(ca+bo)) (λ(i,u2,bo,ca)=>b.length-i) (0,u,0,0) wk ⟨qM,hu,rfl,rfl,Nat.zero_le _,Nat.zero_le _,by decide,by simp [val]⟩ ?_
    rintro ⟨i,u2,bo,ca⟩ ⟨hl2,hd2,ht2,hd2',hin,hbo,hca,hv2⟩
    have hgi:=hvd.getD i
    have hgu:=hd2.getD (i+j)
    have hpq:G*v.getD i 0<=999999999*999999999:=Nat.mul_le_mul (by omega) (by omega)
    refine jB<|kx [(138,(vb (decide (((i:Nat):Int)<((b.length:Nat):Int)))))] [] (zE gX<|zZ) ?_
    refine jB<|jD rfl (λh6=>?_) (λh6=>?_)
    ·replace h6:=vF h6
     have hi:i<b.length:=by omega
     refine jF<|jB<|jH<|jB<|kx [(16,(kE i))] [] (zM<|zM<|zZ) ?_
     refine jB<|kx [(17,(gL ((G*(v.getD i 0))+ca)))] [] (zM<|zM<|zM<|zE (cB kJ i (0:Nat))<|zE (dK qP)<|zE (cA yU yJ (v.getD i 0))<|zE (oMl (G*(v.getD i 0)))<|zM<|zE (xO ((G*(v.getD i 0))+ca))<|zM<|zZ) ?_
     refine jB<|kx [(15,(gL (((G*(v.getD i 0))+ca) / 1000000000)))] [] (zM<|zE (oQu (((G*(v.getD i 0))+ca) / 1000000000))<|zM<|zZ) ?_
     refine jB<|kx [(18,(vi (((((u2.getD (i+j) 0):Nat):Int)-((bo:Nat):Int))-(((((G*(v.getD i 0))+ca) % 1000000000):Nat):Int))))] [] (zM<|zM<|zM<|zE (xO (i+j))<|zE (yF kJ (i+j))<|zR (fE qP (i+j) (0:Nat))<|zE (cA yU in2 (u2.getD (i+j) 0))<|zM<|zE (zSb ((((u2.getD (i+j) 0):Nat):Int)-((bo:Nat):Int)))<|zM<|zE (oRe (((G*(v.getD i 0))+ca) % 1000000000))<|zE (cA nL in2 (((G*(v.getD i 0))+ca) % 1000000000))<|zE (zSb (((((u2.getD (i+j) 0):Nat):Int)-((bo:Nat):Int))-(((((G*(v.getD i 0))+ca) % 1000000000):Nat):Int)))<|zM<|zZ) ?_
     refine jB<|kx [(14,(kE 0))] [] (zM<|zZ) ?_
     refine jB<|jB<|kx [(165,(vb (decide ((((((u2.getD (i+j) 0):Nat):Int)-((bo:Nat):Int))-(((((G*(v.getD i 0))+ca) % 1000000000):Nat):Int))<0))))] [] (zM<|zE gX<|zZ) ?_
     refine jD rfl (λh7=>?_) (λh7=>?_)
     ·replace h7:=vF h7
      refine kx [(14,(kE 1)),(18,(vi ((((((u2.getD (i+j) 0):Nat):Int)-((bo:Nat):Int))-(((((G*(v.getD i 0))+ca) % 1000000000):Nat):Int))+1000000000)))] [] (zM<|zE (zAd ((((((u2.getD (i+j) 0):Nat):Int)-((bo:Nat):Int))-(((((G*(v.getD i 0))+ca) % 1000000000):Nat):Int))+1000000000))<|zM<|zM<|zZ) ?_
      refine kx [] [(0,some (bm jC (u2.set (i+j) ((u2.getD (i+j) 0+1000000000)-bo-(G*v.getD i 0+ca) % 1000000000))))] (zM<|zM<|zM<|zE (xO (i+j))<|zM<|zE (cA un2 gP ((u2.getD (i+j) 0+1000000000)-bo-(G*v.getD i 0+ca) % 1000000000) (hr:=by exact (wu32 (by omega) (by omega) (by omega))))<|zE (yF kJ (i+j))<|zT (fF qP (i+j) ((u2.getD (i+j) 0+1000000000)-bo-(G*v.getD i 0+ca) % 1000000000))<|zZ) ?_
      refine kx [(137,(kE (i+1)))] [] (zE (xO (i+1))<|zM<|zZ) ?_
      exact ⟨(i+1,u2.set (i+j) ((u2.getD (i+j) 0+1000000000)-bo-(G*v.getD i 0+ca) % 1000000000),1,(G*v.getD i 0+ca) / 1000000000),wk,(by obtain ⟨q1,q2,q3,q4,q5⟩:=msub_step (v:=v) (L:=(u0++[0]).length) (e:=(u2.getD (i+j) 0+1000000000)-bo-(G*v.getD i 0+ca) % 1000000000) (borrow':=1) hjn hi hl2 qM hd2 ht2 hd2' hv2 rfl (by omega) (by omega);exact ⟨q1,q2,q3,q4,by omega,by omega,by omega,q5⟩),(by first|omega|(dsimp only;omega))⟩
     ·replace h7:=vT h7
      refine jF<|kx [] [(0,some (bm jC (u2.set (i+j) (u2.getD (i+j) 0-bo-(G*v.getD i 0+ca) % 1000000000))))] (zM<|zM<|zM<|zE (xO (i+j))<|zM<|zE (cA un2 gP (u2.getD (i+j) 0-bo-(G*v.getD i 0+ca) % 1000000000) (hr:=by exact (wu32 (by omega) (by omega) (by omega))))<|zE (yF kJ (i+j))<|zT (fF qP (i+j) (u2.getD (i+j) 0-bo-(G*v.getD i 0+ca) % 1000000000))<|zZ) ?_
      refine kx [(137,(kE (i+1)))] [] (zE (xO (i+1))<|zM<|zZ) ?_
      exact ⟨(i+1,u2.set (i+j) (u2.getD (i+j) 0-bo-(G*v.getD i 0+ca) % 1000000000),0,(G*v.getD i 0+ca) / 1000000000),wk,(by obtain ⟨q1,q2,q3,q4,q5⟩:=msub_step (v:=v) (L:=(u0++[0]).length) (e:=u2.getD (i+j) 0-bo-(G*v.getD i 0+ca) % 1000000000) (borrow':=0) hjn hi hl2 qM hd2 ht2 hd2' hv2 rfl (by omega) (by omega);exact ⟨q1,q2,q3,q4,by omega,by omega,by omega,q5⟩),(by first|omega|(dsimp only;omega))⟩
    ·replace h6:=vT h6
     have hie:i=b.length:=by omega
     rw[hie] at hd2' hv2 hin
     obtain ⟨m1,m2,m3⟩:=msub_end hu hd2 hvd hvl hW hG1 hG2 hd2' hv2
     refine kO<|jB<|kx [(19,(vi (((((u2.getD (j+b.length) 0):Nat):Int)-((bo:Nat):Int))-((ca:Nat):Int))))] [] (zM<|zM<|zM<|zE (xO (j+b.length))<|zE (yF kJ (j+b.length))<|zR (fE qP (j+b.length) (0:Nat))<|zE (cA yU in2 (u2.getD (j+b.length) 0))<|zM<|zE (zSb ((((u2.getD (j+b.length) 0):Nat):Int)-((bo:Nat):Int)))<|zM<|zE (cA nL in2 ca)<|zE (zSb (((((u2.getD (j+b.length) 0):Nat):Int)-((bo:Nat):Int))-((ca:Nat):Int)))<|zM<|zZ) ?_
     refine jB<|jB<|kx [(189,(vb (decide ((((((u2.getD (j+b.length) 0):Nat):Int)-((bo:Nat):Int))-((ca:Nat):Int))<0))))] [] (zM<|zE gX<|zZ) ?_
     refine jD rfl (λh8=>?_) (λh8=>?_)
     ·replace h8:=vF h8
      obtain ⟨n1,n2,r,n3,n4,n5⟩:=m2 (by omega)
      refine jB<|kx [] [(0,some (bm jC (u2.set (j+b.length) 999999999)))] (zM<|zM<|zM<|zE (xO (j+b.length))<|zM<|zE (zAd ((((((u2.getD (j+b.length) 0):Nat):Int)-((bo:Nat):Int))-((ca:Nat):Int))+1000000000))<|zE (cA un2 gP 999999999 (hr:=by exact (wu32 (by omega) (by omega) (by omega))))<|zE (yF kJ (j+b.length))<|zT (fF qP (j+b.length) 999999999)<|zZ) ?_
      refine jB<|kx [(12,(gL (G-1)))] [] (zM<|zE (oSb (G-1))<|zM<|zZ) ?_
      refine jB<|kx [(20,(iT 0))] [] (zM<|zZ) ?_
      refine jB<|jB<|kx [(200,(kE b.length)),(201,(kE 0))] [] (zM<|zM<|zZ) ?_
      refine jH<|kR (α:=Nat × List Nat × Nat) (λ(i,u3,c)=>⟨[(4,(.own 1 107 1 ((u0++[0]).length-b.length))),(6,(iT (dL b))),(7,(.own 0 107 1 ((u0++[0]).length))),(8,(vl 107 1 jC v)),(9,(kE b.length)),(10,(kE j)),(12,(gL (G-1))),(20,(iT c)),(200,(kE b.length)),(201,(kE i))],[(0,some (bm jC u3)),(1,some (bm jC q))]⟩) (λ(i,u3,c)=>u3.length=(u0++[0]).length/\Dig u3/\u3.take j=(u2.set (j+b.length) 999999999).take j/\u3.drop (j+i)=(u2.set (j+b.length) 999999999).drop (j+i)/\i<=b.length/\c<=1/\val ((u3.drop j).take i)+pw i*c=val (((u2.set (j+b.length) 999999999).drop j).take i)+val (v.take i)) (λ(i,u3,c)=>b.length-i) (0,u2.set (j+b.length) 999999999,0) wk ⟨by simpa using hl2,hd2.set _ (by decide),rfl,rfl,Nat.zero_le _,Nat.zero_le _,by simp [val]⟩ ?_
      rintro ⟨i,u3,c⟩ ⟨hl3,hd3,ht3,hd3',hin,hc,hv3⟩
      have hgi:=hvd.getD i
      have hgu:=hd3.getD (i+j)
      have hgt:=hd3.getD (j+b.length)
      refine jB<|kx [(202,(vb (decide (((i:Nat):Int)<((b.length:Nat):Int)))))] [] (zE gX<|zZ) ?_
      refine jB<|jD rfl (λh9=>?_) (λh9=>?_)
      ·replace h9:=vF h9
       have hi:i<b.length:=by omega
       refine jF<|jB<|jH<|jB<|kx [(21,(kE i))] [] (zM<|zM<|zZ) ?_
       refine jB<|kd [(22,(iT (((u3.getD (i+j) 0)+(v.getD i 0))+c)))] [] mo (wM<|wM<|wM<|wE (xO (i+j))<|wE (yF kJ (i+j))<|wR (fE qP (i+j) (0:Nat))<|wM<|wM<|wE (cB kJ i (0:Nat))<|wE (dK qP)<|wE (xO ((u3.getD (i+j) 0)+(v.getD i 0)))<|wM<|wE (xO (((u3.getD (i+j) 0)+(v.getD i 0))+c))<|wM<|wZ) ?_
       refine jB<|kx [(20,(iT 0))] [] (zM<|zZ) ?_
       refine jB<|jB<|kx [(218,(vb (decide (1000000000<=(((((u3.getD (i+j) 0)+(v.getD i 0))+c):Nat):Int)))))] [] (zM<|zE oGe<|zZ) ?_
       refine jD rfl (λh10=>?_) (λh10=>?_)
       ·replace h10:=vF h10
        refine kx [(20,(iT 1)),(22,(iT ((((u3.getD (i+j) 0)+(v.getD i 0))+c)-1000000000)))] [] (zM<|zE (oSb ((((u3.getD (i+j) 0)+(v.getD i 0))+c)-1000000000))<|zM<|zM<|zZ) ?_
        refine kx [] [(0,some (bm jC (u3.set (i+j) ((((u3.getD (i+j) 0)+(v.getD i 0))+c)-1000000000))))] (zM<|zM<|zM<|zE (xO (i+j))<|zM<|zE (yF kJ (i+j))<|zT (fF qP (i+j) ((((u3.getD (i+j) 0)+(v.getD i 0))+c)-1000000000))<|zZ) ?_
        refine kx [(201,(kE (i+1)))] [] (zE (xO (i+1))<|zM<|zZ) ?_
        exact ⟨(i+1,u3.set (i+j) (u3.getD (i+j) 0+v.getD i 0+c-1000000000),1),wk,(by obtain ⟨q1,q2,q3,q4,q5⟩:=addb_step (v:=v) (L:=(u0++[0]).length) (s:=u3.getD (i+j) 0+v.getD i 0+c) (e:=u3.getD (i+j) 0+v.getD i 0+c-1000000000) (c':=1) hjn hi hl3 (by simpa using hl2) hd3 ht3 hd3' hv3 rfl (by omega) (by omega);exact ⟨q1,q2,q3,q4,by omega,by omega,q5⟩),(by first|omega|(dsimp only;omega))⟩
       ·replace h10:=vT h10
        refine jF<|kx [] [(0,some (bm jC (u3.set (i+j) (((u3.getD (i+j) 0)+(v.getD i 0))+c))))] (zM<|zM<|zM<|zE (xO (i+j))<|zM<|zE (yF kJ (i+j))<|zT (fF qP (i+j) (((u3.getD (i+j) 0)+(v.getD i 0))+c))<|zZ) ?_
        refine kx [(201,(kE (i+1)))] [] (zE (xO (i+1))<|zM<|zZ) ?_
        exact ⟨(i+1,u3.set (i+j) (u3.getD (i+j) 0+v.getD i 0+c),0),wk,(by obtain ⟨q1,q2,q3,q4,q5⟩:=addb_step (v:=v) (L:=(u0++[0]).length) (s:=u3.getD (i+j) 0+v.getD i 0+c) (e:=u3.getD (i+j) 0+v.getD i 0+c) (c':=0) hjn hi hl3 (by simpa using hl2) hd3 ht3 hd3' hv3 rfl (by omega) (by omega);exact ⟨q1,q2,q3,q4,by omega,by omega,q5⟩),(by first|omega|(dsimp only;omega))⟩
      ·replace h9:=vT h9
       have hie2:i=b.length:=by omega
       rw[hie2] at hd3' hv3 hin
       refine kO<|kx [] [(0,some (bm jC (u3.set (j+b.length) (((u3.getD (j+b.length) 0)+c) % 1000000000))))] (zM<|zM<|zM<|zE (xO (j+b.length))<|zM<|zM<|zM<|zE (xO (j+b.length))<|zE (yF kJ (j+b.length))<|zR (fE qP (j+b.length) (0:Nat))<|zM<|zE (xO ((u3.getD (j+b.length) 0)+c))<|zE (oRe (((u3.getD (j+b.length) 0)+c) % 1000000000))<|zE (yF kJ (j+b.length))<|zT (fF qP (j+b.length) (((u3.getD (j+b.length) 0)+c) % 1000000000))<|zZ) ?_
       refine kx [] [(1,some (bm jC (q.set j (G-1))))] (zM<|zM<|zM<|zE (cA nL gP (G-1))<|zE (yF kJ j)<|zT (fF qP j (G-1))<|zZ) ?_
       refine kx [(10,(vi (((j:Nat):Int)-1)))] [] (zM<|zE (zSb (((j:Nat):Int)-1))<|zM<|zZ) ?_
       exact ⟨(j,u3.set (j+b.length) ((u3.getD (j+b.length) 0+c) % 1000000000),q.set j (G-1)),wk,(by obtain ⟨p1,p2⟩:=neg_end hd3 hvd hvl (by omega) (by omega) (hl2.trans qM.symm) (hl3.trans qM.symm) ht2 hd2' hW hc ht3 hd3' hv3 n3 n4 n5 hU;exact ⟨by simpa using hl3,hd3.set _ (Nat.mod_lt _ (by decide)),by simpa using hql,hqd.set _ (by omega),by omega,p1,p2⟩),(by first|omega|(dsimp only;omega))⟩
     ·replace h8:=vT h8
      obtain ⟨n1,n2,n3⟩:=m3 (by omega)
      refine kx [] [(0,some (bm jC (u2.set (j+b.length) 0)))] (zM<|zM<|zM<|zE (xO (j+b.length))<|zM<|zE (cA un2 gP 0 (hr:=by exact (wu32 (by omega) (by omega) (by omega))))<|zE (yF kJ (j+b.length))<|zT (fF qP (j+b.length) 0)<|zZ) ?_
      refine kx [] [(1,some (bm jC (q.set j G)))] (zM<|zM<|zM<|zE (cA nL gP G)<|zE (yF kJ j)<|zT (fF qP j G)<|zZ) ?_
      refine kx [(10,(vi (((j:Nat):Int)-1)))] [] (zM<|zE (zSb (((j:Nat):Int)-1))<|zM<|zZ) ?_
      exact ⟨(j,u2.set (j+b.length) 0,q.set j G),wk,(by obtain ⟨p1,p2⟩:=pos_end hu hvd hvl (by omega) (by omega) (hl2.trans qM.symm) ht2 hd2' hW n2 n3 hU;exact ⟨by simpa using hl2,hd2.set _ (by decide),by simpa using hql,hqd.set _ (by omega),by omega,p1,p2⟩),(by first|omega|(dsimp only;omega))⟩
  ·replace h2:=vT h2
   obtain rfl:k=0:=by omega
   obtain ⟨e1,e2⟩:=scl_div hdb (by omega) (by rw[hvv] at hU;exact hU) (by rw[hvv] at hW;exact hW)
   rw[drop_zero] at hW
   refine kO<|jB<|kS (xY (t:=7) (k:=0) (es:=map jC u) rfl rfl (vX _ _ (λ_=>rfl)) (vK _ _ qM) (xV _ _ (λ_=>rfl) qM)) ?_
   refine kx [(5,(vl 107 1 jC (ofNat (val (ofNat (val (List.take b.length u))) / (dL b)))))] [] (zM<|zM<|zE (e_slc (l:=0) (h:=b.length) (kl:=.i64) (kh:=.i64) (es':=map jC (List.take b.length u)) (by exact rfl) kJ (by exact rfl) (by exact rfl) (by exact rfl) (Nat.zero_le _) (by simp only[length_map];omega) (by rw[drop_zero,map_take]))<|zE (kB (t_trim (List.take b.length u) (hu.take _) (by rw[length_take];omega)))<|zM<|zE (kB (t_short (ofNat (val (List.take b.length u))) (dL b) (kI _) (by omega) (by omega) (Nat.le_trans (ofNat_val_len (hu.take _)) (by rw[length_take];omega))))<|zM<|zE zP<|zE zP<|zM<|zZ) ?_
   refine jB<|kS (xY (t:=4) (k:=1) (es:=map jC q) rfl rfl (vX _ _ (λ_=>rfl)) (vK _ _ hql) (xV _ _ (λ_=>rfl) hql)) ?_
   refine kx [(4,(vl 107 1 jC (ofNat (val q)))),(5,(vl 107 1 jC (ofNat (val (ofNat (val (List.take b.length u))) / (dL b)))))] [] (zM<|zE (kB (t_trim q hqd (by omega)))<|zM<|zM<|zM<|zZ) ?_
   refine jE ⟨_,(.tmp (d:=(.sl 107 1 (map jC (ofNat (val q))))) rfl (.tmp (d:=(.sl 107 1 (map jC (ofNat (val (ofNat (val (List.take b.length u))) / (dL b)))))) rfl .nil)),?_⟩
   rw[<- e1,<- e2,kH,val_take_of_lt (Nat.lt_trans hW (by rw[<- hvl];exact xB hvd))];rfl
theorem t_over(a b:List Nat)(ha:gG a)(hb:gG b)(hb0:0<val b)(hla:a.length<=1099511627776)(hlb:b.length<=1099511627776):jP prog 157 [(.sl 107 1 (map jC a)),(.sl 107 1 (map jC b))] (.tup [(.sl 107 1 (map jC (ofNat (val a / val b)))),(.sl 107 1 (map jC (ofNat (val a % val b))))]):=by
 refine vD func157 ?_
 refine jB<|kx [] [] (zE (aN 107 1)<|zE (aN 107 1)<|zZ) ?_
 refine jB<|jB<|kx [(15,(vb (decide ((uY ((val a:Nat):Int) ((val b:Nat):Int))<0))))] [] (zM<|zM<|zE (kB (t_compare a b ha hb (by omega)))<|zE gX<|zZ) ?_
 refine jD rfl (λh1=>?_) (λh1=>?_)
 ·replace h1:=vF h1
  refine jB<|kx [(4,(vl 107 1 jC [])),(5,(vl 107 1 jC a))] [] (zM<|zE (aN 107 1)<|zM<|zZ) ?_
  refine jE ⟨_,(.tmp (d:=(.sl 107 1 (map jC []))) rfl (.tmp (d:=(.sl 107 1 (map jC a))) rfl .nil)),?_⟩
  have hlt:=cmpI_neg h1
  rw[Nat.div_eq_of_lt hlt,Nat.mod_eq_of_lt hlt,uC,<- can_eq ha];rfl
 ·replace h1:=vT h1
  refine jF<|jB<|kx [(6,(gL (yK a))),(7,(vb (mZ a)))] [] (zM<|zE (kB (t_word a ha.1))<|zM<|zE zP<|zE zP<|zM<|zM<|zZ) ?_
  refine jB<|kx [(8,(gL (yK b))),(9,(vb (mZ b)))] [] (zM<|zE (kB (t_word b hb.1))<|zM<|zE zP<|zE zP<|zM<|zM<|zZ) ?_
  refine jB<|jB<|kx [(30,(vb ((mZ a)&&(mZ b))))] [] ?_ ?_
  ·refine zM<|zE (oV (vb (mZ a)) (qA (by kernel_rfl)))<|?_
   rcases hb2:(mZ a) with _ | _
   ·exact zK<|zE yD<|zZ
   ·exact zM<|zE fL<|zZ
  refine jD (b:=((mZ a)&&(mZ b))) rfl (λh3=>?_) (λh3=>?_)
  ·obtain ⟨w1,w2,w3⟩:=word_both ha.1 h3
   have w4:yK a / yK b<18446744073709551616:=Nat.lt_of_le_of_lt (Nat.div_le_self _ _) (by omega)
   have w5:yK a % yK b<18446744073709551616:=Nat.lt_of_le_of_lt (Nat.mod_le _ _) (by omega)
   refine jB<|kd [(4,(vl 107 1 jC (ofNat ((yK a) / (yK b))))),(5,(vl 107 1 jC (ofNat ((yK a) % (yK b)))))] [] mo (wM<|wM<|wE (oQu ((yK a) / (yK b)))<|wE (kB (t_split ((yK a) / (yK b)) (by omega)))<|wM<|wM<|wE (oRe ((yK a) % (yK b)))<|wE (kB (t_split ((yK a) % (yK b)) (by omega)))<|wM<|wM<|wZ) ?_
   refine jE ⟨_,(.tmp (d:=(.sl 107 1 (map jC (ofNat ((yK a) / (yK b)))))) rfl (.tmp (d:=(.sl 107 1 (map jC (ofNat ((yK a) % (yK b)))))) rfl .nil)),?_⟩
   rw[w1,w2];rfl
  ·refine jF<|jB<|jB<|kx [(41,(vb (((b.length:Nat):Int) == 1)))] [] (zM<|zE (yA kJ)<|zE xL<|zZ) ?_
   refine jD (b:=(((b.length:Nat):Int) == 1)) rfl (λh4=>?_) (λh4=>?_)
   ·replace h4:=eq_of_beq h4
    have hv1:=val_len1 (b:=b) (by omega)
    have hg:=hb.1.getD 0
    have w5:val a % b.getD 0 0<4294967296:=Nat.lt_trans (Nat.mod_lt _ (by omega)) (by omega)
    refine jB<|kx [(10,(vl 107 1 jC (ofNat (val a / (b.getD 0 0))))),(11,(iT (val a % (b.getD 0 0))))] [] (zM<|zM<|zE (cB kJ 0 (0:Nat))<|zE (dK qP)<|zE (kB (t_short a (b.getD 0 0) ha.1 (by omega) (by omega) (by omega)))<|zM<|zE zP<|zE zP<|zM<|zM<|zZ) ?_
    refine jB<|kx [(4,(vl 107 1 jC (ofNat (val a / (b.getD 0 0))))),(5,(vl 107 1 jC (ofNat (val a % (b.getD 0 0)))))] [] (zM<|zM<|zE (cA yU yJ (val a % (b.getD 0 0)))<|zE (kB (t_split (val a % (b.getD 0 0)) (by omega)))<|zM<|zM<|zZ) ?_
    refine jE ⟨_,(.tmp (d:=(.sl 107 1 (map jC (ofNat (val a / (b.getD 0 0)))))) rfl (.tmp (d:=(.sl 107 1 (map jC (ofNat (val a % (b.getD 0 0)))))) rfl .nil)),?_⟩
    rw[hv1];rfl
   ·replace h4:=ne_of_beq_false h4
    have hbl:=val_pos_len hb0
    refine jF<|jB<|kx [(4,(vl 107 1 jC (ofNat (val a / val b)))),(5,(vl 107 1 jC (ofNat (val a % val b))))] [] (zM<|zM<|zE (kB (t_long a b ha hb (by omega) (cmpI_nn h1) (by omega)))<|zE zP<|zE zP<|zM<|zM<|zZ) ?_
    refine jE ⟨_,(.tmp (d:=(.sl 107 1 (map jC (ofNat (val a / val b))))) rfl (.tmp (d:=(.sl 107 1 (map jC (ofNat (val a % val b))))) rfl .nil)),?_⟩
    rfl
theorem t_divideI(x y:kW)(hx:x.gs.length<=1099511627776)(hy:y.gs.length<=1099511627776)(hy0:jV y≠0):jP prog 160 [(jQ x),(jQ y)] (.tup [(jQ (kN ((jV x).fdiv (jV y)))),(jQ (kN ((jV x).fmod (jV y)))),(.val (.int .i64 (0)))]):=by
 have hgx:=qJ x
 have hlx:=gH x
 have hgy:=qJ y
 have hly:=gH y
 have hn:0<val (kQ y):=by have:=lF y;omega
 have hq:=len_quo (kQ x) hgx (val (kQ y))
 have hr:=len_rem (kQ x) hgx (val (kQ y))
 have hrn:=Nat.mod_lt (val (kQ x)) hn
 refine vD func160 ?_
 refine jB<|kx [(2,(.ref 0 0)),(3,(.ref 1 0)),(4,(.ref 2 0)),(5,(.ref 3 0))] [(0,some (bx (jQ x))),(1,some (bx (jQ y))),(2,some (bx (jQ (kW.mk false [])))),(3,some (bx (jQ (kW.mk false []))))] (zN (xD 0)<|zN (xD 1)<|zN (vB 2 nT nY)<|zN (vB 3 nT nY)<|zM<|zZ) ?_
 refine jB<|kd [(7,(vl 107 1 jC (kQ x))),(8,(vl 107 1 jC (kQ y)))] [] mo (wR (kP kG)<|wE (kB (hZ x (by omega)))<|wR (kP kG)<|wE (kB (hZ y (by omega)))<|wM<|wM<|wZ) ?_
 refine jB<|jB<|kx [(17,(vb ((((kQ y).length:Nat):Int) == 0)))] [] (zM<|zE (yA kJ (L:=(kQ y)))<|zE xL<|zZ) ?_
 refine jD (b:=((((kQ y).length:Nat):Int) == 0)) rfl (λh1=>?_) (λh1=>?_)
 ·replace h1:=eq_of_beq h1
  exact absurd (toZ_nil h1) hy0
 ·replace h1:=ne_of_beq_false h1
  refine jF<|jB<|kx [(9,(vl 107 1 jC (ofNat (val (kQ x) / val (kQ y))))),(10,(vl 107 1 jC (ofNat (val (kQ x) % val (kQ y)))))] [] (zM<|zM<|zE (kB (t_over (kQ x) (kQ y) hgx hgy (by omega) (by omega) (by omega)))<|zM<|zE zP<|zE zP<|zM<|zM<|zZ) ?_
  refine jB<|kx [(10,(vl 107 1 jC (ofNat (val (kQ x) % val (kQ y)))))] [] (zM<|zE (kB (t_clone (ofNat (val (kQ x) % val (kQ y))) (by omega)))<|zM<|zZ) ?_
  refine jB<|jB<|kx [(37,(vb (decide (0<(((ofNat (val (kQ x) % val (kQ y))).length:Nat):Int))&&!(x.neg == y.neg))))] [] ?_ ?_
  ·refine zM<|zE (yA kJ (L:=(ofNat (val (kQ x) % val (kQ y)))))<|zE eR<|zE (oV (vb (decide (0<(((ofNat (val (kQ x) % val (kQ y))).length:Nat):Int)))) (qA (by kernel_rfl)))<|?_
   rcases hb2:(decide (0<(((ofNat (val (kQ x) % val (kQ y))).length:Nat):Int))) with _ | _
   ·replace hb2:=vT hb2
    exact zK<|zK<|zK<|zK<|zK<|zE yD<|zZ
   ·replace hb2:=vF hb2
    exact zE (kK vN)<|zR (qH aT)<|zE (kK vN)<|zR (qH aT)<|zE (oNb bo4)<|zE fL<|zZ
  refine jD rfl (λh3=>?_) (λh3=>?_)
  ·have e1:(ofNat (val (ofNat (val (kQ x) / val (kQ y)))+val [1])).length<=1099511627777:=uF (by rw[kH,cZ];have:=ofNat_lt_pw (val (kQ x) / val (kQ y));have h3:pw (ofNat (val (kQ x) / val (kQ y))).length<=pw 1099511627776:=nQ (by omega);have h4:=pw_lt (show 1099511627776<1099511627777 by decide);omega)
   have e2:=sub_len (b:=ofNat (val (kQ x) % val (kQ y))) hgy.1
   rw[Bool.and_eq_true,decide_eq_true_eq,Bool.not_eq_true',beq_eq_false_iff_ne] at h3
   obtain ⟨k1,k2⟩:=h3
   have k3:0<val (kQ x) % val (kQ y):=by have:=cR (qF (val (kQ x) % val (kQ y))) (by omega);rwa [kH] at this
   obtain ⟨d1,d2⟩:=div_other hn k2 k3
   refine kx [(9,(vl 107 1 jC (ofNat (val (ofNat (val (kQ x) / val (kQ y)))+val [1])))),(10,(vl 107 1 jC (ofNat (val (kQ y)-val (ofNat (val (kQ x) % val (kQ y)))))))] [] (zM<|zE (fC kJ xA yR)<|zE (kB (t_plus (ofNat (val (kQ x) / val (kQ y))) [1] (kI _) (yO.2 ⟨by decide,gU⟩) (by omega) (by decide)))<|zM<|zM<|zE (kB (t_minus (kQ y) (ofNat (val (kQ x) % val (kQ y))) hgy.1 (kI _) (by rw[kH];omega) (by omega)))<|zM<|zM<|zZ) ?_
   refine jB<|kd [(6,(kE 0))] [(2,some (bx (jQ (xU (!(x.neg == y.neg)) (val (ofNat (val (ofNat (val (kQ x) / val (kQ y)))+val [1]))))))),(3,some (bx (jQ (xU y.neg (val (ofNat (val (kQ y)-val (ofNat (val (kQ x) % val (kQ y))))))))))] mo (wE (kK vN)<|wR (qH aT)<|wE (kK vN)<|wR (qH aT)<|wE (oNb bo4)<|wM<|wE (kB (dY (!(x.neg == y.neg)) (ofNat (val (ofNat (val (kQ x) / val (kQ y)))+val [1])) (kI _) (by omega)))<|wE (kK vN)<|wR (qH aT)<|wM<|wE (kB (dY y.neg (ofNat (val (kQ y)-val (ofNat (val (kQ x) % val (kQ y))))) (kI _) (by omega)))<|wT (qL kG)<|wT (qL kG)<|wM<|wZ) ?_
   refine jE ⟨_,(kM (cs:=(bx (jQ (xU (!(x.neg == y.neg)) (val (ofNat (val (ofNat (val (kQ x) / val (kQ y)))+val [1]))))))) (d:=(jQ (xU (!(x.neg == y.neg)) (val (ofNat (val (ofNat (val (kQ x) / val (kQ y)))+val [1])))))) rfl rfl kG rfl rfl (kM (cs:=(bx (jQ (xU y.neg (val (ofNat (val (kQ y)-val (ofNat (val (kQ x) % val (kQ y)))))))))) (d:=(jQ (xU y.neg (val (ofNat (val (kQ y)-val (ofNat (val (kQ x) % val (kQ y))))))))) rfl rfl kG rfl rfl (.tmp (d:=(.val (.int .i64 (0)))) rfl .nil))),?_⟩
   unfold jV
   rw[d1,d2]
   simp only[kH,cZ]
   rfl
  ·obtain ⟨d1,d2⟩:=div_same (b:=x.neg) (c:=y.neg) (m:=val (kQ x)) hn (by rw[Bool.and_eq_false_iff,decide_eq_false_iff_not,Bool.not_eq_false',beq_iff_eq] at h3;rcases h3 with k | k;right;have:=eH (n:=val (kQ x) % val (kQ y));omega;exact .inl k)
   refine jF<|jB<|kd [(6,(kE 0))] [(2,some (bx (jQ (xU (!(x.neg == y.neg)) (val (ofNat (val (kQ x) / val (kQ y)))))))),(3,some (bx (jQ (xU y.neg (val (ofNat (val (kQ x) % val (kQ y))))))))] mo (wE (kK vN)<|wR (qH aT)<|wE (kK vN)<|wR (qH aT)<|wE (oNb bo4)<|wM<|wE (kB (dY (!(x.neg == y.neg)) (ofNat (val (kQ x) / val (kQ y))) (kI _) (by omega)))<|wE (kK vN)<|wR (qH aT)<|wM<|wE (kB (dY y.neg (ofNat (val (kQ x) % val (kQ y))) (kI _) (by omega)))<|wT (qL kG)<|wT (qL kG)<|wM<|wZ) ?_
   refine jE ⟨_,(kM (cs:=(bx (jQ (xU (!(x.neg == y.neg)) (val (ofNat (val (kQ x) / val (kQ y)))))))) (d:=(jQ (xU (!(x.neg == y.neg)) (val (ofNat (val (kQ x) / val (kQ y))))))) rfl rfl kG rfl rfl (kM (cs:=(bx (jQ (xU y.neg (val (ofNat (val (kQ x) % val (kQ y)))))))) (d:=(jQ (xU y.neg (val (ofNat (val (kQ x) % val (kQ y))))))) rfl rfl kG rfl rfl (.tmp (d:=(.val (.int .i64 (0)))) rfl .nil))),?_⟩
   unfold jV
   rw[d1,d2]
   simp only[kH]
   rfl
theorem t_gcdI(x y:kW)(hx:x.gs.length<=1099511627776)(hy:y.gs.length<=1099511627776):jP prog 86 [(jQ x),(jQ y)] (jQ (kN ((Int.gcd (jV x) (jV y):Nat):Int))):=by
 have hgx:=qJ x
 have hlx:=gH x
 have hgy:=qJ y
 have hly:=gH y
 refine vD func86 ?_
 refine jB<|kx [(2,(.ref 0 0)),(3,(.ref 1 0)),(4,(.ref 2 0))] [(0,some (bx (jQ x))),(1,some (bx (jQ y))),(2,some (bx (jQ (kW.mk false []))))] (zN (xD 0)<|zN (xD 1)<|zN (vB 2 nT nY)<|zZ) ?_
 refine jB<|kd [(5,(vl 107 1 jC (kQ x))),(6,(vl 107 1 jC (kQ y)))] [] mo (wR (kP kG)<|wE (kB (hZ x (by omega)))<|wR (kP kG)<|wE (kB (hZ y (by omega)))<|wM<|wM<|wZ) ?_
 refine jB<|jH<|kR (α:=List Nat × List Nat) (λ(a,b)=>⟨[(4,(.ref 2 0)),(5,(vl 107 1 jC a)),(6,(vl 107 1 jC b))],[(2,some (bx (jQ (kW.mk false []))))]⟩) (λ(a,b)=>gG a/\gG b/\a.length<=1099511627776/\b.length<=1099511627776/\Nat.gcd (val a) (val b)=Int.gcd (jV x) (jV y)) (λ(a,b)=>val b) (kQ x,kQ y) wk ⟨hgx,hgy,by omega,by omega,gcd_toZ x y⟩ ?_
 rintro ⟨a,b⟩ ⟨ha,hb,hla,hlb,hg⟩
 refine jB<|jB<|kx [(19,(vb (decide (0<((b.length:Nat):Int)))))] [] (zM<|zE (yA kJ)<|zE eR<|zZ) ?_
 refine jD (b:=decide (0<((b.length:Nat):Int))) rfl (λh1=>?_) (λh1=>?_)
 ·replace h1:=vF h1
  have hb0:=cR hb (by omega)
  refine jF<|jH<|jB<|kx [(7,(gL (yK a))),(8,(vb (mZ a)))] [] (zM<|zE (kB (t_word a ha.1))<|zM<|zE zP<|zE zP<|zM<|zM<|zZ) ?_
  refine jB<|kx [(9,(gL (yK b))),(10,(vb (mZ b)))] [] (zM<|zE (kB (t_word b hb.1))<|zM<|zE zP<|zE zP<|zM<|zM<|zZ) ?_
  refine jB<|jB<|kx [(33,(vb ((mZ a)&&(mZ b))))] [] ?_ ?_
  ·refine zM<|zE (oV (vb (mZ a)) (qA (by kernel_rfl)))<|?_
   rcases hb2:(mZ a) with _ | _
   ·exact zK<|zE yD<|zZ
   ·exact zM<|zE fL<|zZ
  refine jD (b:=((mZ a)&&(mZ b))) rfl (λh3=>?_) (λh3=>?_)
  ·obtain ⟨w1,w2,w3⟩:=word_both ha.1 h3
   have w4:val b<1000000000000000000:=by rw[Bool.and_eq_true] at h3;exact val_len2 hb.1 (vF h3.2)
   refine jB<|jH<|kR (α:=Nat × Nat) (λ(m,n)=>⟨[(4,(.ref 2 0)),(7,(gL m)),(9,(gL n))],[(2,some (bx (jQ (kW.mk false []))))]⟩) (λ(m,n)=>m<1000000000000000000/\n<1000000000000000000/\Nat.gcd m n=Int.gcd (jV x) (jV y)) (λ(m,n)=>n) (yK a,yK b) wk ⟨by omega,by omega,by rw[w1,w2];exact hg⟩ ?_
   rintro ⟨m,n⟩ ⟨hm,hn,hg2⟩
   refine jB<|jB<|kx [(35,(vb (decide (0<((n:Nat):Int)))))] [] (zM<|zE eR<|zZ) ?_
   refine jD (b:=decide (0<((n:Nat):Int))) rfl (λh4=>?_) (λh4=>?_)
   ·replace h4:=vF h4
    refine jF<|jH<|kd [(7,(gL n)),(9,(gL (m % n)))] [] mo (wM<|wM<|wM<|wE (oRe (m % n))<|wM<|wM<|wZ) ?_
    exact ⟨(n,m % n),wk,⟨hn,Nat.lt_of_le_of_lt (Nat.mod_le _ _) hm,by rw[<- hg2,Nat.gcd_comm,<- Nat.gcd_rec,Nat.gcd_comm]⟩,(by dsimp only;exact Nat.mod_lt _ (by omega))⟩
   ·replace h4:=vT h4
    obtain rfl:n=0:=by omega
    rw[Nat.gcd_zero_right] at hg2
    refine kO<|jB<|kx [] [(2,some (bx (jQ (xU false (val (ofNat m))))))] (zM<|zE (kB (t_split m (by omega)))<|zE (kB (dY false (ofNat m) (kI _) (Nat.le_trans (aB (by omega)) (by decide))))<|zT (qL kG)<|zZ) ?_
    refine jE ⟨_,(kM (cs:=(bx (jQ (xU false (val (ofNat m)))))) (d:=(jQ (xU false (val (ofNat m))))) rfl rfl kG rfl rfl .nil),?_⟩
    rw[<- hg2,kH,mkI_false];rfl
  ·refine jF<|jB<|kx [(12,(vl 107 1 jC (ofNat (val a % val b))))] [] (zM<|zM<|zE (kB (t_over a b ha hb hb0 (by omega) (by omega)))<|zM<|zE zP<|zE zP<|zM<|zM<|zZ) ?_
   refine kx [(5,(vl 107 1 jC b)),(6,(vl 107 1 jC (ofNat (val a % val b))))] [] (zM<|zM<|zM<|zM<|zZ) ?_
   exact ⟨(b,ofNat (val a % val b)),wk,⟨hb,qF _,hlb,Nat.le_trans (len_rem a ha _) hla,by rw[kH,<- hg,Nat.gcd_comm,<- Nat.gcd_rec,Nat.gcd_comm]⟩,(by dsimp only;rw[kH];exact Nat.mod_lt _ hb0)⟩
 ·replace h1:=vT h1
  have hb1:b=[]:=eq_nil_of_length_eq_zero (by omega)
  rw[hb1,val_nil,Nat.gcd_zero_right] at hg
  refine kO<|jB<|kx [] [(2,some (bx (jQ (xU false (val a)))))] (zM<|zE (kB (t_clone a (by omega)))<|zE (kB (dY false a ha.1 (by omega)))<|zT (qL kG)<|zZ) ?_
  refine jE ⟨_,(kM (cs:=(bx (jQ (xU false (val a))))) (d:=(jQ (xU false (val a)))) rfl rfl kG rfl rfl .nil),?_⟩
  rw[<- hg,mkI_false];rfl
end Go.Proofs.YtckccjhflbljgaaGreatDoor
