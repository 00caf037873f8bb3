/- Part 19 of a proof: rules, plain facts, and functions walked. -/
import Derived.Test.YtnajallgoaiahaaGreatDoorM18
import Derived.Test.YtnajallgoaiahaaGreatDoorM11
import Derived.Test.YtnajallgoaiahaaGreatDoorM9
import Derived.Test.YtnajallgoaiahaaGreatDoorM10
set_option linter.all false
set_option maxRecDepth 4000
namespace Go.Proofs.YtnajallgoaiahaaGreatDoor
open Go.Fid
theorem cb39:callB Tryz.prog 39=true:=by kernel_rfl
theorem cb40:callB Tryz.prog 40=true:=by kernel_rfl
theorem cb100:callB Tryz.prog 100=true:=by kernel_rfl
theorem cb114:callB Tryz.prog 114=true:=by kernel_rfl
theorem cb115:callB Tryz.prog 115=true:=by kernel_rfl
theorem cb167:callB Tryz.prog 167=true:=by kernel_rfl
theorem h_hasR(a:jV)(p:Rat)(q:Rat)(hp:gW a.lo p 4294967296)(hq:gW a.hi q 4294967296)(x:jQ)(v:Rat)(hx:gW x v 4294967296):jR Tryz.prog 55 [(jF a),(jK x)] (.val (.bool ((hasQ p q v)))):=by
 refine jJ Tryz.func55 rfl cb55 rfl ?_
 show qG _ _ _ _ ⟨[(0,(.d (jF a))),(1,(.d (jK x)))],[]⟩
 refine jB<|kx [(2,(.ref 0 0)),(3,(.ref 1 0))] [(0,some (bx (jF a))),(1,some (bx (jK x)))] (zN (vA 0)<|zN (vA 1)<|zM<|zZ) ?_
 refine jB<|kx [(4,(vb (decide ((yC p v)≤0)&&decide ((yC v q)≤0))))] [] ?_ ?_
 ·refine zE (kY vK)<|zR (kK jS)<|zR (kK jS)<|zE (jY (bY a.lo x p v hp hx))<|zE oLe<|zE (oV (vb (decide ((yC p v)≤0))) (qC (by kernel_rfl)))<|?_
  rcases hb1:(decide ((yC p v)≤0)) with _ | _
  ·replace hb1:=uR hb1
   exact zK<|zK<|zK<|zK<|zK<|zE yP<|zM<|zZ
  ·replace hb1:=uP hb1
   exact zR (kK jS)<|zE (kY vY)<|zR (kK jS)<|zE (jY (bY x a.hi v q hx hq))<|zE oLe<|zE fA<|zM<|zZ
 refine jE ⟨_,(.tmp (d:=(.val (.bool ((decide ((yC p v)≤0)&&decide ((yC v q)≤0)))))) rfl .nil),?_⟩
 rw[← hasQ_eq];rfl
theorem h_neg(a:jV)(p:Rat)(q:Rat)(hp:gW a.lo p 4294967296)(hq:gW a.hi q 4294967296):jR Tryz.prog 100 [(jF a)] (jF (jV.mk (jN (-q)) (jN (-p)))):=by
 refine jJ Tryz.func100 rfl cb100 rfl ?_
 show qG _ _ _ _ ⟨[(0,(.d (jF a)))],[]⟩
 refine jB<|kx [(1,(.ref 0 0)),(2,(.ref 1 0))] [(0,some (bx (jF a))),(1,some (bx (jF (jV.mk kZ kZ))))] (zN (vA 0)<|zN (qV 1 qO qS)<|zZ) ?_
 refine jB<|kd [] [(1,some (bx (jF (jV.mk (jN (-q)) (jN (-p))))))] mo (wE (kY vY)<|wR (kK jS)<|wE (jY (g_neg a.hi q (jO hq (by decide))))<|wE (kY vK)<|wR (kK jS)<|wE (jY (g_neg a.lo p (jO hp (by decide))))<|wE (eX pl61 qO qS)<|wT (qA jW)<|wZ) ?_
 refine jE ⟨_,(kH (cs:=(bx (jF (jV.mk (jN (-q)) (jN (-p)))))) (d:=(jF (jV.mk (jN (-q)) (jN (-p))))) rfl rfl jW rfl rfl .nil),?_⟩
 rfl
theorem h_add(a:jV)(p:Rat)(q:Rat)(hp:gW a.lo p 1073741824)(hq:gW a.hi q 1073741824)(b:jV)(r:Rat)(s:Rat)(hr:gW b.lo r 1073741824)(hs:gW b.hi s 1073741824):jR Tryz.prog 39 [(jF a),(jF b)] (jF (jV.mk (jN (p+r)) (jN (q+s)))):=by
 refine jJ Tryz.func39 rfl cb39 rfl ?_
 show qG _ _ _ _ ⟨[(0,(.d (jF a))),(1,(.d (jF b)))],[]⟩
 refine jB<|kx [(2,(.ref 0 0)),(3,(.ref 1 0)),(4,(.ref 2 0))] [(0,some (bx (jF a))),(1,some (bx (jF b))),(2,some (bx (jF (jV.mk kZ kZ))))] (zN (vA 0)<|zN (vA 1)<|zN (qV 2 qO qS)<|zZ) ?_
 refine jB<|kd [] [(2,some (bx (jF (jV.mk (jN (p+r)) (jN (q+s))))))] mo (wE (kY vK)<|wR (kK jS)<|wE (kY vK)<|wR (kK jS)<|wE (jY (g_add a.lo b.lo p r (jO hp (by decide)) (jO hr (by decide))))<|wE (kY vY)<|wR (kK jS)<|wE (kY vY)<|wR (kK jS)<|wE (jY (g_add a.hi b.hi q s (jO hq (by decide)) (jO hs (by decide))))<|wE (eX pl61 qO qS)<|wT (qA jW)<|wZ) ?_
 refine jE ⟨_,(kH (cs:=(bx (jF (jV.mk (jN (p+r)) (jN (q+s)))))) (d:=(jF (jV.mk (jN (p+r)) (jN (q+s))))) rfl rfl jW rfl rfl .nil),?_⟩
 rfl
theorem h_sub(a:jV)(p:Rat)(q:Rat)(hp:gW a.lo p 1073741824)(hq:gW a.hi q 1073741824)(b:jV)(r:Rat)(s:Rat)(hr:gW b.lo r 1073741824)(hs:gW b.hi s 1073741824):jR Tryz.prog 40 [(jF a),(jF b)] (jF (jV.mk (jN (p-s)) (jN (q-r)))):=by
 refine jJ Tryz.func40 rfl cb40 rfl ?_
 show qG _ _ _ _ ⟨[(0,(.d (jF a))),(1,(.d (jF b)))],[]⟩
 refine jB<|kx [(2,(.ref 0 0)),(3,(.ref 1 0)),(4,(.ref 2 0))] [(0,some (bx (jF a))),(1,some (bx (jF b))),(2,some (bx (jF (jV.mk kZ kZ))))] (zN (vA 0)<|zN (vA 1)<|zN (qV 2 qO qS)<|zZ) ?_
 refine jB<|kd [] [(2,some (bx (jF (jV.mk (jN (p+(-s))) (jN (q+(-r)))))))] mo (wR (kK jW)<|wR (kK jW)<|wE (jY (h_neg b r s (jO hr (by decide)) (jO hs (by decide))))<|wE (jY (h_add a p q hp hq (jV.mk (jN (-s)) (jN (-r))) (-s) (-r) (jZ (ql_neg hs.ql)) (jZ (ql_neg hr.ql))))<|wT (qA jW)<|wZ) ?_
 refine jE ⟨_,(kH (cs:=(bx (jF (jV.mk (jN (p+(-s))) (jN (q+(-r))))))) (d:=(jF (jV.mk (jN (p+(-s))) (jN (q+(-r)))))) rfl rfl jW rfl rfl .nil),?_⟩
 rw[Rat.sub_eq_add_neg,Rat.sub_eq_add_neg];rfl
theorem h_mul(a:jV)(p:Rat)(q:Rat)(hp:gW a.lo p 2147483648)(hq:gW a.hi q 2147483648)(b:jV)(r:Rat)(s:Rat)(hr:gW b.lo r 2147483648)(hs:gW b.hi s 2147483648):jR Tryz.prog 114 [(jF a),(jF b)] (jF (jV.mk (jN (nS (p*r) [(p*s),(q*r),(q*s)])) (jN (mP (p*r) [(p*s),(q*r),(q*s)])))):=by
 let y1:=(jF (jV.mk (jN (nS (p*r) [(p*s),(q*r),(q*s)])) (jN (mP (p*r) [(p*s),(q*r),(q*s)]))))
 refine jJ Tryz.func114 rfl cb114 rfl ?_
 show qG _ _ _ _ ⟨[(0,(.d (jF a))),(1,(.d (jF b)))],[]⟩
 refine jB<|kx [(2,(.ref 0 0)),(3,(.ref 1 0)),(4,(.ref 2 0))] [(0,some (bx (jF a))),(1,some (bx (jF b))),(2,some (bx (jF (jV.mk kZ kZ))))] (zN (vA 0)<|zN (vA 1)<|zN (qV 2 qO qS)<|zZ) ?_
 refine jB<|kd [] [(2,some (bx y1))] mo (wE (kY vK)<|wR (kK jS)<|wE (kY vK)<|wR (kK jS)<|wE (jY (g_mul a.lo b.lo p r (jO hp (by decide)) (jO hr (by decide))))<|wE (kY vK)<|wR (kK jS)<|wE (kY vY)<|wR (kK jS)<|wE (jY (g_mul a.lo b.hi p s (jO hp (by decide)) (jO hs (by decide))))<|wE (kY vY)<|wR (kK jS)<|wE (kY vK)<|wR (kK jS)<|wE (jY (g_mul a.hi b.lo q r (jO hq (by decide)) (jO hr (by decide))))<|wE (kY vY)<|wR (kK jS)<|wE (kY vY)<|wR (kK jS)<|wE (jY (g_mul a.hi b.hi q s (jO hq (by decide)) (jO hs (by decide))))<|wE (cN uE qU qY)<|wE (jY (h_spanned (p*r) [(p*s),(q*r),(q*s)] (List.forall_mem_cons.2 ⟨(qM (k:=4294967296) hp.ql hr.ql (by decide)),(List.forall_mem_cons.2 ⟨(qM (k:=4294967296) hp.ql hs.ql (by decide)),(List.forall_mem_cons.2 ⟨(qM (k:=4294967296) hq.ql hr.ql (by decide)),(List.forall_mem_cons.2 ⟨(qM (k:=4294967296) hq.ql hs.ql (by decide)),(fun a h=>by cases h)⟩)⟩)⟩)⟩) (by simp)))<|wT (qA jW)<|wZ) ?_
 refine jE ⟨_,(kH (cs:=(bx y1)) (d:=y1) rfl rfl jW rfl rfl .nil),?_⟩
 rfl
theorem h_square(a:jV)(p:Rat)(q:Rat)(hp:gW a.lo p 1073741824)(hq:gW a.hi q 1073741824):jR Tryz.prog 115 [(jF a)] (jF (jV.mk (jN (sqL p q)) (jN (sqH p q)))):=by
 let y1:=(jF (jV.mk (jN (nS (p*p) [(q*q),((0:Int):Rat)])) (jN (mP (p*p) [(q*q),((0:Int):Rat)]))))
 refine jJ Tryz.func115 rfl cb115 rfl ?_
 show qG _ _ _ _ ⟨[(0,(.d (jF a)))],[]⟩
 refine jB<|kx [(1,(.ref 0 0)),(2,(.ref 1 0))] [(0,some (bx (jF a))),(1,some (bx (jF (jV.mk kZ kZ))))] (zN (vA 0)<|zN (qV 1 qO qS)<|zZ) ?_
 refine jB<|kd [(3,(.own 2 45 4 2))] [(2,some (yG jK [(jN (p*p)),(jN (q*q))]))] mo (wE (kY vK)<|wR (kK jS)<|wE (kY vK)<|wR (kK jS)<|wE (jY (g_mul a.lo a.lo p p (jO hp (by decide)) (jO hp (by decide))))<|wE (kY vY)<|wR (kK jS)<|wE (kY vY)<|wR (kK jS)<|wE (jY (g_mul a.hi a.hi q q (jO hq (by decide)) (jO hq (by decide))))<|wN (oBo 2 uE qU qY)<|wM<|wZ) ?_
 refine jB<|jB<|kd [(17,(vb (hasQ p q ((0:Int):Rat))))] [] mo (wR (kK jW)<|wE (jY (hH 0 (by decide) (by decide)))<|wE (jY (h_hasR a p q (jO hp (by decide)) (jO hq (by decide)) (jN ((0:Int):Rat)) ((0:Int):Rat) (jO (jZ (xT (z:=0) (vP (by decide)) (by decide))) (by decide))))<|wZ) ?_
 refine jG (b:=(hasQ p q ((0:Int):Rat))) rfl (fun h1=>?_) (fun h1=>?_)
 ·refine kf [(3,(.own 2 45 4 ([(jN (p*p)),(jN (q*q)),(jN ((0:Int):Rat))].length)))] [(2,some (yG jK [(jN (p*p)),(jN (q*q)),(jN ((0:Int):Rat))]))] (zM<|zE (jY (hH 0 (by decide) (by decide)))<|zE (cN uE qU qY)<|zAS jK [(jN (p*p)),(jN (q*q))] [(jN ((0:Int):Rat))] rfl uE qU by45<|zM<|zF) ?_
  refine jB<|kS (vD (t:=3) (k:=2) (es:=List.map jK [(jN (p*p)),(jN (q*q)),(jN ((0:Int):Rat))]) rfl rfl (zL _ _ (fun _=>rfl)) (uJ _ _ rfl) (yS jK [(jN (p*p)),(jN (q*q)),(jN ((0:Int):Rat))] (fun _=>rfl) rfl)) ?_
  refine kx [] [(1,some (bx y1))] (zM<|zE (jY (h_spanned (p*p) [(q*q),((0:Int):Rat)] (List.forall_mem_cons.2 ⟨(xE (qM (k:=2147483648) hp.ql hp.ql (by decide)) (by decide)),(List.forall_mem_cons.2 ⟨(xE (qM (k:=2147483648) hq.ql hq.ql (by decide)) (by decide)),(List.forall_mem_cons.2 ⟨(xE (xT (z:=0) (vP (by decide)) (by decide)) (by decide)),(fun a h=>by cases h)⟩)⟩)⟩) (by simp)))<|zT (qA jW)<|zZ) ?_
  refine jE ⟨_,(kH (cs:=(bx y1)) (d:=y1) rfl rfl jW rfl rfl .nil),?_⟩
  rw[sq_hasL h1,sq_hasH];rfl
 ·refine jD<|jB<|kS (vD (t:=3) (k:=2) (es:=List.map jK [(jN (p*p)),(jN (q*q))]) rfl rfl (zL _ _ (fun _=>rfl)) (uJ _ _ rfl) (yS jK [(jN (p*p)),(jN (q*q))] (fun _=>rfl) rfl)) ?_
  refine kx [] [(1,some (bx (jF (jV.mk (jN (nS (p*p) [(q*q)])) (jN (mP (p*p) [(q*q)]))))))] (zM<|zE (jY (h_spanned (p*p) [(q*q)] (List.forall_mem_cons.2 ⟨(xE (qM (k:=2147483648) hp.ql hp.ql (by decide)) (by decide)),(List.forall_mem_cons.2 ⟨(xE (qM (k:=2147483648) hq.ql hq.ql (by decide)) (by decide)),(fun a h=>by cases h)⟩)⟩) (by simp)))<|zT (qA jW)<|zZ) ?_
  refine jE ⟨_,(kH (cs:=(bx (jF (jV.mk (jN (nS (p*p) [(q*q)])) (jN (mP (p*p) [(q*q)])))))) (d:=(jF (jV.mk (jN (nS (p*p) [(q*q)])) (jN (mP (p*p) [(q*q)]))))) rfl rfl jW rfl rfl .nil),?_⟩
  rw[sq_noL h1];rfl
theorem h_divideZ(p:Rat)(q:Rat)(hp:QL p 1073741824)(hq:QL q 1073741824)(hpq:p≤q)(r:Rat)(s:Rat)(hr:QL r 1073741824)(hs:QL s 1073741824)(hrs:r≤s)(hz:yV r s=true):jR Tryz.prog 167 [(jF (jV.mk (jN p) (jN q))),(jF (jV.mk (jN r) (jN s)))] (.tup [(jF (jV.mk kZ kZ)),(.val (.int .i64 (14)))]):=by
 let y1:=(bx (jF (jV.mk kZ kZ)))
 refine jJ Tryz.func167 rfl cb167 rfl ?_
 show qG _ _ _ _ ⟨[(0,(.d (jF (jV.mk (jN p) (jN q))))),(1,(.d (jF (jV.mk (jN r) (jN s)))))],[]⟩
 refine jB<|kx [(2,(.ref 0 0)),(3,(.ref 1 0)),(4,(.ref 2 0))] [(0,some (bx (jF (jV.mk (jN p) (jN q))))),(1,some (bx (jF (jV.mk (jN r) (jN s))))),(2,some y1)] (zN (vA 0)<|zN (vA 1)<|zN (qV 2 qO qS)<|zM<|zZ) ?_
 refine jB<|jB<|kd [(12,(vb true))] [] mo (wR (kK jW)<|wE (jY (hH 0 (by decide) (by decide)))<|wE (vW true (jY (h_hasR (jV.mk (jN r) (jN s)) r s (jO (jZ hr) (by decide)) (jO (jZ hs) (by decide)) (jN ((0:Int):Rat)) ((0:Int):Rat) (jO (jZ (xT (z:=0) (vP (by decide)) (by decide))) (by decide)))) (by exact hz))<|wZ) ?_
 refine uY ?_
 refine jB<|kx [(5,(jP 14))] [(2,some y1)] (zE (eX pl61 qO qS)<|zT (qA jW)<|zM<|zZ) ?_
 refine jE ⟨_,(kH (cs:=y1) (d:=(jF (jV.mk kZ kZ))) rfl rfl jW rfl rfl (.tmp (d:=(.val (.int .i64 (14)))) rfl .nil)),?_⟩
 rfl
theorem h_divide(p:Rat)(q:Rat)(hp:QL p 1073741824)(hq:QL q 1073741824)(hpq:p≤q)(r:Rat)(s:Rat)(hr:QL r 1073741824)(hs:QL s 1073741824)(hrs:r≤s)(hz:yV r s=false):jR Tryz.prog 167 [(jF (jV.mk (jN p) (jN q))),(jF (jV.mk (jN r) (jN s)))] (.tup [(jF (jV.mk (jN (nS (p / r) [(p / s),(q / r),(q / s)])) (jN (mP (p / r) [(p / s),(q / r),(q / s)])))),(.val (.int .i64 (0)))]):=by
 obtain ⟨hr0,hs0⟩:=zeroG_ne hrs hz
 let y2:=(jF (jV.mk (jN (nS (p*(((1:Int):Rat) / s)) [(p*(((1:Int):Rat) / r)),(q*(((1:Int):Rat) / s)),(q*(((1:Int):Rat) / r))])) (jN (mP (p*(((1:Int):Rat) / s)) [(p*(((1:Int):Rat) / r)),(q*(((1:Int):Rat) / s)),(q*(((1:Int):Rat) / r))]))))
 let y1:=(bx y2)
 refine jJ Tryz.func167 rfl cb167 rfl ?_
 show qG _ _ _ _ ⟨[(0,(.d (jF (jV.mk (jN p) (jN q))))),(1,(.d (jF (jV.mk (jN r) (jN s)))))],[]⟩
 refine jB<|kx [(2,(.ref 0 0)),(3,(.ref 1 0)),(4,(.ref 2 0))] [(0,some (bx (jF (jV.mk (jN p) (jN q))))),(1,some (bx (jF (jV.mk (jN r) (jN s))))),(2,some (bx (jF (jV.mk kZ kZ))))] (zN (vA 0)<|zN (vA 1)<|zN (qV 2 qO qS)<|zM<|zZ) ?_
 refine jB<|jB<|kd [(12,(vb false))] [] mo (wR (kK jW)<|wE (jY (hH 0 (by decide) (by decide)))<|wE (vW false (jY (h_hasR (jV.mk (jN r) (jN s)) r s (jO (jZ hr) (by decide)) (jO (jZ hs) (by decide)) (jN ((0:Int):Rat)) ((0:Int):Rat) (jO (jZ (xT (z:=0) (vP (by decide)) (by decide))) (by decide)))) (by exact hz))<|wZ) ?_
 refine kU ?_
 refine jD<|jB<|kd [(6,(.ref 3 0))] [(3,some (bx (jK (jN (((1:Int):Rat) / s)))))] mo (wE (jY (hH 1 (by decide) (by decide)))<|wE (kY vY)<|wR (kK jS)<|wE (jY (by have h:=g_divide (jN ((1:Int):Rat)) (jN s) ((1:Int):Rat) s (jO (jZ (xT (z:=1) (vP (by decide)) (by decide))) (by decide)) (jO (jZ hs) (by decide));rw[divR_ne hs0,divC_ne hs0] at h;exact h))<|wM<|wE uT<|wE uT<|wN (qV 3 qU qY)<|wT (qA jS)<|wM<|wZ) ?_
 refine jB<|kd [(8,(.ref 4 0))] [(4,some (bx (jK (jN (((1:Int):Rat) / r)))))] mo (wE (jY (hH 1 (by decide) (by decide)))<|wE (kY vK)<|wR (kK jS)<|wE (jY (by have h:=g_divide (jN ((1:Int):Rat)) (jN r) ((1:Int):Rat) r (jO (jZ (xT (z:=1) (vP (by decide)) (by decide))) (by decide)) (jO (jZ hr) (by decide));rw[divR_ne hr0,divC_ne hr0] at h;exact h))<|wM<|wE uT<|wE uT<|wN (qV 4 qU qY)<|wT (qA jS)<|wM<|wZ) ?_
 refine jB<|kx [(5,(jP 0))] [(2,some y1)] (zR (kK jW)<|zR (kK jS)<|zR (kK jS)<|zE (eX pl61 qO qS)<|zE (jY (h_mul (jV.mk (jN p) (jN q)) p q (jO (jZ hp) (by decide)) (jO (jZ hq) (by decide)) (jV.mk (jN (((1:Int):Rat) / s)) (jN (((1:Int):Rat) / r))) (((1:Int):Rat) / s) (((1:Int):Rat) / r) (jO (jZ (aW (k:=1073741825) (xT (z:=1) (vP (by decide)) (by decide)) hs (by decide))) (by decide)) (jO (jZ (aW (k:=1073741825) (xT (z:=1) (vP (by decide)) (by decide)) hr (by decide))) (by decide))))<|zT (qA jW)<|zM<|zZ) ?_
 refine jE ⟨_,(kH (cs:=y1) (d:=y2) rfl rfl jW rfl rfl (.tmp (d:=(.val (.int .i64 (0)))) rfl .nil)),?_⟩
 rw[← recip_lo,← recip_hi];rfl
end Go.Proofs.YtnajallgoaiahaaGreatDoor
namespace Go.Fid
inductive LOk (n:Nat):List qB→List Int→Prop
 |nil:LOk n [] []
 |cons {x:qB} {z:Int} {l:List qB} {zs:List Int} (h:gO x z n) (t:LOk n l zs):LOk n (x::l) (z::zs)
theorem iok_nilN(n:Nat):gO ⟨false,[]⟩ 0 n:=⟨by decide,Nat.zero_le _⟩
theorem LOk.len{n:Nat}{l:List qB}{zs:List Int}(h:LOk n l zs):l.length=zs.length:=by
 induction h with
 |nil=>rfl
 |cons h t ih=>simp [ih]
theorem LOk.get{n:Nat}{l:List qB}{zs:List Int}(h:LOk n l zs)(i:Nat):gO (l.getD i ⟨false,[]⟩) (zs.getD i 0) n:=by
 induction h generalizing i with
 |nil=>exact iok_nilN n
 |cons h t ih=>
  rcases i with _ | i
  ·exact h
  ·exact ih i
theorem LOk.all{n:Nat}{l:List qB}{zs:List Int}(h:LOk n l zs):∀ z∈zs,cF z≤n:=by
 induction h with
 |nil=>simp
 |cons h t ih=>
  intro z hz
  rcases List.mem_cons.1 hz with rfl | hz
  ·exact h.ln
  ·exact ih z hz
theorem LOk.up{m n:Nat}{l:List qB}{zs:List Int}(h:LOk m l zs)(hm:m≤n):LOk n l zs:=by
 induction h with
 |nil=>exact .nil
 |cons h t ih=>exact .cons (nC h hm) ih
theorem signI_ne{z:Int}(h:z≠0):uG z≠0:=by
 unfold uG;split<;>(try split)<;>omega
theorem LOk.map{n:Nat}{l:List qB}{zs:List Int}(h:LOk n l zs):l.map kG=zs:=by
 induction h with
 |nil=>rfl
 |cons h t ih=>rw[List.map_cons,ih,h.v]
theorem all_nil{l:List qB}(h:∀ x∈l,x=qB.mk false [])(i:Nat):l.getD i (qB.mk false [])=qB.mk false []:=by
 rw[List.getD]
 cases hj:l[i]? with
 |none=>rfl
 |some q=>exact h q (List.mem_of_getElem? hj)
end Go.Fid
namespace Go.Proofs.YtnajallgoaiahaaGreatDoor
open Go.Fid
def vG(n:Nat)(l:List jQ):Prop:=(∀ a∈l,gW a (qP a) n)∧l.length≤140737488355328
def vN(n:Nat)(m:List (List jQ)):Prop:=(∀ r∈m,vG n r)∧m.length≤140737488355328
def gC(l:List jQ):Bool:=l.all kR
theorem vE{l:List jQ}{n j:Nat}{d:jQ}(h:∀ a∈l,gW a (qP a) n)(hj:j<l.length):gW (l.getD j d) (qP (l.getD j d)) n:=by
 rw[List.getD_eq_getElem?_getD,List.getElem?_eq_getElem hj];exact h _ (List.getElem_mem hj)
theorem row_up{n k:Nat}{l:List jQ}(h:vG n l)(hk:n≤k):vG k l:=⟨fun a ha=>jO (h.1 a ha) hk,h.2⟩
theorem gV{n k:Nat}{m:List (List jQ)}(h:vN n m)(hk:n≤k):vN k m:=⟨fun a ha=>row_up (h.1 a ha) hk,h.2⟩
theorem xA{n i:Nat}{m:List (List jQ)}{d:List jQ}(h:vN n m)(hi:i<m.length):vG n (m.getD i d):=by
 rw[List.getD_eq_getElem?_getD,List.getElem?_eq_getElem hi];exact h.1 _ (List.getElem_mem hi)
theorem valid_get{i:Nat}{l:List jQ}{d:jQ}(h:gC l=true)(hi:i<l.length):kR (l.getD i d)=true:=by
 rw[List.getD_eq_getElem?_getD,List.getElem?_eq_getElem hi];exact List.all_eq_true.1 h _ (List.getElem_mem hi)
theorem take_all{α:Type}{f:α→Bool}{l:List α}{i:Nat}{d:α}(h:i<l.length):(l.take (i+1)).all f=((l.take i).all f&&f (l.getD i d)):=by
 rw[List.getD_eq_getElem?_getD,List.getElem?_eq_getElem h,List.take_succ_eq_append_getElem h,List.all_append]
 simp
end Go.Proofs.YtnajallgoaiahaaGreatDoor
namespace Go.Fid
def xM(o:Int):Int:=if o=0∨o=1 then 0 else if o=6∨o=7 then 1 else if o=2∨o=3∨o=4∨o=5 then 2 else -1
theorem aD(o:Int):(xM o=0∧(o=0∨o=1))∨(xM o=1∧(o=6∨o=7))∨(xM o=2∧(o=2∨o=3∨o=4∨o=5))∨(xM o=-1∧¬ (o=0∨o=1)∧¬ (o=6∨o=7)∧¬ (o=2∨o=3∨o=4∨o=5)):=by
 unfold xM
 by_cases h1:o=0∨o=1
 ·exact .inl ⟨if_pos h1,h1⟩
 by_cases h2:o=6∨o=7
 ·exact .inr (.inl ⟨by rw[if_neg h1,if_pos h2],h2⟩)
 by_cases h3:o=2∨o=3∨o=4∨o=5
 ·exact .inr (.inr (.inl ⟨by rw[if_neg h1,if_neg h2,if_pos h3],h3⟩))
 ·exact .inr (.inr (.inr ⟨by rw[if_neg h1,if_neg h2,if_neg h3],h1,h2,h3⟩))
def unsB(x:jQ):Bool:=((!x.num.neg&&!x.den.neg)&&(((x.num.gs.length:Nat):Int) == 0))&&(((x.den.gs.length:Nat):Int) == 0)
theorem uns_eq{x:jQ}(h:unsB x=true):x=zr:=by
 obtain ⟨⟨n,g⟩,⟨m,d⟩⟩:=x
 unfold unsB at h
 simp only[Bool.and_eq_true,Bool.not_eq_true',beq_iff_eq] at h
 obtain ⟨⟨⟨h1,h2⟩,h3⟩,h4⟩:=h
 have e3:g=[]:=List.eq_nil_of_length_eq_zero (by omega)
 have e4:d=[]:=List.eq_nil_of_length_eq_zero (by omega)
 subst h1;subst h2;subst e3;subst e4
 rfl
def fQ(x:kV):Prop:=xM x.op<0∨(xM x.op<2∧x.b≠0)∨(x.op=0∧(x.a≠0∨kR x.n=false))∨(x.op≠0∧unsB x.n=false)
instance (x:kV):Decidable (fQ x):=by unfold fQ;infer_instance
def iY(k:Int)(x:kV):Prop:=(0<xM x.op∧(x.a<0∨k≤x.a))∨(1<xM x.op∧(x.b<0∨k≤x.b))
instance (k:Int) (x:kV):Decidable (iY k x):=by unfold iY;infer_instance
def rngN(z:Int)(x:kV):Prop:=x.op=1∧(x.a<0∨z≤x.a)
instance (z:Int) (x:kV):Decidable (rngN z x):=by unfold rngN;infer_instance
def szN(ss:List Int)(x:kV):Int:=if xM x.op=0 then 1 else if x.op=6 then ss.getD x.a.toNat 0 else if x.op=7 then 2*ss.getD x.a.toNat 0 else ss.getD x.a.toNat 0+ss.getD x.b.toNat 0
def ndC(z:Int)(ss:List Int)(x:kV):Nat:=if fQ x then 1 else if iY ((ss.length:Nat):Int) x then 5 else if rngN z x then 2 else if 4096<szN ss x then 3 else 0
def cR(t:List kV):Nat→List Int
 |0=>[]
 |k+1=>cR t k++[szN (cR t k) (t.getD k tz)]
theorem nF(t:List kV):∀ k,(cR t k).length=k
 |0=>rfl
 |k+1=>by rw[cR,List.length_append,nF t k];rfl
def szUp(z:Int)(t:List kV)(k:Nat):Prop:=∀ i,i<k→ndC z (cR t i) (t.getD i tz)=0
theorem szUp_0(z:Int)(t:List kV):szUp z t 0:=fun i h=>by omega
theorem szUp_s{z:Int}{t:List kV}{k:Nat}(h:szUp z t k)(hk:ndC z (cR t k) (t.getD k tz)=0):szUp z t (k+1):=fun i hi=>by
 rcases Nat.lt_or_ge i k with h1 | h1
 ·exact h i h1
 ·obtain rfl:i=k:=by omega
  exact hk
def szE(z:Int)(t:List kV):Nat→Nat→Nat
 |0,_=>0
 |f+1,k=>if ndC z (cR t k) (t.getD k tz)=0 then szE z t f (k+1) else ndC z (cR t k) (t.getD k tz)
def nY(z:Int)(t:List kV):Nat:=if z<0∨64<z then 2 else if t.length=0 then 1 else if 400<t.length then 3 else szE z t t.length 0
def tmL(z:Int)(t:List kV):List Int:=if nY z t=0 then cR t t.length else []
theorem szE_0{z:Int}{t:List kV}:∀ {f k:Nat},szE z t f k=0↔∀ i,k≤i→i<k+f→ndC z (cR t i) (t.getD i tz)=0
 |0,k=>by simp only[szE,true_iff];intro i h1 h2;omega
 |f+1,k=>by
  unfold szE
  constructor
  ·intro h i h1 h2
   split at h
   ·rename_i h0
    rcases Nat.lt_or_ge k i with h3 | h3
    ·exact szE_0.1 h i (by omega) (by omega)
    ·obtain rfl:i=k:=by omega
     exact h0
   ·rename_i h0;exact absurd h h0
  ·intro h
   rw[if_pos (h k (Nat.le_refl _) (by omega))]
   exact szE_0.2 fun i h1 h2=>h i (by omega) (by omega)
theorem szE_at{z:Int}{t:List kV}{m:Nat}(hm:ndC z (cR t m) (t.getD m tz)≠0):∀ {f k:Nat},k≤m→m<k+f→(∀ i,k≤i→i<m→ndC z (cR t i) (t.getD i tz)=0)→szE z t f k=ndC z (cR t m) (t.getD m tz)
 |0,k,h1,h2,_=>by omega
 |f+1,k,h1,h2,h=>by
  unfold szE
  rcases Nat.lt_or_ge k m with h3 | h3
  ·rw[if_pos (h k (Nat.le_refl _) h3)]
   exact szE_at hm (by omega) (by omega) fun i a b=>h i (by omega) b
  ·obtain rfl:k=m:=by omega
   rw[if_neg hm]
theorem tm_1{z:Int}{t:List kV}(h:z<0∨64<z):nY z t=2:=if_pos h
theorem tm_2{z:Int}{t:List kV}(h:¬ (z<0∨64<z))(h1:t.length=0):nY z t=1:=by unfold nY;rw[if_neg h,if_pos h1]
theorem tm_3{z:Int}{t:List kV}(h:¬ (z<0∨64<z))(h1:t.length≠0)(h2:400<t.length):nY z t=3:=by unfold nY;rw[if_neg h,if_neg h1,if_pos h2]
theorem tm_e{z:Int}{t:List kV}(h:¬ (z<0∨64<z))(h1:t.length≠0)(h2:¬ 400<t.length):nY z t=szE z t t.length 0:=by unfold nY;rw[if_neg h,if_neg h1,if_neg h2]
theorem tm_no{z:Int}{t:List kV}{k:Nat}(h:¬ (z<0∨64<z))(h1:k<t.length)(h2:¬ 400<t.length)(hu:szUp z t k)(hc:ndC z (cR t k) (t.getD k tz)≠0):nY z t=ndC z (cR t k) (t.getD k tz)∧tmL z t=[]:=by
 have e:nY z t=ndC z (cR t k) (t.getD k tz):=by
  rw[tm_e h (by omega) h2]
  exact szE_at hc (by omega) (by omega) fun i _ hi=>hu i hi
 exact ⟨e,if_neg (by rw[e];exact hc)⟩
theorem tm_yes{z:Int}{t:List kV}(h:¬ (z<0∨64<z))(h1:t.length≠0)(h2:¬ 400<t.length)(hu:szUp z t t.length):nY z t=0∧tmL z t=cR t t.length:=by
 have e:nY z t=0:=by
  rw[tm_e h h1 h2]
  exact szE_0.2 fun i _ hi=>hu i (by omega)
 exact ⟨e,if_pos e⟩
theorem tm_n{z:Int}{t:List kV}(h:nY z t≠0):tmL z t=[]:=if_neg h
theorem tm_0{z:Int}{t:List kV}(h:nY z t=0):0≤z∧z≤64∧t.length≠0∧t.length≤400∧szUp z t t.length:=by
 by_cases h0:z<0∨64<z
 ·rw[tm_1 h0] at h;cases h
 by_cases h1:t.length=0
 ·rw[tm_2 h0 h1] at h;cases h
 by_cases h2:400<t.length
 ·rw[tm_3 h0 h1 h2] at h;cases h
 rw[tm_e h0 h1 h2] at h
 exact ⟨by omega,by omega,h1,by omega,fun i hi=>szE_0.1 h i (by omega) (by omega)⟩
theorem nd_0{z:Int}{ss:List Int}{x:kV}(h:ndC z ss x=0):¬ fQ x∧¬ iY ((ss.length:Nat):Int) x∧¬ rngN z x∧szN ss x≤4096:=by
 unfold ndC at h
 split at h
 ·cases h
 ·rename_i h1
  split at h
  ·cases h
  ·rename_i h2
   split at h
   ·cases h
   ·rename_i h3
    split at h
    ·cases h
    ·rename_i h4
     exact ⟨h1,h2,h3,by omega⟩
theorem nd_1{z:Int}{ss:List Int}{x:kV}(h:fQ x):ndC z ss x=1:=if_pos h
theorem nd_5{z:Int}{ss:List Int}{x:kV}(h:¬ fQ x)(h2:iY ((ss.length:Nat):Int) x):ndC z ss x=5:=by unfold ndC;rw[if_neg h,if_pos h2]
theorem nd_2{z:Int}{ss:List Int}{x:kV}(h:¬ fQ x)(h2:¬ iY ((ss.length:Nat):Int) x)(h3:rngN z x):ndC z ss x=2:=by unfold ndC;rw[if_neg h,if_neg h2,if_pos h3]
theorem nd_3{z:Int}{ss:List Int}{x:kV}(h:¬ fQ x)(h2:¬ iY ((ss.length:Nat):Int) x)(h3:¬ rngN z x)(h4:4096<szN ss x):ndC z ss x=3:=by unfold ndC;rw[if_neg h,if_neg h2,if_neg h3,if_pos h4]
theorem nd_y{z:Int}{ss:List Int}{x:kV}(h:¬ fQ x)(h2:¬ iY ((ss.length:Nat):Int) x)(h3:¬ rngN z x)(h4:¬ 4096<szN ss x):ndC z ss x=0:=by unfold ndC;rw[if_neg h,if_neg h2,if_neg h3,if_neg h4]
theorem sz_rng{z:Int}{t:List kV}:∀ {k:Nat},szUp z t k→∀ j,j<k→1≤(cR t k).getD j 0∧(cR t k).getD j 0≤4096
 |0,_,j,h=>by omega
 |k+1,hu,j,hj=>by
  have ih:=sz_rng (k:=k) (fun i hi=>hu i (by omega))
  have hl:=nF t k
  obtain ⟨h1,h2,h3,h4⟩:=nd_0 (hu k (by omega))
  rw[hl] at h2
  unfold cR
  rcases Nat.lt_or_ge j k with h | h
  ·rw[List.getD_eq_getElem?_getD,List.getElem?_append_left (by omega),← List.getD_eq_getElem?_getD]
   exact ih j h
  ·obtain rfl:j=k:=by omega
   rw[List.getD_eq_getElem?_getD,List.getElem?_append_right (by omega),hl,Nat.sub_self]
   show 1≤szN (cR t j) (t.getD j tz)∧szN (cR t j) (t.getD j tz)≤4096
   refine ⟨?_,h4⟩
   have hA:∀ a:Int,0≤a→a<j→1≤(cR t j).getD a.toNat 0:=fun a q1 q2=>(ih a.toNat (by omega)).1
   generalize t.getD j tz=x at *
   unfold szN iY fQ at *
   rcases aD x.op with ⟨e,_⟩ | ⟨e,f⟩ | ⟨e,f⟩ | ⟨e,_⟩
   ·rw[if_pos e];exact Int.le_refl _
   ·have ha:=hA x.a (by omega) (by omega)
    rw[if_neg (by omega)]
    split
    ·exact ha
    ·split<;>omega
   ·have ha:=hA x.a (by omega) (by omega)
    have hb:=hA x.b (by omega) (by omega)
    rw[if_neg (by omega),if_neg (by omega),if_neg (by omega)]
    omega
   ·omega
def szI(t:List kV)(k:Nat)(o:List Int):Prop:=o.length=t.length∧o.take k=cR t k
theorem szI_0{t:List kV}:szI t 0 (List.replicate t.length 0):=⟨List.length_replicate,rfl⟩
theorem szI.at{t:List kV}{k:Nat}{o:List Int}(h:szI t k o){j:Nat}(hj:j<k)(hk:k≤t.length):o.getD j 0=(cR t k).getD j 0:=by
 rw[← h.2,List.getD_eq_getElem?_getD,List.getD_eq_getElem?_getD,List.getElem?_take_of_lt hj]
theorem szI.put{t:List kV}{k:Nat}{o:List Int}(h:szI t k o)(hk:k<t.length){v:Int}(hv:v=szN (cR t k) (t.getD k tz)):szI t (k+1) (o.set k v):=by
 refine ⟨by rw[List.length_set];exact h.1,?_⟩
 have hl:=h.1
 rw[List.take_succ_eq_append_getElem (by rw[List.length_set];omega),List.getElem_set_self,List.take_set_of_le (Nat.le_refl k),h.2,cR,hv]
theorem set_getD{o:List Int}{k:Nat}{v:Int}(h:k<o.length):(o.set k v).getD k 0=v:=by
 rw[List.getD_eq_getElem?_getD,List.getElem?_set_self h];rfl
theorem szI_end{t:List kV}{o:List Int}(h:szI t t.length o):o=cR t t.length:=by
 rw[← h.2,← h.1,List.take_length]
def badB(x:kV):Bool:=(((decide (xM x.op<0)||(decide (xM x.op<2)&&(x.b != 0)))||((x.op == 0)&&((x.a != 0)||!(kR x.n))))||((x.op != 0)&&!(unsB x.n)))
def ordB(k:Int)(x:kV):Bool:=((decide (0<xM x.op)&&(decide (x.a<0)||decide (k≤x.a)))||(decide (1<xM x.op)&&(decide (x.b<0)||decide (k≤x.b))))
def rngB(z:Int)(x:kV):Bool:=((x.op == 1)&&(decide (x.a<0)||decide (z≤x.a)))
theorem iA{x:kV}:badB x=true↔fQ x:=by
 unfold badB fQ
 simp only[Bool.or_eq_true,Bool.and_eq_true,decide_eq_true_eq,beq_iff_eq,bne_iff_ne,Bool.not_eq_true',ne_eq,or_assoc]
theorem ordB_iff{k:Int}{x:kV}:ordB k x=true↔iY k x:=by
 unfold ordB iY
 simp only[Bool.or_eq_true,Bool.and_eq_true,decide_eq_true_eq]
theorem rngB_iff{k:Int}{x:kV}:rngB k x=true↔rngN k x:=by
 unfold rngB rngN
 simp only[Bool.or_eq_true,Bool.and_eq_true,decide_eq_true_eq,beq_iff_eq]
theorem not_of{b:Bool}{p:Prop}(h:b=true↔p)(hb:b=false):¬ p:=fun q=>by rw[h.2 q] at hb;cases hb
structure TmR (z:Int) (t:List kV) (k:Nat):Prop where
 z0:¬ (z<0∨64<z)
 kl:k<t.length
 tl:¬ 400<t.length
 up:szUp z t k
theorem tmr{z:Int}{t:List kV}{k:Nat}(h:(decide (z<0)||decide (64<z))=false)(h1:((k:Nat):Int)<((t.length:Nat):Int))(h2:¬ 400<((t.length:Nat):Int))(hu:szUp z t k):TmR z t k:=by
 rw[Bool.or_eq_false_iff,decide_eq_false_iff_not,decide_eq_false_iff_not] at h
 exact ⟨by omega,by omega,by omega,hu⟩
theorem zb_t{z:Int}{t:List kV}(h:(decide (z<0)||decide (64<z))=true):nY z t=2∧tmL z t=[]:=by
 rw[Bool.or_eq_true,decide_eq_true_eq,decide_eq_true_eq] at h
 have e:=tm_1 (t:=t) h
 exact ⟨e,tm_n (by rw[e];decide)⟩
theorem zb_f{z:Int}(h:(decide (z<0)||decide (64<z))=false):¬ (z<0∨64<z):=by
 rw[Bool.or_eq_false_iff,decide_eq_false_iff_not,decide_eq_false_iff_not] at h
 omega
theorem tm_l0{z:Int}{t:List kV}(h:(decide (z<0)||decide (64<z))=false)(h1:t.length=0):nY z t=1∧tmL z t=[]:=by
 have e:=tm_2 (zb_f h) h1
 exact ⟨e,tm_n (by rw[e];decide)⟩
theorem tm_lb{z:Int}{t:List kV}(h:(decide (z<0)||decide (64<z))=false)(h1:400<t.length):nY z t=3∧tmL z t=[]:=by
 have e:=tm_3 (zb_f h) (by omega) h1
 exact ⟨e,tm_n (by rw[e];decide)⟩
theorem TmR.bad{z:Int}{t:List kV}{k:Nat}(h:TmR z t k)(hb:badB (t.getD k tz)=true):nY z t=1∧tmL z t=[]:=by
 have e:=nd_1 (z:=z) (ss:=cR t k) (iA.1 hb)
 have:=tm_no h.z0 h.kl h.tl h.up (by rw[e];decide)
 rwa [e] at this
theorem TmR.ord{z:Int}{t:List kV}{k:Nat}(h:TmR z t k)(hb:badB (t.getD k tz)=false)(ho:ordB ((k:Nat):Int) (t.getD k tz)=true):nY z t=5∧tmL z t=[]:=by
 have e:=nd_5 (z:=z) (ss:=cR t k) (not_of iA hb) (by rw[nF];exact ordB_iff.1 ho)
 have:=tm_no h.z0 h.kl h.tl h.up (by rw[e];decide)
 rwa [e] at this
theorem TmR.rng{z:Int}{t:List kV}{k:Nat}(h:TmR z t k)(hb:badB (t.getD k tz)=false)(ho:ordB ((k:Nat):Int) (t.getD k tz)=false)(hr:rngB z (t.getD k tz)=true):nY z t=2∧tmL z t=[]:=by
 have e:=nd_2 (z:=z) (ss:=cR t k) (not_of iA hb) (by rw[nF];exact not_of ordB_iff ho) (rngB_iff.1 hr)
 have:=tm_no h.z0 h.kl h.tl h.up (by rw[e];decide)
 rwa [e] at this
structure NdR (z:Int) (t:List kV) (k:Nat):Prop where
 tm:TmR z t k
 bad:¬ fQ (t.getD k tz)
 ord:¬ iY ((k:Nat):Int) (t.getD k tz)
 rng:¬ rngN z (t.getD k tz)
theorem ndr{z:Int}{t:List kV}{k:Nat}(h:TmR z t k)(hb:badB (t.getD k tz)=false)(ho:ordB ((k:Nat):Int) (t.getD k tz)=false)(hr:rngB z (t.getD k tz)=false):NdR z t k:=⟨h,not_of iA hb,not_of ordB_iff ho,not_of rngB_iff hr⟩
theorem NdR.big{z:Int}{t:List kV}{k:Nat}(h:NdR z t k){v:Int}(hv:v=szN (cR t k) (t.getD k tz)){o:List Int}(ho:k<o.length)(hb:4096<(o.set k v).getD k 0):nY z t=3∧tmL z t=[]:=by
 rw[set_getD ho,hv] at hb
 have e:=nd_3 (z:=z) (ss:=cR t k) h.bad (by rw[nF];exact h.ord) h.rng hb
 have:=tm_no h.tm.z0 h.tm.kl h.tm.tl h.tm.up (by rw[e];decide)
 rwa [e] at this
theorem NdR.next{z:Int}{t:List kV}{k:Nat}(h:NdR z t k){v:Int}(hv:v=szN (cR t k) (t.getD k tz)){o:List Int}(ho:szI t k o)(hb:¬ 4096<(o.set k v).getD k 0):k+1≤t.length∧szI t (k+1) (o.set k v)∧szUp z t (k+1):=by
 have hl:=ho.1
 have hk:=h.tm.kl
 rw[set_getD (by omega),hv] at hb
 exact ⟨hk,ho.put hk hv,szUp_s h.tm.up (nd_y h.bad (by rw[nF];exact h.ord) h.rng hb)⟩
theorem NdR.kd{z:Int}{t:List kV}{k:Nat}(h:NdR z t k):0≤xM (t.getD k tz).op:=by
 have:=h.bad;unfold fQ at this;omega
theorem NdR.a{z:Int}{t:List kV}{k:Nat}(h:NdR z t k){o:List Int}(ho:szI t k o)(h0:xM (t.getD k tz).op≠0) :
  0≤(t.getD k tz).a∧(t.getD k tz).a.toNat<k∧o.getD (t.getD k tz).a.toNat 0=(cR t k).getD (t.getD k tz).a.toNat 0∧1≤o.getD (t.getD k tz).a.toNat 0∧o.getD (t.getD k tz).a.toNat 0≤4096:=by
 have h1:=h.kd
 have h2:=h.ord
 unfold iY at h2
 have ha:(t.getD k tz).a.toNat<k:=by omega
 have e:=ho.at ha (by have:=h.tm.kl;omega)
 have r:=sz_rng h.tm.up _ ha
 rw[← e] at r
 exact ⟨by omega,ha,e,r⟩
theorem NdR.b{z:Int}{t:List kV}{k:Nat}(h:NdR z t k){o:List Int}(ho:szI t k o)(h0:xM (t.getD k tz).op≠0)(h6:(t.getD k tz).op≠6)(h7:(t.getD k tz).op≠7) :
  0≤(t.getD k tz).b∧(t.getD k tz).b.toNat<k∧o.getD (t.getD k tz).b.toNat 0=(cR t k).getD (t.getD k tz).b.toNat 0∧1≤o.getD (t.getD k tz).b.toNat 0∧o.getD (t.getD k tz).b.toNat 0≤4096:=by
 have h1:=h.kd
 have h2:=h.ord
 have h3:xM (t.getD k tz).op=2:=by rcases aD (t.getD k tz).op with ⟨a,b⟩ | ⟨a,b⟩ | ⟨a,b⟩ | ⟨a,b⟩<;>omega
 unfold iY at h2
 have ha:(t.getD k tz).b.toNat<k:=by omega
 have e:=ho.at ha (by have:=h.tm.kl;omega)
 have r:=sz_rng h.tm.up _ ha
 rw[← e] at r
 exact ⟨by omega,ha,e,r⟩
theorem szN_c{ss:List Int}{x:kV}(h:xM x.op=0):(1:Int)=szN ss x:=(if_pos h).symm
theorem szN_n{ss:List Int}{x:kV}{v:Int}(h:xM x.op≠0)(h6:x.op=6)(hv:v=ss.getD x.a.toNat 0):v=szN ss x:=by
 unfold szN;rw[if_neg h,if_pos h6,hv]
theorem szN_q{ss:List Int}{x:kV}{v:Int}(h:xM x.op≠0)(h7:x.op=7)(hv:v=ss.getD x.a.toNat 0):2*v=szN ss x:=by
 unfold szN;rw[if_neg h,if_neg (by omega),if_pos h7,hv]
theorem szN_b{ss:List Int}{x:kV}{v w:Int}(h:xM x.op≠0)(h6:x.op≠6)(h7:x.op≠7)(hv:v=ss.getD x.a.toNat 0)(hw:w=ss.getD x.b.toNat 0):v+w=szN ss x:=by
 unfold szN;rw[if_neg h,if_neg h6,if_neg h7,hv,hw]
theorem tm_end{z:Int}{t:List kV}{k:Nat}{o:List Int}(h:(decide (z<0)||decide (64<z))=false)(h0:((t.length:Nat):Int)≠0)(h4:¬ 400<((t.length:Nat):Int))(hk:k≤t.length)(h5:¬ ((k:Nat):Int)<((t.length:Nat):Int))(ho:szI t k o)(hu:szUp z t k):nY z t=0∧tmL z t=o:=by
 obtain rfl:k=t.length:=by omega
 obtain ⟨e1,e2⟩:=tm_yes (zb_f h) (by omega) (by omega) hu
 exact ⟨e1,by rw[e2,szI_end ho]⟩
inductive fG (n:Nat) (L:List JV):kV→Prop
 |c {p:Rat} (hp:QL p 1048576):fG n L ⟨0,0,0,jN p⟩
 |v {a:Nat} (ha:a<n):fG n L ⟨1,(a:Int),0,zr⟩
 |add {a b:Nat} (ha:a<L.length) (hb:b<L.length):fG n L ⟨2,(a:Int),(b:Int),zr⟩
 |sub {a b:Nat} (ha:a<L.length) (hb:b<L.length):fG n L ⟨3,(a:Int),(b:Int),zr⟩
 |mul {a b:Nat} (ha:a<L.length) (hb:b<L.length):fG n L ⟨4,(a:Int),(b:Int),zr⟩
 |div {a b:Nat} (ha:a<L.length) (hb:b<L.length) (hz:yV (L.getD b jz).v.1 (L.getD b jz).v.2=false):fG n L ⟨5,(a:Int),(b:Int),zr⟩
 |neg {a:Nat} (ha:a<L.length):fG n L ⟨6,(a:Int),0,zr⟩
 |sq {a:Nat} (ha:a<L.length):fG n L ⟨7,(a:Int),0,zr⟩
theorem nat_of{a:Int}(h:0≤a):∃ m:Nat,a=(m:Int):=⟨a.toNat,by omega⟩
theorem nd_ok{bx:List R2}{t:List kV}{k:Nat}{ss:List Int}(h:ndC ((bx.length:Nat):Int) ss (t.getD k tz)=0)(hs:ss.length=k)(hq:gW (t.getD k tz).n (qP (t.getD k tz).n) 1048576)
  (hz:(t.getD k tz).op=5→yV (jA (jU bx t k) (t.getD k tz).b).v.1 (jA (jU bx t k) (t.getD k tz).b).v.2=false):fG bx.length (jU bx t k) (t.getD k tz):=by
 obtain ⟨h1,h2,h3,_⟩:=nd_0 h
 have hl:=dP bx t k
 rw[hs] at h2
 generalize t.getD k tz=x at *
 generalize jU bx t k=L at *
 obtain ⟨op,a,b,n⟩:=x
 unfold fQ at h1
 unfold iY at h2
 unfold rngN at h3
 dsimp only at *
 have hu:op≠0→n=zr:=fun h=>uns_eq (by
  cases hh:unsB n with
  |true=>rfl
  |false=>exact absurd (Or.inr (Or.inr (Or.inr ⟨h,hh⟩))) h1)
 rcases aD op with ⟨e,f⟩ | ⟨e,f⟩ | ⟨e,f⟩ | ⟨e,f⟩
 ·have hb:b=0:=by omega
  subst hb
  rcases f with f | f
  ·subst f
   have ha:a=0:=by omega
   subst ha
   have hv:kR n=true:=by
    cases hh:kR n with
    |true=>rfl
    |false=>exact absurd (Or.inr (Or.inr (Or.inl ⟨rfl,Or.inr hh⟩))) h1
   rw[← ofQ_toQ hv] at hq ⊢
   rw[gP] at hq
   exact .c (hq.ql)
  ·subst f
   obtain ⟨m,hm⟩:=nat_of (a:=a) (by omega)
   subst hm
   rw[hu (by decide)]
   exact .v (by omega)
 ·have hb:b=0:=by omega
  subst hb
  obtain ⟨m,hm⟩:=nat_of (a:=a) (by omega)
  subst hm
  rw[hu (by omega)]
  rcases f with f | f<;>subst f
  ·exact .neg (by omega)
  ·exact .sq (by omega)
 ·obtain ⟨m,hm⟩:=nat_of (a:=a) (by omega)
  subst hm
  obtain ⟨l,hl'⟩:=nat_of (a:=b) (by omega)
  subst hl'
  rw[hu (by omega)]
  rcases f with f | f | f | f<;>subst f
  ·exact .add (by omega) (by omega)
  ·exact .sub (by omega) (by omega)
  ·exact .mul (by omega) (by omega)
  ·refine .div (by omega) (by omega) ?_
   have:=hz rfl
   unfold jA at this
   rwa [Int.toNat_natCast] at this
 ·omega
structure JRun (bx:List R2) (t:List kV):Prop where
 c0:nY ((bx.length:Nat):Int) t=0
 ok:∀ k,k<t.length→nQ 1048576 bx.length (nJ bx (jU bx t k) (t.getD k tz))
 dz:∀ k,k<t.length→(t.getD k tz).op=5→yV (jA (jU bx t k) (t.getD k tz).b).v.1 (jA (jU bx t k) (t.getD k tz).b).v.2=false
theorem JRun.upto{bx:List R2}{t:List kV}(h:JRun bx t):∀ {k},k≤t.length→∀ y∈jU bx t k,nQ 1048576 bx.length y
 |0,_,y,hy=>by simp [jU] at hy
 |k+1,hk,y,hy=>by
  rw[jU,List.mem_append] at hy
  rcases hy with hy | hy
  ·exact h.upto (by omega) y hy
  ·rw[List.mem_singleton] at hy;subst hy
   exact h.ok k (by omega)
theorem JRun.nd{bx:List R2}{t:List kV}(h:JRun bx t)(hq:∀ x∈t,gW x.n (qP x.n) 1048576){k:Nat}(hk:k<t.length):fG bx.length (jU bx t k) (t.getD k tz):=by
 have h0:=tm_0 h.c0
 refine nd_ok (h0.2.2.2.2 k hk) (nF t k) ?_ (h.dz k hk)
 rw[List.getD_eq_getElem?_getD,List.getElem?_eq_getElem hk];exact hq _ (List.getElem_mem _)
def vZ(bx:List R2)(t:List kV):JV:=(jU bx t t.length).getD (t.length-1) jz
theorem JRun.last{bx:List R2}{t:List kV}(h:JRun bx t):nQ 1048576 bx.length (vZ bx t):=by
 have h0:=tm_0 h.c0
 have hl:=dP bx t t.length
 unfold vZ
 rw[List.getD_eq_getElem?_getD,List.getElem?_eq_getElem (by omega)]
 exact h.upto (Nat.le_refl _) _ (List.getElem_mem _)
end Go.Fid
