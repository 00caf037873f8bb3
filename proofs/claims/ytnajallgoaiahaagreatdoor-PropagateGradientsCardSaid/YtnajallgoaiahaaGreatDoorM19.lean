/- Part 19 of a proof: rules, plain facts, and functions walked. -/
import Derived.Test.YtnajallgoaiahaaGreatDoorM18
import Derived.Test.YtnajallgoaiahaaGreatDoorM11
import Derived.Test.YtnajallgoaiahaaGreatDoorM9
import Derived.Test.YtnajallgoaiahaaGreatDoorM10
set_option linter.unusedVariables false
set_option linter.unusedSimpArgs false
set_option maxRecDepth 4000
namespace Go.Proofs.YtnajallgoaiahaaGreatDoor
open Go.Fid
theorem cb39:callB Tryz.prog 39=true:=by kernel_rfl
theorem cb40:callB Tryz.prog 40=true:=by kernel_rfl
theorem cb100:callB Tryz.prog 100=true:=by kernel_rfl
theorem cb114:callB Tryz.prog 114=true:=by kernel_rfl
theorem cb115:callB Tryz.prog 115=true:=by kernel_rfl
theorem cb167:callB Tryz.prog 167=true:=by kernel_rfl
theorem h_hasR(a:jO)(p:Rat)(q:Rat)(hp:gX a.lo p 4294967296)(hq:gX a.hi q 4294967296)(x:kF)(v:Rat)(hx:gX x v 4294967296):jS Tryz.prog 55 [(jD a),(jL x)] (.val (.bool ((hasQ p q v)))):=by
 refine jJ Tryz.func55 rfl cb55 rfl ?_
 show qM _ _ _ _ ⟨[(0,(.d (jD a))),(1,(.d (jL x)))],[]⟩
 refine jB<|kx [(2,(.ref 0 0)),(3,(.ref 1 0))] [(0,some (bx (jD a))),(1,some (bx (jL x)))] (zN (uY 0)<|zN (uY 1)<|zM<|zZ) ?_
 refine jB<|kx [(4,(vb (decide ((yE p v)≤0)&&decide ((yE v q)≤0))))] [] ?_ ?_
 ·refine zE (qA vT)<|zR (kP jW)<|zR (kP jW)<|zE (kA (bB a.lo x p v hp hx))<|zE oLe<|zE (oV (vb (decide ((yE p v)≤0))) (qQ (by kernel_rfl)))<|?_
  rcases hb1:(decide ((yE p v)≤0)) with _ | _
  ·replace hb1:=vM hb1
   exact zK<|zK<|zK<|zK<|zK<|zE gE<|zM<|zZ
  ·replace hb1:=vJ hb1
   exact zR (kP jW)<|zE (qA xF)<|zR (kP jW)<|zE (kA (bB x a.hi v q hx hq))<|zE oLe<|zE fA<|zM<|zZ
 refine jG ⟨_,(.tmp (d:=(.val (.bool ((decide ((yE p v)≤0)&&decide ((yE v q)≤0)))))) rfl .nil),?_⟩
 rw[← hasQ_eq];rfl
theorem h_neg(a:jO)(p:Rat)(q:Rat)(hp:gX a.lo p 4294967296)(hq:gX a.hi q 4294967296):jS Tryz.prog 100 [(jD a)] (jD (jO.mk (jM (-q)) (jM (-p)))):=by
 refine jJ Tryz.func100 rfl cb100 rfl ?_
 show qM _ _ _ _ ⟨[(0,(.d (jD a)))],[]⟩
 refine jB<|kx [(1,(.ref 0 0)),(2,(.ref 1 0))] [(0,some (bx (jD a))),(1,some (bx (jD (jO.mk kR kR))))] (zN (uY 0)<|zN (qW 1 qL qR)<|zZ) ?_
 refine jB<|kd [] [(1,some (bx (jD (jO.mk (jM (-q)) (jM (-p))))))] mo (wE (qA xF)<|wR (kP jW)<|wE (kA (g_neg a.hi q (jQ hq (by decide))))<|wE (qA vT)<|wR (kP jW)<|wE (kA (g_neg a.lo p (jQ hp (by decide))))<|wE (cS pl61 qL qR)<|wT (qF jY)<|wZ) ?_
 refine jG ⟨_,(kJ (cs:=(bx (jD (jO.mk (jM (-q)) (jM (-p)))))) (d:=(jD (jO.mk (jM (-q)) (jM (-p))))) rfl rfl jY rfl rfl .nil),?_⟩
 rfl
theorem h_add(a:jO)(p:Rat)(q:Rat)(hp:gX a.lo p 1073741824)(hq:gX a.hi q 1073741824)(b:jO)(r:Rat)(s:Rat)(hr:gX b.lo r 1073741824)(hs:gX b.hi s 1073741824):jS Tryz.prog 39 [(jD a),(jD b)] (jD (jO.mk (jM (p+r)) (jM (q+s)))):=by
 refine jJ Tryz.func39 rfl cb39 rfl ?_
 show qM _ _ _ _ ⟨[(0,(.d (jD a))),(1,(.d (jD b)))],[]⟩
 refine jB<|kx [(2,(.ref 0 0)),(3,(.ref 1 0)),(4,(.ref 2 0))] [(0,some (bx (jD a))),(1,some (bx (jD b))),(2,some (bx (jD (jO.mk kR kR))))] (zN (uY 0)<|zN (uY 1)<|zN (qW 2 qL qR)<|zZ) ?_
 refine jB<|kd [] [(2,some (bx (jD (jO.mk (jM (p+r)) (jM (q+s))))))] mo (wE (qA vT)<|wR (kP jW)<|wE (qA vT)<|wR (kP jW)<|wE (kA (g_add a.lo b.lo p r (jQ hp (by decide)) (jQ hr (by decide))))<|wE (qA xF)<|wR (kP jW)<|wE (qA xF)<|wR (kP jW)<|wE (kA (g_add a.hi b.hi q s (jQ hq (by decide)) (jQ hs (by decide))))<|wE (cS pl61 qL qR)<|wT (qF jY)<|wZ) ?_
 refine jG ⟨_,(kJ (cs:=(bx (jD (jO.mk (jM (p+r)) (jM (q+s)))))) (d:=(jD (jO.mk (jM (p+r)) (jM (q+s))))) rfl rfl jY rfl rfl .nil),?_⟩
 rfl
theorem h_sub(a:jO)(p:Rat)(q:Rat)(hp:gX a.lo p 1073741824)(hq:gX a.hi q 1073741824)(b:jO)(r:Rat)(s:Rat)(hr:gX b.lo r 1073741824)(hs:gX b.hi s 1073741824):jS Tryz.prog 40 [(jD a),(jD b)] (jD (jO.mk (jM (p-s)) (jM (q-r)))):=by
 refine jJ Tryz.func40 rfl cb40 rfl ?_
 show qM _ _ _ _ ⟨[(0,(.d (jD a))),(1,(.d (jD b)))],[]⟩
 refine jB<|kx [(2,(.ref 0 0)),(3,(.ref 1 0)),(4,(.ref 2 0))] [(0,some (bx (jD a))),(1,some (bx (jD b))),(2,some (bx (jD (jO.mk kR kR))))] (zN (uY 0)<|zN (uY 1)<|zN (qW 2 qL qR)<|zZ) ?_
 refine jB<|kd [] [(2,some (bx (jD (jO.mk (jM (p+(-s))) (jM (q+(-r)))))))] mo (wR (kP jY)<|wR (kP jY)<|wE (kA (h_neg b r s (jQ hr (by decide)) (jQ hs (by decide))))<|wE (kA (h_add a p q hp hq (jO.mk (jM (-s)) (jM (-r))) (-s) (-r) (kB (ql_neg hs.ql)) (kB (ql_neg hr.ql))))<|wT (qF jY)<|wZ) ?_
 refine jG ⟨_,(kJ (cs:=(bx (jD (jO.mk (jM (p+(-s))) (jM (q+(-r))))))) (d:=(jD (jO.mk (jM (p+(-s))) (jM (q+(-r)))))) rfl rfl jY rfl rfl .nil),?_⟩
 rw[Rat.sub_eq_add_neg,Rat.sub_eq_add_neg];rfl
theorem h_mul(a:jO)(p:Rat)(q:Rat)(hp:gX a.lo p 2147483648)(hq:gX a.hi q 2147483648)(b:jO)(r:Rat)(s:Rat)(hr:gX b.lo r 2147483648)(hs:gX b.hi s 2147483648):jS Tryz.prog 114 [(jD a),(jD b)] (jD (jO.mk (jM (yV (p*r) [(p*s),(q*r),(q*s)])) (jM (gJ (p*r) [(p*s),(q*r),(q*s)])))):=by
 refine jJ Tryz.func114 rfl cb114 rfl ?_
 show qM _ _ _ _ ⟨[(0,(.d (jD a))),(1,(.d (jD b)))],[]⟩
 refine jB<|kx [(2,(.ref 0 0)),(3,(.ref 1 0)),(4,(.ref 2 0))] [(0,some (bx (jD a))),(1,some (bx (jD b))),(2,some (bx (jD (jO.mk kR kR))))] (zN (uY 0)<|zN (uY 1)<|zN (qW 2 qL qR)<|zZ) ?_
 refine jB<|kd [] [(2,some (bx (jD (jO.mk (jM (yV (p*r) [(p*s),(q*r),(q*s)])) (jM (gJ (p*r) [(p*s),(q*r),(q*s)]))))))] mo (wE (qA vT)<|wR (kP jW)<|wE (qA vT)<|wR (kP jW)<|wE (kA (g_mul a.lo b.lo p r (jQ hp (by decide)) (jQ hr (by decide))))<|wE (qA vT)<|wR (kP jW)<|wE (qA xF)<|wR (kP jW)<|wE (kA (g_mul a.lo b.hi p s (jQ hp (by decide)) (jQ hs (by decide))))<|wE (qA xF)<|wR (kP jW)<|wE (qA vT)<|wR (kP jW)<|wE (kA (g_mul a.hi b.lo q r (jQ hq (by decide)) (jQ hr (by decide))))<|wE (qA xF)<|wR (kP jW)<|wE (qA xF)<|wR (kP jW)<|wE (kA (g_mul a.hi b.hi q s (jQ hq (by decide)) (jQ hs (by decide))))<|wE (mC vE uH uN)<|wE (kA (h_spanned (p*r) [(p*s),(q*r),(q*s)] (List.forall_mem_cons.2 ⟨(uC (k:=4294967296) hp.ql hr.ql (by decide)),(List.forall_mem_cons.2 ⟨(uC (k:=4294967296) hp.ql hs.ql (by decide)),(List.forall_mem_cons.2 ⟨(uC (k:=4294967296) hq.ql hr.ql (by decide)),(List.forall_mem_cons.2 ⟨(uC (k:=4294967296) hq.ql hs.ql (by decide)),(fun a h=>by cases h)⟩)⟩)⟩)⟩) (by simp)))<|wT (qF jY)<|wZ) ?_
 refine jG ⟨_,(kJ (cs:=(bx (jD (jO.mk (jM (yV (p*r) [(p*s),(q*r),(q*s)])) (jM (gJ (p*r) [(p*s),(q*r),(q*s)])))))) (d:=(jD (jO.mk (jM (yV (p*r) [(p*s),(q*r),(q*s)])) (jM (gJ (p*r) [(p*s),(q*r),(q*s)]))))) rfl rfl jY rfl rfl .nil),?_⟩
 rfl
theorem h_square(a:jO)(p:Rat)(q:Rat)(hp:gX a.lo p 1073741824)(hq:gX a.hi q 1073741824):jS Tryz.prog 115 [(jD a)] (jD (jO.mk (jM (sqL p q)) (jM (sqH p q)))):=by
 refine jJ Tryz.func115 rfl cb115 rfl ?_
 show qM _ _ _ _ ⟨[(0,(.d (jD a)))],[]⟩
 refine jB<|kx [(1,(.ref 0 0)),(2,(.ref 1 0))] [(0,some (bx (jD a))),(1,some (bx (jD (jO.mk kR kR))))] (zN (uY 0)<|zN (qW 1 qL qR)<|zZ) ?_
 refine jB<|kd [(3,(.own 2 45 4 2))] [(2,some (qB jL [(jM (p*p)),(jM (q*q))]))] mo (wE (qA vT)<|wR (kP jW)<|wE (qA vT)<|wR (kP jW)<|wE (kA (g_mul a.lo a.lo p p (jQ hp (by decide)) (jQ hp (by decide))))<|wE (qA xF)<|wR (kP jW)<|wE (qA xF)<|wR (kP jW)<|wE (kA (g_mul a.hi a.hi q q (jQ hq (by decide)) (jQ hq (by decide))))<|wN (oBo 2 vE uH uN)<|wM<|wZ) ?_
 refine jB<|jB<|kd [(17,(vb (hasQ p q ((0:Int):Rat))))] [] mo (wR (kP jY)<|wE (kA (nX 0 (by decide) (by decide)))<|wE (kA (h_hasR a p q (jQ hp (by decide)) (jQ hq (by decide)) (jM ((0:Int):Rat)) ((0:Int):Rat) (jQ (kB (zB (z:=0) (vY (by decide)) (by decide))) (by decide))))<|wZ) ?_
 refine jH (b:=(hasQ p q ((0:Int):Rat))) rfl (fun h1=>?_) (fun h1=>?_)
 ·refine kf [(3,(.own 2 45 4 ([(jM (p*p)),(jM (q*q)),(jM ((0:Int):Rat))].length)))] [(2,some (qB jL [(jM (p*p)),(jM (q*q)),(jM ((0:Int):Rat))]))] (zM<|zE (kA (nX 0 (by decide) (by decide)))<|zE (mC vE uH uN)<|zAS jL [(jM (p*p)),(jM (q*q))] [(jM ((0:Int):Rat))] rfl vE uH by45<|zM<|zF) ?_
  refine jB<|jV (xA (t:=3) (k:=2) (es:=List.map jL [(jM (p*p)),(jM (q*q)),(jM ((0:Int):Rat))]) rfl rfl (vD _ _ (fun _=>rfl)) (qY _ _ rfl) (xB jL [(jM (p*p)),(jM (q*q)),(jM ((0:Int):Rat))] (fun _=>rfl) rfl)) ?_
  refine kx [] [(1,some (bx (jD (jO.mk (jM (yV (p*p) [(q*q),((0:Int):Rat)])) (jM (gJ (p*p) [(q*q),((0:Int):Rat)]))))))] (zM<|zE (kA (h_spanned (p*p) [(q*q),((0:Int):Rat)] (List.forall_mem_cons.2 ⟨(xW (uC (k:=2147483648) hp.ql hp.ql (by decide)) (by decide)),(List.forall_mem_cons.2 ⟨(xW (uC (k:=2147483648) hq.ql hq.ql (by decide)) (by decide)),(List.forall_mem_cons.2 ⟨(xW (zB (z:=0) (vY (by decide)) (by decide)) (by decide)),(fun a h=>by cases h)⟩)⟩)⟩) (by simp)))<|zT (qF jY)<|zZ) ?_
  refine jG ⟨_,(kJ (cs:=(bx (jD (jO.mk (jM (yV (p*p) [(q*q),((0:Int):Rat)])) (jM (gJ (p*p) [(q*q),((0:Int):Rat)])))))) (d:=(jD (jO.mk (jM (yV (p*p) [(q*q),((0:Int):Rat)])) (jM (gJ (p*p) [(q*q),((0:Int):Rat)]))))) rfl rfl jY rfl rfl .nil),?_⟩
  rw[sq_hasL h1,sq_hasH];rfl
 ·refine jF<|jB<|jV (xA (t:=3) (k:=2) (es:=List.map jL [(jM (p*p)),(jM (q*q))]) rfl rfl (vD _ _ (fun _=>rfl)) (qY _ _ rfl) (xB jL [(jM (p*p)),(jM (q*q))] (fun _=>rfl) rfl)) ?_
  refine kx [] [(1,some (bx (jD (jO.mk (jM (yV (p*p) [(q*q)])) (jM (gJ (p*p) [(q*q)]))))))] (zM<|zE (kA (h_spanned (p*p) [(q*q)] (List.forall_mem_cons.2 ⟨(xW (uC (k:=2147483648) hp.ql hp.ql (by decide)) (by decide)),(List.forall_mem_cons.2 ⟨(xW (uC (k:=2147483648) hq.ql hq.ql (by decide)) (by decide)),(fun a h=>by cases h)⟩)⟩) (by simp)))<|zT (qF jY)<|zZ) ?_
  refine jG ⟨_,(kJ (cs:=(bx (jD (jO.mk (jM (yV (p*p) [(q*q)])) (jM (gJ (p*p) [(q*q)])))))) (d:=(jD (jO.mk (jM (yV (p*p) [(q*q)])) (jM (gJ (p*p) [(q*q)]))))) rfl rfl jY rfl rfl .nil),?_⟩
  rw[sq_noL h1];rfl
theorem h_divideZ(p:Rat)(q:Rat)(hp:QL p 1073741824)(hq:QL q 1073741824)(hpq:p≤q)(r:Rat)(s:Rat)(hr:QL r 1073741824)(hs:QL s 1073741824)(hrs:r≤s)(hz:yS r s=true):jS Tryz.prog 167 [(jD (jO.mk (jM p) (jM q))),(jD (jO.mk (jM r) (jM s)))] (.tup [(jD (jO.mk kR kR)),(.val (.int .i64 (14)))]):=by
 refine jJ Tryz.func167 rfl cb167 rfl ?_
 show qM _ _ _ _ ⟨[(0,(.d (jD (jO.mk (jM p) (jM q))))),(1,(.d (jD (jO.mk (jM r) (jM s)))))],[]⟩
 refine jB<|kx [(2,(.ref 0 0)),(3,(.ref 1 0)),(4,(.ref 2 0))] [(0,some (bx (jD (jO.mk (jM p) (jM q))))),(1,some (bx (jD (jO.mk (jM r) (jM s))))),(2,some (bx (jD (jO.mk kR kR))))] (zN (uY 0)<|zN (uY 1)<|zN (qW 2 qL qR)<|zM<|zZ) ?_
 refine jB<|jB<|kd [(12,(vb true))] [] mo (wR (kP jY)<|wE (kA (nX 0 (by decide) (by decide)))<|wE (uR true (kA (h_hasR (jO.mk (jM r) (jM s)) r s (jQ (kB hr) (by decide)) (jQ (kB hs) (by decide)) (jM ((0:Int):Rat)) ((0:Int):Rat) (jQ (kB (zB (z:=0) (vY (by decide)) (by decide))) (by decide)))) (by exact hz))<|wZ) ?_
 refine uD ?_
 refine jB<|kx [(5,(jK 14))] [(2,some (bx (jD (jO.mk kR kR))))] (zE (cS pl61 qL qR)<|zT (qF jY)<|zM<|zZ) ?_
 refine jG ⟨_,(kJ (cs:=(bx (jD (jO.mk kR kR)))) (d:=(jD (jO.mk kR kR))) rfl rfl jY rfl rfl (.tmp (d:=(.val (.int .i64 (14)))) rfl .nil)),?_⟩
 rfl
theorem h_divide(p:Rat)(q:Rat)(hp:QL p 1073741824)(hq:QL q 1073741824)(hpq:p≤q)(r:Rat)(s:Rat)(hr:QL r 1073741824)(hs:QL s 1073741824)(hrs:r≤s)(hz:yS r s=false):jS Tryz.prog 167 [(jD (jO.mk (jM p) (jM q))),(jD (jO.mk (jM r) (jM s)))] (.tup [(jD (jO.mk (jM (yV (p / r) [(p / s),(q / r),(q / s)])) (jM (gJ (p / r) [(p / s),(q / r),(q / s)])))),(.val (.int .i64 (0)))]):=by
 obtain ⟨hr0,hs0⟩:=zeroG_ne hrs hz
 refine jJ Tryz.func167 rfl cb167 rfl ?_
 show qM _ _ _ _ ⟨[(0,(.d (jD (jO.mk (jM p) (jM q))))),(1,(.d (jD (jO.mk (jM r) (jM s)))))],[]⟩
 refine jB<|kx [(2,(.ref 0 0)),(3,(.ref 1 0)),(4,(.ref 2 0))] [(0,some (bx (jD (jO.mk (jM p) (jM q))))),(1,some (bx (jD (jO.mk (jM r) (jM s))))),(2,some (bx (jD (jO.mk kR kR))))] (zN (uY 0)<|zN (uY 1)<|zN (qW 2 qL qR)<|zM<|zZ) ?_
 refine jB<|jB<|kd [(12,(vb false))] [] mo (wR (kP jY)<|wE (kA (nX 0 (by decide) (by decide)))<|wE (uR false (kA (h_hasR (jO.mk (jM r) (jM s)) r s (jQ (kB hr) (by decide)) (jQ (kB hs) (by decide)) (jM ((0:Int):Rat)) ((0:Int):Rat) (jQ (kB (zB (z:=0) (vY (by decide)) (by decide))) (by decide)))) (by exact hz))<|wZ) ?_
 refine kI ?_
 refine jF<|jB<|kd [(6,(.ref 3 0))] [(3,some (bx (jL (jM (((1:Int):Rat) / s)))))] mo (wE (kA (nX 1 (by decide) (by decide)))<|wE (qA xF)<|wR (kP jW)<|wE (kA (by have h:=g_divide (jM ((1:Int):Rat)) (jM s) ((1:Int):Rat) s (jQ (kB (zB (z:=1) (vY (by decide)) (by decide))) (by decide)) (jQ (kB hs) (by decide));rw[divR_ne hs0,divC_ne hs0] at h;exact h))<|wM<|wE vI<|wE vI<|wN (qW 3 uH uN)<|wT (qF jW)<|wM<|wZ) ?_
 refine jB<|kd [(8,(.ref 4 0))] [(4,some (bx (jL (jM (((1:Int):Rat) / r)))))] mo (wE (kA (nX 1 (by decide) (by decide)))<|wE (qA vT)<|wR (kP jW)<|wE (kA (by have h:=g_divide (jM ((1:Int):Rat)) (jM r) ((1:Int):Rat) r (jQ (kB (zB (z:=1) (vY (by decide)) (by decide))) (by decide)) (jQ (kB hr) (by decide));rw[divR_ne hr0,divC_ne hr0] at h;exact h))<|wM<|wE vI<|wE vI<|wN (qW 4 uH uN)<|wT (qF jW)<|wM<|wZ) ?_
 refine jB<|kx [(5,(jK 0))] [(2,some (bx (jD (jO.mk (jM (yV (p*(((1:Int):Rat) / s)) [(p*(((1:Int):Rat) / r)),(q*(((1:Int):Rat) / s)),(q*(((1:Int):Rat) / r))])) (jM (gJ (p*(((1:Int):Rat) / s)) [(p*(((1:Int):Rat) / r)),(q*(((1:Int):Rat) / s)),(q*(((1:Int):Rat) / r))]))))))] (zR (kP jY)<|zR (kP jW)<|zR (kP jW)<|zE (cS pl61 qL qR)<|zE (kA (h_mul (jO.mk (jM p) (jM q)) p q (jQ (kB hp) (by decide)) (jQ (kB hq) (by decide)) (jO.mk (jM (((1:Int):Rat) / s)) (jM (((1:Int):Rat) / r))) (((1:Int):Rat) / s) (((1:Int):Rat) / r) (jQ (kB (aQ (k:=1073741825) (zB (z:=1) (vY (by decide)) (by decide)) hs (by decide))) (by decide)) (jQ (kB (aQ (k:=1073741825) (zB (z:=1) (vY (by decide)) (by decide)) hr (by decide))) (by decide))))<|zT (qF jY)<|zM<|zZ) ?_
 refine jG ⟨_,(kJ (cs:=(bx (jD (jO.mk (jM (yV (p*(((1:Int):Rat) / s)) [(p*(((1:Int):Rat) / r)),(q*(((1:Int):Rat) / s)),(q*(((1:Int):Rat) / r))])) (jM (gJ (p*(((1:Int):Rat) / s)) [(p*(((1:Int):Rat) / r)),(q*(((1:Int):Rat) / s)),(q*(((1:Int):Rat) / r))])))))) (d:=(jD (jO.mk (jM (yV (p*(((1:Int):Rat) / s)) [(p*(((1:Int):Rat) / r)),(q*(((1:Int):Rat) / s)),(q*(((1:Int):Rat) / r))])) (jM (gJ (p*(((1:Int):Rat) / s)) [(p*(((1:Int):Rat) / r)),(q*(((1:Int):Rat) / s)),(q*(((1:Int):Rat) / r))]))))) rfl rfl jY rfl rfl (.tmp (d:=(.val (.int .i64 (0)))) rfl .nil)),?_⟩
 rw[← recip_lo,← recip_hi];rfl
end Go.Proofs.YtnajallgoaiahaaGreatDoor
namespace Go.Fid
inductive LOk (n:Nat):List qG→List Int→Prop
 |nil:LOk n [] []
 |cons {x:qG} {z:Int} {l:List qG} {zs:List Int} (h:gR x z n) (t:LOk n l zs):LOk n (x::l) (z::zs)
theorem iok_nilN(n:Nat):gR ⟨false,[]⟩ 0 n:=⟨by decide,Nat.zero_le _⟩
theorem LOk.len{n:Nat}{l:List qG}{zs:List Int}(h:LOk n l zs):l.length=zs.length:=by
 induction h with
 |nil=>rfl
 |cons h t ih=>simp [ih]
theorem LOk.get{n:Nat}{l:List qG}{zs:List Int}(h:LOk n l zs)(i:Nat):gR (l.getD i ⟨false,[]⟩) (zs.getD i 0) n:=by
 induction h generalizing i with
 |nil=>exact iok_nilN n
 |cons h t ih=>
  rcases i with _ | i
  ·exact h
  ·exact ih i
theorem LOk.all{n:Nat}{l:List qG}{zs:List Int}(h:LOk n l zs):∀ z∈zs,cB z≤n:=by
 induction h with
 |nil=>simp
 |cons h t ih=>
  intro z hz
  rcases List.mem_cons.1 hz with rfl | hz
  ·exact h.ln
  ·exact ih z hz
theorem LOk.up{m n:Nat}{l:List qG}{zs:List Int}(h:LOk m l zs)(hm:m≤n):LOk n l zs:=by
 induction h with
 |nil=>exact .nil
 |cons h t ih=>exact .cons (nA h hm) ih
theorem signI_ne{z:Int}(h:z≠0):uL z≠0:=by
 unfold uL;split<;>(try split)<;>omega
theorem LOk.map{n:Nat}{l:List qG}{zs:List Int}(h:LOk n l zs):l.map kH=zs:=by
 induction h with
 |nil=>rfl
 |cons h t ih=>rw[List.map_cons,ih,h.v]
theorem all_nil{l:List qG}(h:∀ x∈l,x=qG.mk false [])(i:Nat):l.getD i (qG.mk false [])=qG.mk false []:=by
 rw[List.getD]
 cases hj:l[i]? with
 |none=>rfl
 |some q=>exact h q (List.mem_of_getElem? hj)
end Go.Fid
namespace Go.Proofs.YtnajallgoaiahaaGreatDoor
open Go.Fid
def zU(n:Nat)(l:List kF):Prop:=(∀ a∈l,gX a (qN a) n)∧l.length≤140737488355328
def mO(n:Nat)(m:List (List kF)):Prop:=(∀ r∈m,zU n r)∧m.length≤140737488355328
def cQ(l:List kF):Bool:=l.all kW
theorem xZ{l:List kF}{n j:Nat}{d:kF}(h:∀ a∈l,gX a (qN a) n)(hj:j<l.length):gX (l.getD j d) (qN (l.getD j d)) n:=by
 rw[List.getD_eq_getElem?_getD,List.getElem?_eq_getElem hj];exact h _ (List.getElem_mem hj)
theorem row_up{n k:Nat}{l:List kF}(h:zU n l)(hk:n≤k):zU k l:=⟨fun a ha=>jQ (h.1 a ha) hk,h.2⟩
theorem mat_up{n k:Nat}{m:List (List kF)}(h:mO n m)(hk:n≤k):mO k m:=⟨fun a ha=>row_up (h.1 a ha) hk,h.2⟩
theorem yK{n i:Nat}{m:List (List kF)}{d:List kF}(h:mO n m)(hi:i<m.length):zU n (m.getD i d):=by
 rw[List.getD_eq_getElem?_getD,List.getElem?_eq_getElem hi];exact h.1 _ (List.getElem_mem hi)
theorem valid_get{i:Nat}{l:List kF}{d:kF}(h:cQ l=true)(hi:i<l.length):kW (l.getD i d)=true:=by
 rw[List.getD_eq_getElem?_getD,List.getElem?_eq_getElem hi];exact List.all_eq_true.1 h _ (List.getElem_mem hi)
theorem take_all{α:Type}{f:α→Bool}{l:List α}{i:Nat}{d:α}(h:i<l.length):(l.take (i+1)).all f=((l.take i).all f&&f (l.getD i d)):=by
 rw[List.getD_eq_getElem?_getD,List.getElem?_eq_getElem h,List.take_succ_eq_append_getElem h,List.all_append]
 simp
end Go.Proofs.YtnajallgoaiahaaGreatDoor
namespace Go.Fid
def xP(o:Int):Int:=if o=0∨o=1 then 0 else if o=6∨o=7 then 1 else if o=2∨o=3∨o=4∨o=5 then 2 else -1
theorem fK(o:Int):(xP o=0∧(o=0∨o=1))∨(xP o=1∧(o=6∨o=7))∨(xP o=2∧(o=2∨o=3∨o=4∨o=5))∨(xP o=-1∧¬ (o=0∨o=1)∧¬ (o=6∨o=7)∧¬ (o=2∨o=3∨o=4∨o=5)):=by
 unfold xP
 by_cases h1:o=0∨o=1
 ·exact .inl ⟨if_pos h1,h1⟩
 by_cases h2:o=6∨o=7
 ·exact .inr (.inl ⟨by rw[if_neg h1,if_pos h2],h2⟩)
 by_cases h3:o=2∨o=3∨o=4∨o=5
 ·exact .inr (.inr (.inl ⟨by rw[if_neg h1,if_neg h2,if_pos h3],h3⟩))
 ·exact .inr (.inr (.inr ⟨by rw[if_neg h1,if_neg h2,if_neg h3],h1,h2,h3⟩))
def unsB(x:kF):Bool:=((!x.num.neg&&!x.den.neg)&&(((x.num.gs.length:Nat):Int) == 0))&&(((x.den.gs.length:Nat):Int) == 0)
theorem uns_eq{x:kF}(h:unsB x=true):x=zr:=by
 obtain ⟨⟨n,g⟩,⟨m,d⟩⟩:=x
 unfold unsB at h
 simp only[Bool.and_eq_true,Bool.not_eq_true',beq_iff_eq] at h
 obtain ⟨⟨⟨h1,h2⟩,h3⟩,h4⟩:=h
 have e3:g=[]:=List.eq_nil_of_length_eq_zero (by omega)
 have e4:d=[]:=List.eq_nil_of_length_eq_zero (by omega)
 subst h1;subst h2;subst e3;subst e4
 rfl
def eN(x:qC):Prop:=xP x.op<0∨(xP x.op<2∧x.b≠0)∨(x.op=0∧(x.a≠0∨kW x.n=false))∨(x.op≠0∧unsB x.n=false)
instance (x:qC):Decidable (eN x):=by unfold eN;infer_instance
def bN(k:Int)(x:qC):Prop:=(0<xP x.op∧(x.a<0∨k≤x.a))∨(1<xP x.op∧(x.b<0∨k≤x.b))
instance (k:Int) (x:qC):Decidable (bN k x):=by unfold bN;infer_instance
def rngN(z:Int)(x:qC):Prop:=x.op=1∧(x.a<0∨z≤x.a)
instance (z:Int) (x:qC):Decidable (rngN z x):=by unfold rngN;infer_instance
def szN(ss:List Int)(x:qC):Int:=if xP x.op=0 then 1 else if x.op=6 then ss.getD x.a.toNat 0 else if x.op=7 then 2*ss.getD x.a.toNat 0 else ss.getD x.a.toNat 0+ss.getD x.b.toNat 0
def ndC(z:Int)(ss:List Int)(x:qC):Nat:=if eN x then 1 else if bN ((ss.length:Nat):Int) x then 5 else if rngN z x then 2 else if 4096<szN ss x then 3 else 0
def mZ(t:List qC):Nat→List Int
 |0=>[]
 |k+1=>mZ t k++[szN (mZ t k) (t.getD k tz)]
theorem nH(t:List qC):∀ k,(mZ t k).length=k
 |0=>rfl
 |k+1=>by rw[mZ,List.length_append,nH t k];rfl
def szUp(z:Int)(t:List qC)(k:Nat):Prop:=∀ i,i<k→ndC z (mZ t i) (t.getD i tz)=0
theorem szUp_0(z:Int)(t:List qC):szUp z t 0:=fun i h=>by omega
theorem szUp_s{z:Int}{t:List qC}{k:Nat}(h:szUp z t k)(hk:ndC z (mZ t k) (t.getD k tz)=0):szUp z t (k+1):=fun i hi=>by
 rcases Nat.lt_or_ge i k with h1 | h1
 ·exact h i h1
 ·obtain rfl:i=k:=by omega
  exact hk
def szE(z:Int)(t:List qC):Nat→Nat→Nat
 |0,_=>0
 |f+1,k=>if ndC z (mZ t k) (t.getD k tz)=0 then szE z t f (k+1) else ndC z (mZ t k) (t.getD k tz)
def gQ(z:Int)(t:List qC):Nat:=if z<0∨64<z then 2 else if t.length=0 then 1 else if 400<t.length then 3 else szE z t t.length 0
def tmL(z:Int)(t:List qC):List Int:=if gQ z t=0 then mZ t t.length else []
theorem szE_0{z:Int}{t:List qC}:∀ {f k:Nat},szE z t f k=0↔∀ i,k≤i→i<k+f→ndC z (mZ t i) (t.getD i tz)=0
 |0,k=>by simp only[szE,true_iff];intro i h1 h2;omega
 |f+1,k=>by
  unfold szE
  constructor
  ·intro h i h1 h2
   split at h
   ·rename_i h0
    rcases Nat.lt_or_ge k i with h3 | h3
    ·exact szE_0.1 h i (by omega) (by omega)
    ·obtain rfl:i=k:=by omega
     exact h0
   ·rename_i h0;exact absurd h h0
  ·intro h
   rw[if_pos (h k (Nat.le_refl _) (by omega))]
   exact szE_0.2 fun i h1 h2=>h i (by omega) (by omega)
theorem szE_at{z:Int}{t:List qC}{m:Nat}(hm:ndC z (mZ t m) (t.getD m tz)≠0):∀ {f k:Nat},k≤m→m<k+f→(∀ i,k≤i→i<m→ndC z (mZ t i) (t.getD i tz)=0)→szE z t f k=ndC z (mZ t m) (t.getD m tz)
 |0,k,h1,h2,_=>by omega
 |f+1,k,h1,h2,h=>by
  unfold szE
  rcases Nat.lt_or_ge k m with h3 | h3
  ·rw[if_pos (h k (Nat.le_refl _) h3)]
   exact szE_at hm (by omega) (by omega) fun i a b=>h i (by omega) b
  ·obtain rfl:k=m:=by omega
   rw[if_neg hm]
theorem tm_1{z:Int}{t:List qC}(h:z<0∨64<z):gQ z t=2:=if_pos h
theorem tm_2{z:Int}{t:List qC}(h:¬ (z<0∨64<z))(h1:t.length=0):gQ z t=1:=by unfold gQ;rw[if_neg h,if_pos h1]
theorem tm_3{z:Int}{t:List qC}(h:¬ (z<0∨64<z))(h1:t.length≠0)(h2:400<t.length):gQ z t=3:=by unfold gQ;rw[if_neg h,if_neg h1,if_pos h2]
theorem tm_e{z:Int}{t:List qC}(h:¬ (z<0∨64<z))(h1:t.length≠0)(h2:¬ 400<t.length):gQ z t=szE z t t.length 0:=by unfold gQ;rw[if_neg h,if_neg h1,if_neg h2]
theorem tm_no{z:Int}{t:List qC}{k:Nat}(h:¬ (z<0∨64<z))(h1:k<t.length)(h2:¬ 400<t.length)(hu:szUp z t k)(hc:ndC z (mZ t k) (t.getD k tz)≠0):gQ z t=ndC z (mZ t k) (t.getD k tz)∧tmL z t=[]:=by
 have e:gQ z t=ndC z (mZ t k) (t.getD k tz):=by
  rw[tm_e h (by omega) h2]
  exact szE_at hc (by omega) (by omega) fun i _ hi=>hu i hi
 exact ⟨e,if_neg (by rw[e];exact hc)⟩
theorem tm_yes{z:Int}{t:List qC}(h:¬ (z<0∨64<z))(h1:t.length≠0)(h2:¬ 400<t.length)(hu:szUp z t t.length):gQ z t=0∧tmL z t=mZ t t.length:=by
 have e:gQ z t=0:=by
  rw[tm_e h h1 h2]
  exact szE_0.2 fun i _ hi=>hu i (by omega)
 exact ⟨e,if_pos e⟩
theorem tm_n{z:Int}{t:List qC}(h:gQ z t≠0):tmL z t=[]:=if_neg h
theorem tm_0{z:Int}{t:List qC}(h:gQ z t=0):0≤z∧z≤64∧t.length≠0∧t.length≤400∧szUp z t t.length:=by
 by_cases h0:z<0∨64<z
 ·rw[tm_1 h0] at h;cases h
 by_cases h1:t.length=0
 ·rw[tm_2 h0 h1] at h;cases h
 by_cases h2:400<t.length
 ·rw[tm_3 h0 h1 h2] at h;cases h
 rw[tm_e h0 h1 h2] at h
 exact ⟨by omega,by omega,h1,by omega,fun i hi=>szE_0.1 h i (by omega) (by omega)⟩
theorem nd_0{z:Int}{ss:List Int}{x:qC}(h:ndC z ss x=0):¬ eN x∧¬ bN ((ss.length:Nat):Int) x∧¬ rngN z x∧szN ss x≤4096:=by
 unfold ndC at h
 split at h
 ·cases h
 ·rename_i h1
  split at h
  ·cases h
  ·rename_i h2
   split at h
   ·cases h
   ·rename_i h3
    split at h
    ·cases h
    ·rename_i h4
     exact ⟨h1,h2,h3,by omega⟩
theorem nd_1{z:Int}{ss:List Int}{x:qC}(h:eN x):ndC z ss x=1:=if_pos h
theorem nd_5{z:Int}{ss:List Int}{x:qC}(h:¬ eN x)(h2:bN ((ss.length:Nat):Int) x):ndC z ss x=5:=by unfold ndC;rw[if_neg h,if_pos h2]
theorem nd_2{z:Int}{ss:List Int}{x:qC}(h:¬ eN x)(h2:¬ bN ((ss.length:Nat):Int) x)(h3:rngN z x):ndC z ss x=2:=by unfold ndC;rw[if_neg h,if_neg h2,if_pos h3]
theorem nd_3{z:Int}{ss:List Int}{x:qC}(h:¬ eN x)(h2:¬ bN ((ss.length:Nat):Int) x)(h3:¬ rngN z x)(h4:4096<szN ss x):ndC z ss x=3:=by unfold ndC;rw[if_neg h,if_neg h2,if_neg h3,if_pos h4]
theorem nd_y{z:Int}{ss:List Int}{x:qC}(h:¬ eN x)(h2:¬ bN ((ss.length:Nat):Int) x)(h3:¬ rngN z x)(h4:¬ 4096<szN ss x):ndC z ss x=0:=by unfold ndC;rw[if_neg h,if_neg h2,if_neg h3,if_neg h4]
theorem sz_rng{z:Int}{t:List qC}:∀ {k:Nat},szUp z t k→∀ j,j<k→1≤(mZ t k).getD j 0∧(mZ t k).getD j 0≤4096
 |0,_,j,h=>by omega
 |k+1,hu,j,hj=>by
  have ih:=sz_rng (k:=k) (fun i hi=>hu i (by omega))
  have hl:=nH t k
  obtain ⟨h1,h2,h3,h4⟩:=nd_0 (hu k (by omega))
  rw[hl] at h2
  unfold mZ
  rcases Nat.lt_or_ge j k with h | h
  ·rw[List.getD_eq_getElem?_getD,List.getElem?_append_left (by omega),← List.getD_eq_getElem?_getD]
   exact ih j h
  ·obtain rfl:j=k:=by omega
   rw[List.getD_eq_getElem?_getD,List.getElem?_append_right (by omega),hl,Nat.sub_self]
   show 1≤szN (mZ t j) (t.getD j tz)∧szN (mZ t j) (t.getD j tz)≤4096
   refine ⟨?_,h4⟩
   have hA:∀ a:Int,0≤a→a<j→1≤(mZ t j).getD a.toNat 0:=fun a q1 q2=>(ih a.toNat (by omega)).1
   generalize t.getD j tz=x at *
   unfold szN bN eN at *
   rcases fK x.op with ⟨e,_⟩ | ⟨e,f⟩ | ⟨e,f⟩ | ⟨e,_⟩
   ·rw[if_pos e];exact Int.le_refl _
   ·have ha:=hA x.a (by omega) (by omega)
    rw[if_neg (by omega)]
    split
    ·exact ha
    ·split<;>omega
   ·have ha:=hA x.a (by omega) (by omega)
    have hb:=hA x.b (by omega) (by omega)
    rw[if_neg (by omega),if_neg (by omega),if_neg (by omega)]
    omega
   ·omega
def szI(t:List qC)(k:Nat)(o:List Int):Prop:=o.length=t.length∧o.take k=mZ t k
theorem szI_0{t:List qC}:szI t 0 (List.replicate t.length 0):=⟨List.length_replicate,rfl⟩
theorem szI.at{t:List qC}{k:Nat}{o:List Int}(h:szI t k o){j:Nat}(hj:j<k)(hk:k≤t.length):o.getD j 0=(mZ t k).getD j 0:=by
 rw[← h.2,List.getD_eq_getElem?_getD,List.getD_eq_getElem?_getD,List.getElem?_take_of_lt hj]
theorem szI.put{t:List qC}{k:Nat}{o:List Int}(h:szI t k o)(hk:k<t.length){v:Int}(hv:v=szN (mZ t k) (t.getD k tz)):szI t (k+1) (o.set k v):=by
 refine ⟨by rw[List.length_set];exact h.1,?_⟩
 have hl:=h.1
 rw[List.take_succ_eq_append_getElem (by rw[List.length_set];omega),List.getElem_set_self,List.take_set_of_le (Nat.le_refl k),h.2,mZ,hv]
theorem set_getD{o:List Int}{k:Nat}{v:Int}(h:k<o.length):(o.set k v).getD k 0=v:=by
 rw[List.getD_eq_getElem?_getD,List.getElem?_set_self h];rfl
theorem szI_end{t:List qC}{o:List Int}(h:szI t t.length o):o=mZ t t.length:=by
 rw[← h.2,← h.1,List.take_length]
def badB(x:qC):Bool:=(((decide (xP x.op<0)||(decide (xP x.op<2)&&(x.b != 0)))||((x.op == 0)&&((x.a != 0)||!(kW x.n))))||((x.op != 0)&&!(unsB x.n)))
def ordB(k:Int)(x:qC):Bool:=((decide (0<xP x.op)&&(decide (x.a<0)||decide (k≤x.a)))||(decide (1<xP x.op)&&(decide (x.b<0)||decide (k≤x.b))))
def rngB(z:Int)(x:qC):Bool:=((x.op == 1)&&(decide (x.a<0)||decide (z≤x.a)))
theorem aZ{x:qC}:badB x=true↔eN x:=by
 unfold badB eN
 simp only[Bool.or_eq_true,Bool.and_eq_true,decide_eq_true_eq,beq_iff_eq,bne_iff_ne,Bool.not_eq_true',ne_eq,or_assoc]
theorem ordB_iff{k:Int}{x:qC}:ordB k x=true↔bN k x:=by
 unfold ordB bN
 simp only[Bool.or_eq_true,Bool.and_eq_true,decide_eq_true_eq]
theorem rngB_iff{k:Int}{x:qC}:rngB k x=true↔rngN k x:=by
 unfold rngB rngN
 simp only[Bool.or_eq_true,Bool.and_eq_true,decide_eq_true_eq,beq_iff_eq]
theorem not_of{b:Bool}{p:Prop}(h:b=true↔p)(hb:b=false):¬ p:=fun q=>by rw[h.2 q] at hb;cases hb
structure TmR (z:Int) (t:List qC) (k:Nat):Prop where
 z0:¬ (z<0∨64<z)
 kl:k<t.length
 tl:¬ 400<t.length
 up:szUp z t k
theorem tmr{z:Int}{t:List qC}{k:Nat}(h:(decide (z<0)||decide (64<z))=false)(h1:((k:Nat):Int)<((t.length:Nat):Int))(h2:¬ 400<((t.length:Nat):Int))(hu:szUp z t k):TmR z t k:=by
 rw[Bool.or_eq_false_iff,decide_eq_false_iff_not,decide_eq_false_iff_not] at h
 exact ⟨by omega,by omega,by omega,hu⟩
theorem zb_t{z:Int}{t:List qC}(h:(decide (z<0)||decide (64<z))=true):gQ z t=2∧tmL z t=[]:=by
 rw[Bool.or_eq_true,decide_eq_true_eq,decide_eq_true_eq] at h
 have e:=tm_1 (t:=t) h
 exact ⟨e,tm_n (by rw[e];decide)⟩
theorem zb_f{z:Int}(h:(decide (z<0)||decide (64<z))=false):¬ (z<0∨64<z):=by
 rw[Bool.or_eq_false_iff,decide_eq_false_iff_not,decide_eq_false_iff_not] at h
 omega
theorem tm_l0{z:Int}{t:List qC}(h:(decide (z<0)||decide (64<z))=false)(h1:t.length=0):gQ z t=1∧tmL z t=[]:=by
 have e:=tm_2 (zb_f h) h1
 exact ⟨e,tm_n (by rw[e];decide)⟩
theorem tm_lb{z:Int}{t:List qC}(h:(decide (z<0)||decide (64<z))=false)(h1:400<t.length):gQ z t=3∧tmL z t=[]:=by
 have e:=tm_3 (zb_f h) (by omega) h1
 exact ⟨e,tm_n (by rw[e];decide)⟩
theorem TmR.bad{z:Int}{t:List qC}{k:Nat}(h:TmR z t k)(hb:badB (t.getD k tz)=true):gQ z t=1∧tmL z t=[]:=by
 have e:=nd_1 (z:=z) (ss:=mZ t k) (aZ.1 hb)
 have:=tm_no h.z0 h.kl h.tl h.up (by rw[e];decide)
 rwa [e] at this
theorem TmR.ord{z:Int}{t:List qC}{k:Nat}(h:TmR z t k)(hb:badB (t.getD k tz)=false)(ho:ordB ((k:Nat):Int) (t.getD k tz)=true):gQ z t=5∧tmL z t=[]:=by
 have e:=nd_5 (z:=z) (ss:=mZ t k) (not_of aZ hb) (by rw[nH];exact ordB_iff.1 ho)
 have:=tm_no h.z0 h.kl h.tl h.up (by rw[e];decide)
 rwa [e] at this
theorem TmR.rng{z:Int}{t:List qC}{k:Nat}(h:TmR z t k)(hb:badB (t.getD k tz)=false)(ho:ordB ((k:Nat):Int) (t.getD k tz)=false)(hr:rngB z (t.getD k tz)=true):gQ z t=2∧tmL z t=[]:=by
 have e:=nd_2 (z:=z) (ss:=mZ t k) (not_of aZ hb) (by rw[nH];exact not_of ordB_iff ho) (rngB_iff.1 hr)
 have:=tm_no h.z0 h.kl h.tl h.up (by rw[e];decide)
 rwa [e] at this
structure NdR (z:Int) (t:List qC) (k:Nat):Prop where
 tm:TmR z t k
 bad:¬ eN (t.getD k tz)
 ord:¬ bN ((k:Nat):Int) (t.getD k tz)
 rng:¬ rngN z (t.getD k tz)
theorem ndr{z:Int}{t:List qC}{k:Nat}(h:TmR z t k)(hb:badB (t.getD k tz)=false)(ho:ordB ((k:Nat):Int) (t.getD k tz)=false)(hr:rngB z (t.getD k tz)=false):NdR z t k:=⟨h,not_of aZ hb,not_of ordB_iff ho,not_of rngB_iff hr⟩
theorem NdR.big{z:Int}{t:List qC}{k:Nat}(h:NdR z t k){v:Int}(hv:v=szN (mZ t k) (t.getD k tz)){o:List Int}(ho:k<o.length)(hb:4096<(o.set k v).getD k 0):gQ z t=3∧tmL z t=[]:=by
 rw[set_getD ho,hv] at hb
 have e:=nd_3 (z:=z) (ss:=mZ t k) h.bad (by rw[nH];exact h.ord) h.rng hb
 have:=tm_no h.tm.z0 h.tm.kl h.tm.tl h.tm.up (by rw[e];decide)
 rwa [e] at this
theorem NdR.next{z:Int}{t:List qC}{k:Nat}(h:NdR z t k){v:Int}(hv:v=szN (mZ t k) (t.getD k tz)){o:List Int}(ho:szI t k o)(hb:¬ 4096<(o.set k v).getD k 0):k+1≤t.length∧szI t (k+1) (o.set k v)∧szUp z t (k+1):=by
 have hl:=ho.1
 have hk:=h.tm.kl
 rw[set_getD (by omega),hv] at hb
 exact ⟨hk,ho.put hk hv,szUp_s h.tm.up (nd_y h.bad (by rw[nH];exact h.ord) h.rng hb)⟩
theorem NdR.kd{z:Int}{t:List qC}{k:Nat}(h:NdR z t k):0≤xP (t.getD k tz).op:=by
 have:=h.bad;unfold eN at this;omega
theorem NdR.a{z:Int}{t:List qC}{k:Nat}(h:NdR z t k){o:List Int}(ho:szI t k o)(h0:xP (t.getD k tz).op≠0) :
  0≤(t.getD k tz).a∧(t.getD k tz).a.toNat<k∧o.getD (t.getD k tz).a.toNat 0=(mZ t k).getD (t.getD k tz).a.toNat 0∧1≤o.getD (t.getD k tz).a.toNat 0∧o.getD (t.getD k tz).a.toNat 0≤4096:=by
 have h1:=h.kd
 have h2:=h.ord
 unfold bN at h2
 have ha:(t.getD k tz).a.toNat<k:=by omega
 have e:=ho.at ha (by have:=h.tm.kl;omega)
 have r:=sz_rng h.tm.up _ ha
 rw[← e] at r
 exact ⟨by omega,ha,e,r⟩
theorem NdR.b{z:Int}{t:List qC}{k:Nat}(h:NdR z t k){o:List Int}(ho:szI t k o)(h0:xP (t.getD k tz).op≠0)(h6:(t.getD k tz).op≠6)(h7:(t.getD k tz).op≠7) :
  0≤(t.getD k tz).b∧(t.getD k tz).b.toNat<k∧o.getD (t.getD k tz).b.toNat 0=(mZ t k).getD (t.getD k tz).b.toNat 0∧1≤o.getD (t.getD k tz).b.toNat 0∧o.getD (t.getD k tz).b.toNat 0≤4096:=by
 have h1:=h.kd
 have h2:=h.ord
 have h3:xP (t.getD k tz).op=2:=by rcases fK (t.getD k tz).op with ⟨a,b⟩ | ⟨a,b⟩ | ⟨a,b⟩ | ⟨a,b⟩<;>omega
 unfold bN at h2
 have ha:(t.getD k tz).b.toNat<k:=by omega
 have e:=ho.at ha (by have:=h.tm.kl;omega)
 have r:=sz_rng h.tm.up _ ha
 rw[← e] at r
 exact ⟨by omega,ha,e,r⟩
theorem szN_c{ss:List Int}{x:qC}(h:xP x.op=0):(1:Int)=szN ss x:=(if_pos h).symm
theorem szN_n{ss:List Int}{x:qC}{v:Int}(h:xP x.op≠0)(h6:x.op=6)(hv:v=ss.getD x.a.toNat 0):v=szN ss x:=by
 unfold szN;rw[if_neg h,if_pos h6,hv]
theorem szN_q{ss:List Int}{x:qC}{v:Int}(h:xP x.op≠0)(h7:x.op=7)(hv:v=ss.getD x.a.toNat 0):2*v=szN ss x:=by
 unfold szN;rw[if_neg h,if_neg (by omega),if_pos h7,hv]
theorem szN_b{ss:List Int}{x:qC}{v w:Int}(h:xP x.op≠0)(h6:x.op≠6)(h7:x.op≠7)(hv:v=ss.getD x.a.toNat 0)(hw:w=ss.getD x.b.toNat 0):v+w=szN ss x:=by
 unfold szN;rw[if_neg h,if_neg h6,if_neg h7,hv,hw]
theorem tm_end{z:Int}{t:List qC}{k:Nat}{o:List Int}(h:(decide (z<0)||decide (64<z))=false)(h0:((t.length:Nat):Int)≠0)(h4:¬ 400<((t.length:Nat):Int))(hk:k≤t.length)(h5:¬ ((k:Nat):Int)<((t.length:Nat):Int))(ho:szI t k o)(hu:szUp z t k):gQ z t=0∧tmL z t=o:=by
 obtain rfl:k=t.length:=by omega
 obtain ⟨e1,e2⟩:=tm_yes (zb_f h) (by omega) (by omega) hu
 exact ⟨e1,by rw[e2,szI_end ho]⟩
inductive eV (n:Nat) (L:List JV):qC→Prop
 |c {p:Rat} (hp:QL p 1048576):eV n L ⟨0,0,0,jM p⟩
 |v {a:Nat} (ha:a<n):eV n L ⟨1,(a:Int),0,zr⟩
 |add {a b:Nat} (ha:a<L.length) (hb:b<L.length):eV n L ⟨2,(a:Int),(b:Int),zr⟩
 |sub {a b:Nat} (ha:a<L.length) (hb:b<L.length):eV n L ⟨3,(a:Int),(b:Int),zr⟩
 |mul {a b:Nat} (ha:a<L.length) (hb:b<L.length):eV n L ⟨4,(a:Int),(b:Int),zr⟩
 |div {a b:Nat} (ha:a<L.length) (hb:b<L.length) (hz:yS (L.getD b jz).v.1 (L.getD b jz).v.2=false):eV n L ⟨5,(a:Int),(b:Int),zr⟩
 |neg {a:Nat} (ha:a<L.length):eV n L ⟨6,(a:Int),0,zr⟩
 |sq {a:Nat} (ha:a<L.length):eV n L ⟨7,(a:Int),0,zr⟩
theorem nat_of{a:Int}(h:0≤a):∃ m:Nat,a=(m:Int):=⟨a.toNat,by omega⟩
theorem nd_ok{bx:List R2}{t:List qC}{k:Nat}{ss:List Int}(h:ndC ((bx.length:Nat):Int) ss (t.getD k tz)=0)(hs:ss.length=k)(hq:gX (t.getD k tz).n (qN (t.getD k tz).n) 1048576)
  (hz:(t.getD k tz).op=5→yS (jA (jU bx t k) (t.getD k tz).b).v.1 (jA (jU bx t k) (t.getD k tz).b).v.2=false):eV bx.length (jU bx t k) (t.getD k tz):=by
 obtain ⟨h1,h2,h3,_⟩:=nd_0 h
 have hl:=dH bx t k
 rw[hs] at h2
 generalize t.getD k tz=x at *
 generalize jU bx t k=L at *
 obtain ⟨op,a,b,n⟩:=x
 unfold eN at h1
 unfold bN at h2
 unfold rngN at h3
 dsimp only at *
 have hu:op≠0→n=zr:=fun h=>uns_eq (by
  cases hh:unsB n with
  |true=>rfl
  |false=>exact absurd (Or.inr (Or.inr (Or.inr ⟨h,hh⟩))) h1)
 rcases fK op with ⟨e,f⟩ | ⟨e,f⟩ | ⟨e,f⟩ | ⟨e,f⟩
 ·have hb:b=0:=by omega
  subst hb
  rcases f with f | f
  ·subst f
   have ha:a=0:=by omega
   subst ha
   have hv:kW n=true:=by
    cases hh:kW n with
    |true=>rfl
    |false=>exact absurd (Or.inr (Or.inr (Or.inl ⟨rfl,Or.inr hh⟩))) h1
   rw[← ofQ_toQ hv] at hq ⊢
   rw[hH] at hq
   exact .c (hq.ql)
  ·subst f
   obtain ⟨m,hm⟩:=nat_of (a:=a) (by omega)
   subst hm
   rw[hu (by decide)]
   exact .v (by omega)
 ·have hb:b=0:=by omega
  subst hb
  obtain ⟨m,hm⟩:=nat_of (a:=a) (by omega)
  subst hm
  rw[hu (by omega)]
  rcases f with f | f<;>subst f
  ·exact .neg (by omega)
  ·exact .sq (by omega)
 ·obtain ⟨m,hm⟩:=nat_of (a:=a) (by omega)
  subst hm
  obtain ⟨l,hl'⟩:=nat_of (a:=b) (by omega)
  subst hl'
  rw[hu (by omega)]
  rcases f with f | f | f | f<;>subst f
  ·exact .add (by omega) (by omega)
  ·exact .sub (by omega) (by omega)
  ·exact .mul (by omega) (by omega)
  ·refine .div (by omega) (by omega) ?_
   have:=hz rfl
   unfold jA at this
   rwa [Int.toNat_natCast] at this
 ·omega
structure JRun (bx:List R2) (t:List qC):Prop where
 c0:gQ ((bx.length:Nat):Int) t=0
 ok:∀ k,k<t.length→nF 1048576 bx.length (nJ bx (jU bx t k) (t.getD k tz))
 dz:∀ k,k<t.length→(t.getD k tz).op=5→yS (jA (jU bx t k) (t.getD k tz).b).v.1 (jA (jU bx t k) (t.getD k tz).b).v.2=false
theorem JRun.upto{bx:List R2}{t:List qC}(h:JRun bx t):∀ {k},k≤t.length→∀ y∈jU bx t k,nF 1048576 bx.length y
 |0,_,y,hy=>by simp [jU] at hy
 |k+1,hk,y,hy=>by
  rw[jU,List.mem_append] at hy
  rcases hy with hy | hy
  ·exact h.upto (by omega) y hy
  ·rw[List.mem_singleton] at hy;subst hy
   exact h.ok k (by omega)
theorem JRun.nd{bx:List R2}{t:List qC}(h:JRun bx t)(hq:∀ x∈t,gX x.n (qN x.n) 1048576){k:Nat}(hk:k<t.length):eV bx.length (jU bx t k) (t.getD k tz):=by
 have h0:=tm_0 h.c0
 refine nd_ok (h0.2.2.2.2 k hk) (nH t k) ?_ (h.dz k hk)
 rw[List.getD_eq_getElem?_getD,List.getElem?_eq_getElem hk];exact hq _ (List.getElem_mem _)
def xJ(bx:List R2)(t:List qC):JV:=(jU bx t t.length).getD (t.length-1) jz
theorem JRun.last{bx:List R2}{t:List qC}(h:JRun bx t):nF 1048576 bx.length (xJ bx t):=by
 have h0:=tm_0 h.c0
 have hl:=dH bx t t.length
 unfold xJ
 rw[List.getD_eq_getElem?_getD,List.getElem?_eq_getElem (by omega)]
 exact h.upto (Nat.le_refl _) _ (List.getElem_mem _)
end Go.Fid
