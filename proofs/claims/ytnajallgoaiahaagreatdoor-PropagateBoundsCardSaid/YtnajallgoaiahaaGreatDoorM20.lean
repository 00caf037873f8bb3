/- Part 20 of a proof: rules, plain facts, and functions walked. -/
import Derived.Test.YtnajallgoaiahaaGreatDoorM19
import Derived.Test.YtnajallgoaiahaaGreatDoorM11
import Derived.Test.YtnajallgoaiahaaGreatDoorM9
import Derived.Test.YtnajallgoaiahaaGreatDoorM10
set_option linter.all false
set_option maxRecDepth 4000
namespace Go.Proofs.YtnajallgoaiahaaGreatDoor
open Go.Fid
theorem h_hasR(a:jL)(p:Rat)(q:Rat)(hp:hP a.lo p 4294967296)(hq:hP a.hi q 4294967296)(x:jR)(v:Rat)(hx:hP x v 4294967296):jO Tryz.prog 55 [(jF a),(jJ x)] (.val (.bool ((hasQ p q v)))):=by
 refine qY Tryz.func55 ?_
 refine jB<|kx [(2,(.ref 0 0)),(3,(.ref 1 0))] [(0,some (bx (jF a))),(1,some (bx (jJ x)))] (zN (uU 0)<|zN (uU 1)<|zM<|zZ) ?_
 refine jB<|kx [(4,(vb (decide ((yB p v)<=0)&&decide ((yB v q)<=0))))] [] ?_ ?_
 ·refine zE (kV uO)<|zR (kJ jQ)<|zR (kJ jQ)<|zE (jV (lC a.lo x p v hp hx))<|zE oLe<|zE (oV (vb (decide ((yB p v)<=0))) (qC (by kernel_rfl)))<|?_
  rcases hb1:(decide ((yB p v)<=0)) with _ | _
  ·replace hb1:=vB hb1
   exact zK<|zK<|zK<|zK<|zK<|zE xQ<|zM<|zZ
  ·replace hb1:=uV hb1
   exact zR (kJ jQ)<|zE (kV uT)<|zR (kJ jQ)<|zE (jV (lC x a.hi v q hx hq))<|zE oLe<|zE fR<|zM<|zZ
 refine jE ⟨_,(.tmp (d:=(.val (.bool ((decide ((yB p v)<=0)&&decide ((yB v q)<=0)))))) rfl .nil),?_⟩
 rw[<- hasQ_eq];rfl
theorem h_neg(a:jL)(p:Rat)(q:Rat)(hp:hP a.lo p 4294967296)(hq:hP a.hi q 4294967296):jO Tryz.prog 100 [(jF a)] (jF (jL.mk (jN (-q)) (jN (-p)))):=by
 refine qY Tryz.func100 ?_
 refine jB<|kx [(1,(.ref 0 0)),(2,(.ref 1 0))] [(0,some (bx (jF a))),(1,some (bx (jF (jL.mk kH kH))))] (zN (uU 0)<|zN (qR 1 qJ qL)<|zZ) ?_
 refine jB<|kd [] [(1,some (bx (jF (jL.mk (jN (-q)) (jN (-p))))))] mo (wE (kV uT)<|wR (kJ jQ)<|wE (jV (g_neg a.hi q (jM hq)))<|wE (kV uO)<|wR (kJ jQ)<|wE (jV (g_neg a.lo p (jM hp)))<|wE (eD iJ qJ qL)<|wT (qA jP)<|wZ) ?_
 refine jE ⟨_,(kI (cs:=(bx (jF (jL.mk (jN (-q)) (jN (-p)))))) (d:=(jF (jL.mk (jN (-q)) (jN (-p))))) rfl rfl jP rfl rfl .nil),?_⟩
 rfl
theorem h_add(a:jL)(p:Rat)(q:Rat)(hp:hP a.lo p 1073741824)(hq:hP a.hi q 1073741824)(b:jL)(r:Rat)(s:Rat)(hr:hP b.lo r 1073741824)(hs:hP b.hi s 1073741824):jO Tryz.prog 39 [(jF a),(jF b)] (jF (jL.mk (jN (p+r)) (jN (q+s)))):=by
 refine qY Tryz.func39 ?_
 refine jB<|kx [(2,(.ref 0 0)),(3,(.ref 1 0)),(4,(.ref 2 0))] [(0,some (bx (jF a))),(1,some (bx (jF b))),(2,some (bx (jF (jL.mk kH kH))))] (zN (uU 0)<|zN (uU 1)<|zN (qR 2 qJ qL)<|zZ) ?_
 refine jB<|kd [] [(2,some (bx (jF (jL.mk (jN (p+r)) (jN (q+s))))))] mo (wE (kV uO)<|wR (kJ jQ)<|wE (kV uO)<|wR (kJ jQ)<|wE (jV (g_add a.lo b.lo p r (jM hp) (jM hr)))<|wE (kV uT)<|wR (kJ jQ)<|wE (kV uT)<|wR (kJ jQ)<|wE (jV (g_add a.hi b.hi q s (jM hq) (jM hs)))<|wE (eD iJ qJ qL)<|wT (qA jP)<|wZ) ?_
 refine jE ⟨_,(kI (cs:=(bx (jF (jL.mk (jN (p+r)) (jN (q+s)))))) (d:=(jF (jL.mk (jN (p+r)) (jN (q+s))))) rfl rfl jP rfl rfl .nil),?_⟩
 rfl
theorem h_sub(a:jL)(p:Rat)(q:Rat)(hp:hP a.lo p 1073741824)(hq:hP a.hi q 1073741824)(b:jL)(r:Rat)(s:Rat)(hr:hP b.lo r 1073741824)(hs:hP b.hi s 1073741824):jO Tryz.prog 40 [(jF a),(jF b)] (jF (jL.mk (jN (p-s)) (jN (q-r)))):=by
 refine qY Tryz.func40 ?_
 refine jB<|kx [(2,(.ref 0 0)),(3,(.ref 1 0)),(4,(.ref 2 0))] [(0,some (bx (jF a))),(1,some (bx (jF b))),(2,some (bx (jF (jL.mk kH kH))))] (zN (uU 0)<|zN (uU 1)<|zN (qR 2 qJ qL)<|zZ) ?_
 refine jB<|kd [] [(2,some (bx (jF (jL.mk (jN (p+(-s))) (jN (q+(-r)))))))] mo (wR (kJ jP)<|wR (kJ jP)<|wE (jV (h_neg b r s (jM hr) (jM hs)))<|wE (jV (h_add a p q hp hq (jL.mk (jN (-s)) (jN (-r))) (-s) (-r) (jW (ql_neg hs.ql)) (jW (ql_neg hr.ql))))<|wT (qA jP)<|wZ) ?_
 refine jE ⟨_,(kI (cs:=(bx (jF (jL.mk (jN (p+(-s))) (jN (q+(-r))))))) (d:=(jF (jL.mk (jN (p+(-s))) (jN (q+(-r)))))) rfl rfl jP rfl rfl .nil),?_⟩
 rw[Rat.sub_eq_add_neg,Rat.sub_eq_add_neg];rfl
theorem h_mul(a:jL)(p:Rat)(q:Rat)(hp:hP a.lo p 2147483648)(hq:hP a.hi q 2147483648)(b:jL)(r:Rat)(s:Rat)(hr:hP b.lo r 2147483648)(hs:hP b.hi s 2147483648):jO Tryz.prog 114 [(jF a),(jF b)] (jF (jL.mk (jN (hC (p*r) [(p*s),(q*r),(q*s)])) (jN (nY (p*r) [(p*s),(q*r),(q*s)])))):=by
 let y1:=(jF (jL.mk (jN (hC (p*r) [(p*s),(q*r),(q*s)])) (jN (nY (p*r) [(p*s),(q*r),(q*s)]))))
 refine qY Tryz.func114 ?_
 refine jB<|kx [(2,(.ref 0 0)),(3,(.ref 1 0)),(4,(.ref 2 0))] [(0,some (bx (jF a))),(1,some (bx (jF b))),(2,some (bx (jF (jL.mk kH kH))))] (zN (uU 0)<|zN (uU 1)<|zN (qR 2 qJ qL)<|zZ) ?_
 refine jB<|kd [] [(2,some (bx y1))] mo (wE (kV uO)<|wR (kJ jQ)<|wE (kV uO)<|wR (kJ jQ)<|wE (jV (g_mul a.lo b.lo p r (jM hp) (jM hr)))<|wE (kV uO)<|wR (kJ jQ)<|wE (kV uT)<|wR (kJ jQ)<|wE (jV (g_mul a.lo b.hi p s (jM hp) (jM hs)))<|wE (kV uT)<|wR (kJ jQ)<|wE (kV uO)<|wR (kJ jQ)<|wE (jV (g_mul a.hi b.lo q r (jM hq) (jM hr)))<|wE (kV uT)<|wR (kJ jQ)<|wE (kV uT)<|wR (kJ jQ)<|wE (jV (g_mul a.hi b.hi q s (jM hq) (jM hs)))<|wE (eE uQ qZ uG)<|wE (jV (h_spanned (p*r) [(p*s),(q*r),(q*s)] (List.forall_mem_cons.2 ⟨(qD (k:=4294967296) hp.ql hr.ql),(List.forall_mem_cons.2 ⟨(qD (k:=4294967296) hp.ql hs.ql),(List.forall_mem_cons.2 ⟨(qD (k:=4294967296) hq.ql hr.ql),(List.forall_mem_cons.2 ⟨(qD (k:=4294967296) hq.ql hs.ql),(fun a h=>by cases h)⟩)⟩)⟩)⟩) (by simp)))<|wT (qA jP)<|wZ) ?_
 refine jE ⟨_,(kI (cs:=(bx y1)) (d:=y1) rfl rfl jP rfl rfl .nil),?_⟩
 rfl
theorem h_square(a:jL)(p:Rat)(q:Rat)(hp:hP a.lo p 1073741824)(hq:hP a.hi q 1073741824):jO Tryz.prog 115 [(jF a)] (jF (jL.mk (jN (sqL p q)) (jN (sqH p q)))):=by
 let y1:=(jF (jL.mk (jN (hC (p*p) [(q*q),((0:Int):Rat)])) (jN (nY (p*p) [(q*q),((0:Int):Rat)]))))
 refine qY Tryz.func115 ?_
 refine jB<|kx [(1,(.ref 0 0)),(2,(.ref 1 0))] [(0,some (bx (jF a))),(1,some (bx (jF (jL.mk kH kH))))] (zN (uU 0)<|zN (qR 1 qJ qL)<|zZ) ?_
 refine jB<|kd [(3,(.own 2 45 4 2))] [(2,some (yU jJ [(jN (p*p)),(jN (q*q))]))] mo (wE (kV uO)<|wR (kJ jQ)<|wE (kV uO)<|wR (kJ jQ)<|wE (jV (g_mul a.lo a.lo p p (jM hp) (jM hp)))<|wE (kV uT)<|wR (kJ jQ)<|wE (kV uT)<|wR (kJ jQ)<|wE (jV (g_mul a.hi a.hi q q (jM hq) (jM hq)))<|wN (oBo 2 uQ qZ uG)<|wM<|wZ) ?_
 refine jB<|jB<|kd [(17,(vb (hasQ p q ((0:Int):Rat))))] [] mo (wR (kJ jP)<|wE (jV (nR 0))<|wE (jV (h_hasR a p q (jM hp) (jM hq) (jN ((0:Int):Rat)) ((0:Int):Rat) (jM (jW (vS (z:=0) (vF))))))<|wZ) ?_
 refine jG (b:=(hasQ p q ((0:Int):Rat))) rfl (fun h1=>?_) (fun h1=>?_)
 ·refine kf [(3,(.own 2 45 4 ([(jN (p*p)),(jN (q*q)),(jN ((0:Int):Rat))].length)))] [(2,some (yU jJ [(jN (p*p)),(jN (q*q)),(jN ((0:Int):Rat))]))] (zM<|zE (jV (nR 0))<|zE (eE uQ qZ uG)<|zAS jJ [(jN (p*p)),(jN (q*q))] [(jN ((0:Int):Rat))] rfl uQ qZ by45<|zM<|zF) ?_
  refine jB<|kU (xC (t:=3) (k:=2) (es:=List.map jJ [(jN (p*p)),(jN (q*q)),(jN ((0:Int):Rat))]) rfl rfl (gC _ _ (fun _=>rfl)) (uW _ _ rfl) (hZ jJ [(jN (p*p)),(jN (q*q)),(jN ((0:Int):Rat))] (fun _=>rfl) rfl)) ?_
  refine kx [] [(1,some (bx y1))] (zM<|zE (jV (h_spanned (p*p) [(q*q),((0:Int):Rat)] (List.forall_mem_cons.2 ⟨(qG (qD (k:=2147483648) hp.ql hp.ql)),(List.forall_mem_cons.2 ⟨(qG (qD (k:=2147483648) hq.ql hq.ql)),(List.forall_mem_cons.2 ⟨(qG (vS (z:=0) (vF))),(fun a h=>by cases h)⟩)⟩)⟩) (by simp)))<|zT (qA jP)<|zZ) ?_
  refine jE ⟨_,(kI (cs:=(bx y1)) (d:=y1) rfl rfl jP rfl rfl .nil),?_⟩
  rw[sq_hasL h1,sq_hasH];rfl
 ·refine jC<|jB<|kU (xC (t:=3) (k:=2) (es:=List.map jJ [(jN (p*p)),(jN (q*q))]) rfl rfl (gC _ _ (fun _=>rfl)) (uW _ _ rfl) (hZ jJ [(jN (p*p)),(jN (q*q))] (fun _=>rfl) rfl)) ?_
  refine kx [] [(1,some (bx (jF (jL.mk (jN (hC (p*p) [(q*q)])) (jN (nY (p*p) [(q*q)]))))))] (zM<|zE (jV (h_spanned (p*p) [(q*q)] (List.forall_mem_cons.2 ⟨(qG (qD (k:=2147483648) hp.ql hp.ql)),(List.forall_mem_cons.2 ⟨(qG (qD (k:=2147483648) hq.ql hq.ql)),(fun a h=>by cases h)⟩)⟩) (by simp)))<|zT (qA jP)<|zZ) ?_
  refine jE ⟨_,(kI (cs:=(bx (jF (jL.mk (jN (hC (p*p) [(q*q)])) (jN (nY (p*p) [(q*q)])))))) (d:=(jF (jL.mk (jN (hC (p*p) [(q*q)])) (jN (nY (p*p) [(q*q)]))))) rfl rfl jP rfl rfl .nil),?_⟩
  rw[sq_noL h1];rfl
theorem h_divideZ(p:Rat)(q:Rat)(hp:QL p 1073741824)(hq:QL q 1073741824)(hpq:p<=q)(r:Rat)(s:Rat)(hr:QL r 1073741824)(hs:QL s 1073741824)(hrs:r<=s)(hz:xH r s=true):jO Tryz.prog 167 [(jF (jL.mk (jN p) (jN q))),(jF (jL.mk (jN r) (jN s)))] (.tup [(jF (jL.mk kH kH)),(.val (.int .i64 (14)))]):=by
 let y1:=(bx (jF (jL.mk kH kH)))
 refine qY Tryz.func167 ?_
 refine jB<|kx [(2,(.ref 0 0)),(3,(.ref 1 0)),(4,(.ref 2 0))] [(0,some (bx (jF (jL.mk (jN p) (jN q))))),(1,some (bx (jF (jL.mk (jN r) (jN s))))),(2,some y1)] (zN (uU 0)<|zN (uU 1)<|zN (qR 2 qJ qL)<|zM<|zZ) ?_
 refine jB<|jB<|kd [(12,(vb true))] [] mo (wR (kJ jP)<|wE (jV (nR 0))<|wE (uP true (jV (h_hasR (jL.mk (jN r) (jN s)) r s (jM (jW hr)) (jM (jW hs)) (jN ((0:Int):Rat)) ((0:Int):Rat) (jM (jW (vS (z:=0) (vF)))))) (by exact hz))<|wZ) ?_
 refine uI ?_
 refine jB<|kx [(5,(jS 14))] [(2,some y1)] (zE (eD iJ qJ qL)<|zT (qA jP)<|zM<|zZ) ?_
 refine jE ⟨_,(kI (cs:=y1) (d:=(jF (jL.mk kH kH))) rfl rfl jP rfl rfl (.tmp (d:=(.val (.int .i64 (14)))) rfl .nil)),?_⟩
 rfl
theorem h_divide(p:Rat)(q:Rat)(hp:QL p 1073741824)(hq:QL q 1073741824)(hpq:p<=q)(r:Rat)(s:Rat)(hr:QL r 1073741824)(hs:QL s 1073741824)(hrs:r<=s)(hz:xH r s=false):jO Tryz.prog 167 [(jF (jL.mk (jN p) (jN q))),(jF (jL.mk (jN r) (jN s)))] (.tup [(jF (jL.mk (jN (hC (p / r) [(p / s),(q / r),(q / s)])) (jN (nY (p / r) [(p / s),(q / r),(q / s)])))),(.val (.int .i64 (0)))]):=by
 obtain ⟨hr0,hs0⟩:=zeroG_ne hrs hz
 let y2:=(jF (jL.mk (jN (hC (p*(((1:Int):Rat) / s)) [(p*(((1:Int):Rat) / r)),(q*(((1:Int):Rat) / s)),(q*(((1:Int):Rat) / r))])) (jN (nY (p*(((1:Int):Rat) / s)) [(p*(((1:Int):Rat) / r)),(q*(((1:Int):Rat) / s)),(q*(((1:Int):Rat) / r))]))))
 let y1:=(bx y2)
 refine qY Tryz.func167 ?_
 refine jB<|kx [(2,(.ref 0 0)),(3,(.ref 1 0)),(4,(.ref 2 0))] [(0,some (bx (jF (jL.mk (jN p) (jN q))))),(1,some (bx (jF (jL.mk (jN r) (jN s))))),(2,some (bx (jF (jL.mk kH kH))))] (zN (uU 0)<|zN (uU 1)<|zN (qR 2 qJ qL)<|zM<|zZ) ?_
 refine jB<|jB<|kd [(12,(vb false))] [] mo (wR (kJ jP)<|wE (jV (nR 0))<|wE (uP false (jV (h_hasR (jL.mk (jN r) (jN s)) r s (jM (jW hr)) (jM (jW hs)) (jN ((0:Int):Rat)) ((0:Int):Rat) (jM (jW (vS (z:=0) (vF)))))) (by exact hz))<|wZ) ?_
 refine kM ?_
 refine jC<|jB<|kd [(6,(.ref 3 0))] [(3,some (bx (jJ (jN (((1:Int):Rat) / s)))))] mo (wE (jV (nR 1))<|wE (kV uT)<|wR (kJ jQ)<|wE (jV (by have h:=g_divide (jN ((1:Int):Rat)) (jN s) ((1:Int):Rat) s (jM (jW (vS (z:=1) (vF)))) (jM (jW hs));rw[divR_ne hs0,divC_ne hs0] at h;exact h))<|wM<|wE uX<|wE uX<|wN (qR 3 qZ uG)<|wT (qA jQ)<|wM<|wZ) ?_
 refine jB<|kd [(8,(.ref 4 0))] [(4,some (bx (jJ (jN (((1:Int):Rat) / r)))))] mo (wE (jV (nR 1))<|wE (kV uO)<|wR (kJ jQ)<|wE (jV (by have h:=g_divide (jN ((1:Int):Rat)) (jN r) ((1:Int):Rat) r (jM (jW (vS (z:=1) (vF)))) (jM (jW hr));rw[divR_ne hr0,divC_ne hr0] at h;exact h))<|wM<|wE uX<|wE uX<|wN (qR 4 qZ uG)<|wT (qA jQ)<|wM<|wZ) ?_
 refine jB<|kx [(5,(jS 0))] [(2,some y1)] (zR (kJ jP)<|zR (kJ jQ)<|zR (kJ jQ)<|zE (eD iJ qJ qL)<|zE (jV (h_mul (jL.mk (jN p) (jN q)) p q (jM (jW hp)) (jM (jW hq)) (jL.mk (jN (((1:Int):Rat) / s)) (jN (((1:Int):Rat) / r))) (((1:Int):Rat) / s) (((1:Int):Rat) / r) (jM (jW (iC (k:=1073741825) (vS (z:=1) (vF)) hs))) (jM (jW (iC (k:=1073741825) (vS (z:=1) (vF)) hr)))))<|zT (qA jP)<|zM<|zZ) ?_
 refine jE ⟨_,(kI (cs:=y1) (d:=y2) rfl rfl jP rfl rfl (.tmp (d:=(.val (.int .i64 (0)))) rfl .nil)),?_⟩
 rw[<- recip_lo,<- recip_hi];rfl
end Go.Proofs.YtnajallgoaiahaaGreatDoor
namespace Go.Fid
inductive LOk (n:Nat):List qF->List Int->Prop
 |nil:LOk n [] []
 |cons {x:qF} {z:Int} {l:List qF} {zs:List Int} (h:gQ x z n) (t:LOk n l zs):LOk n (x::l) (z::zs)
theorem iok_nilN(n:Nat):gQ ⟨false,[]⟩ 0 n:=⟨by decide,Nat.zero_le _⟩
theorem LOk.len{n:Nat}{l:List qF}{zs:List Int}(h:LOk n l zs):l.length=zs.length:=by
 induction h with
 |nil=>rfl
 |cons h t ih=>simp [ih]
theorem LOk.get{n:Nat}{l:List qF}{zs:List Int}(h:LOk n l zs)(i:Nat):gQ (l.getD i ⟨false,[]⟩) (zs.getD i 0) n:=by
 induction h generalizing i with
 |nil=>exact iok_nilN n
 |cons h t ih=>
  rcases i with _ | i
  ·exact h
  ·exact ih i
theorem LOk.all{n:Nat}{l:List qF}{zs:List Int}(h:LOk n l zs):∀ z∈zs,cO z<=n:=by
 induction h with
 |nil=>simp
 |cons h t ih=>
  intro z hz
  rcases List.mem_cons.1 hz with rfl | hz
  ·exact h.ln
  ·exact ih z hz
theorem LOk.up{m n:Nat}{l:List qF}{zs:List Int}(h:LOk m l zs)(hm:m<=n):LOk n l zs:=by
 induction h with
 |nil=>exact .nil
 |cons h t ih=>exact .cons (gW h hm) ih
theorem signI_ne{z:Int}(h:z≠0):uK z≠0:=by
 unfold uK;split<;>(try split)<;>omega
theorem LOk.map{n:Nat}{l:List qF}{zs:List Int}(h:LOk n l zs):l.map kG=zs:=by
 induction h with
 |nil=>rfl
 |cons h t ih=>rw[List.map_cons,ih,h.v]
theorem all_nil{l:List qF}(h:∀ x∈l,x=qF.mk false [])(i:Nat):l.getD i (qF.mk false [])=qF.mk false []:=by
 rw[List.getD]
 cases hj:l[i]? with
 |none=>rfl
 |some q=>exact h q (List.mem_of_getElem? hj)
end Go.Fid
namespace Go.Proofs.YtnajallgoaiahaaGreatDoor
open Go.Fid
def xN(n:Nat)(l:List jR):Prop:=(∀ a∈l,hP a (qS a) n)/\l.length<=140737488355328
def uY(n:Nat)(m:List (List jR)):Prop:=(∀ r∈m,xN n r)/\m.length<=140737488355328
def aN(l:List jR):Bool:=l.all kR
theorem xL{l:List jR}{n j:Nat}{d:jR}(h:∀ a∈l,hP a (qS a) n)(hj:j<l.length):hP (l.getD j d) (qS (l.getD j d)) n:=by
 rw[List.getD_eq_getElem?_getD,List.getElem?_eq_getElem hj];exact h _ (List.getElem_mem hj)
theorem row_up{n k:Nat}{l:List jR}(h:xN n l)(hk:n<=k):xN k l:=⟨fun a ha=>jM (h.1 a ha) hk,h.2⟩
theorem gH{n k:Nat}{m:List (List jR)}(h:uY n m)(hk:n<=k:=by decide):uY k m:=⟨fun a ha=>row_up (h.1 a ha) hk,h.2⟩
theorem vT{n i:Nat}{m:List (List jR)}{d:List jR}(h:uY n m)(hi:i<m.length):xN n (m.getD i d):=by
 rw[List.getD_eq_getElem?_getD,List.getElem?_eq_getElem hi];exact h.1 _ (List.getElem_mem hi)
theorem valid_get{i:Nat}{l:List jR}{d:jR}(h:aN l=true)(hi:i<l.length):kR (l.getD i d)=true:=by
 rw[List.getD_eq_getElem?_getD,List.getElem?_eq_getElem hi];exact List.all_eq_true.1 h _ (List.getElem_mem hi)
theorem take_all{α:Type}{f:α->Bool}{l:List α}{i:Nat}{d:α}(h:i<l.length):(l.take (i+1)).all f=((l.take i).all f&&f (l.getD i d)):=by
 rw[List.getD_eq_getElem?_getD,List.getElem?_eq_getElem h,List.take_succ_eq_append_getElem h,List.all_append]
 simp
end Go.Proofs.YtnajallgoaiahaaGreatDoor
namespace Go.Fid
def xG(o:Int):Int:=if o=0\/o=1 then 0 else if o=6\/o=7 then 1 else if o=2\/o=3\/o=4\/o=5 then 2 else -1
theorem fH(o:Int):(xG o=0/\(o=0\/o=1))\/(xG o=1/\(o=6\/o=7))\/(xG o=2/\(o=2\/o=3\/o=4\/o=5))\/(xG o=-1/\¬ (o=0\/o=1)/\¬ (o=6\/o=7)/\¬ (o=2\/o=3\/o=4\/o=5)):=by
 unfold xG
 by_cases h1:o=0\/o=1
 ·exact .inl ⟨if_pos h1,h1⟩
 by_cases h2:o=6\/o=7
 ·exact .inr (.inl ⟨by rw[if_neg h1,if_pos h2],h2⟩)
 by_cases h3:o=2\/o=3\/o=4\/o=5
 ·exact .inr (.inr (.inl ⟨by rw[if_neg h1,if_neg h2,if_pos h3],h3⟩))
 ·exact .inr (.inr (.inr ⟨by rw[if_neg h1,if_neg h2,if_neg h3],h1,h2,h3⟩))
def unsB(x:jR):Bool:=((!x.num.neg&&!x.den.neg)&&(((x.num.gs.length:Nat):Int) == 0))&&(((x.den.gs.length:Nat):Int) == 0)
theorem uns_eq{x:jR}(h:unsB x=true):x=zr:=by
 obtain ⟨⟨n,g⟩,⟨m,d⟩⟩:=x
 unfold unsB at h
 simp only[Bool.and_eq_true,Bool.not_eq_true',beq_iff_eq] at h
 obtain ⟨⟨⟨h1,h2⟩,h3⟩,h4⟩:=h
 have e3:g=[]:=List.eq_nil_of_length_eq_zero (by omega)
 have e4:d=[]:=List.eq_nil_of_length_eq_zero (by omega)
 subst h1;subst h2;subst e3;subst e4
 rfl
def fZ(x:qB):Prop:=xG x.op<0\/(xG x.op<2/\x.b≠0)\/(x.op=0/\(x.a≠0\/kR x.n=false))\/(x.op≠0/\unsB x.n=false)
instance (x:qB):Decidable (fZ x):=by unfold fZ;infer_instance
def bA(k:Int)(x:qB):Prop:=(0<xG x.op/\(x.a<0\/k<=x.a))\/(1<xG x.op/\(x.b<0\/k<=x.b))
instance (k:Int) (x:qB):Decidable (bA k x):=by unfold bA;infer_instance
def rngN(z:Int)(x:qB):Prop:=x.op=1/\(x.a<0\/z<=x.a)
instance (z:Int) (x:qB):Decidable (rngN z x):=by unfold rngN;infer_instance
def szN(ss:List Int)(x:qB):Int:=if xG x.op=0 then 1 else if x.op=6 then ss.getD x.a.toNat 0 else if x.op=7 then 2*ss.getD x.a.toNat 0 else ss.getD x.a.toNat 0+ss.getD x.b.toNat 0
def ndC(z:Int)(ss:List Int)(x:qB):Nat:=if fZ x then 1 else if bA ((ss.length:Nat):Int) x then 5 else if rngN z x then 2 else if 4096<szN ss x then 3 else 0
def cW(t:List qB):Nat->List Int
 |0=>[]
 |k+1=>cW t k++[szN (cW t k) (t.getD k tz)]
theorem gY(t:List qB):∀ k,(cW t k).length=k
 |0=>rfl
 |k+1=>by rw[cW,List.length_append,gY t k];rfl
def lT(z:Int)(t:List qB)(k:Nat):Prop:=∀ i,i<k->ndC z (cW t i) (t.getD i tz)=0
theorem szUp_0(z:Int)(t:List qB):lT z t 0:=fun i h=>by omega
theorem szUp_s{z:Int}{t:List qB}{k:Nat}(h:lT z t k)(hk:ndC z (cW t k) (t.getD k tz)=0):lT z t (k+1):=fun i hi=>by
 rcases Nat.lt_or_ge i k with h1 | h1
 ·exact h i h1
 ·obtain rfl:i=k:=by omega
  exact hk
def szE(z:Int)(t:List qB):Nat->Nat->Nat
 |0,_=>0
 |f+1,k=>if ndC z (cW t k) (t.getD k tz)=0 then szE z t f (k+1) else ndC z (cW t k) (t.getD k tz)
def gK(z:Int)(t:List qB):Nat:=if z<0\/64<z then 2 else if t.length=0 then 1 else if 400<t.length then 3 else szE z t t.length 0
def eG(z:Int)(t:List qB):List Int:=if gK z t=0 then cW t t.length else []
theorem szE_0{z:Int}{t:List qB}:∀ {f k:Nat},szE z t f k=0↔∀ i,k<=i->i<k+f->ndC z (cW t i) (t.getD i tz)=0
 |0,k=>by simp only[szE,true_iff];intro i h1 h2;omega
 |f+1,k=>by
  unfold szE
  constructor
  ·intro h i h1 h2
   split at h
   ·rename_i h0
    rcases Nat.lt_or_ge k i with h3 | h3
    ·exact szE_0.1 h i (by omega) (by omega)
    ·obtain rfl:i=k:=by omega
     exact h0
   ·rename_i h0;exact absurd h h0
  ·intro h
   rw[if_pos (h k (Nat.le_refl _) (by omega))]
   exact szE_0.2 fun i h1 h2=>h i (by omega) (by omega)
theorem szE_at{z:Int}{t:List qB}{m:Nat}(hm:ndC z (cW t m) (t.getD m tz)≠0):∀ {f k:Nat},k<=m->m<k+f->(∀ i,k<=i->i<m->ndC z (cW t i) (t.getD i tz)=0)->szE z t f k=ndC z (cW t m) (t.getD m tz)
 |0,k,h1,h2,_=>by omega
 |f+1,k,h1,h2,h=>by
  unfold szE
  rcases Nat.lt_or_ge k m with h3 | h3
  ·rw[if_pos (h k (Nat.le_refl _) h3)]
   exact szE_at hm (by omega) (by omega) fun i a b=>h i (by omega) b
  ·obtain rfl:k=m:=by omega
   rw[if_neg hm]
theorem tm_1{z:Int}{t:List qB}(h:z<0\/64<z):gK z t=2:=if_pos h
theorem tm_2{z:Int}{t:List qB}(h:¬ (z<0\/64<z))(h1:t.length=0):gK z t=1:=by unfold gK;rw[if_neg h,if_pos h1]
theorem tm_3{z:Int}{t:List qB}(h:¬ (z<0\/64<z))(h1:t.length≠0)(h2:400<t.length):gK z t=3:=by unfold gK;rw[if_neg h,if_neg h1,if_pos h2]
theorem tm_e{z:Int}{t:List qB}(h:¬ (z<0\/64<z))(h1:t.length≠0)(h2:¬ 400<t.length):gK z t=szE z t t.length 0:=by unfold gK;rw[if_neg h,if_neg h1,if_neg h2]
theorem tm_no{z:Int}{t:List qB}{k:Nat}(h:¬ (z<0\/64<z))(h1:k<t.length)(h2:¬ 400<t.length)(hu:lT z t k)(hc:ndC z (cW t k) (t.getD k tz)≠0):gK z t=ndC z (cW t k) (t.getD k tz)/\eG z t=[]:=by
 have e:gK z t=ndC z (cW t k) (t.getD k tz):=by
  rw[tm_e h (by omega) h2]
  exact szE_at hc (by omega) (by omega) fun i _ hi=>hu i hi
 exact ⟨e,if_neg (by rw[e];exact hc)⟩
theorem tm_yes{z:Int}{t:List qB}(h:¬ (z<0\/64<z))(h1:t.length≠0)(h2:¬ 400<t.length)(hu:lT z t t.length):gK z t=0/\eG z t=cW t t.length:=by
 have e:gK z t=0:=by
  rw[tm_e h h1 h2]
  exact szE_0.2 fun i _ hi=>hu i (by omega)
 exact ⟨e,if_pos e⟩
theorem tm_n{z:Int}{t:List qB}(h:gK z t≠0):eG z t=[]:=if_neg h
theorem tm_0{z:Int}{t:List qB}(h:gK z t=0):0<=z/\z<=64/\t.length≠0/\t.length<=400/\lT z t t.length:=by
 by_cases h0:z<0\/64<z
 ·rw[tm_1 h0] at h;cases h
 by_cases h1:t.length=0
 ·rw[tm_2 h0 h1] at h;cases h
 by_cases h2:400<t.length
 ·rw[tm_3 h0 h1 h2] at h;cases h
 rw[tm_e h0 h1 h2] at h
 exact ⟨by omega,by omega,h1,by omega,fun i hi=>szE_0.1 h i (by omega) (by omega)⟩
theorem nd_0{z:Int}{ss:List Int}{x:qB}(h:ndC z ss x=0):¬ fZ x/\¬ bA ((ss.length:Nat):Int) x/\¬ rngN z x/\szN ss x<=4096:=by
 unfold ndC at h
 split at h
 ·cases h
 ·rename_i h1
  split at h
  ·cases h
  ·rename_i h2
   split at h
   ·cases h
   ·rename_i h3
    split at h
    ·cases h
    ·rename_i h4
     exact ⟨h1,h2,h3,by omega⟩
theorem nd_1{z:Int}{ss:List Int}{x:qB}(h:fZ x):ndC z ss x=1:=if_pos h
theorem nd_5{z:Int}{ss:List Int}{x:qB}(h:¬ fZ x)(h2:bA ((ss.length:Nat):Int) x):ndC z ss x=5:=by unfold ndC;rw[if_neg h,if_pos h2]
theorem nd_2{z:Int}{ss:List Int}{x:qB}(h:¬ fZ x)(h2:¬ bA ((ss.length:Nat):Int) x)(h3:rngN z x):ndC z ss x=2:=by unfold ndC;rw[if_neg h,if_neg h2,if_pos h3]
theorem nd_3{z:Int}{ss:List Int}{x:qB}(h:¬ fZ x)(h2:¬ bA ((ss.length:Nat):Int) x)(h3:¬ rngN z x)(h4:4096<szN ss x):ndC z ss x=3:=by unfold ndC;rw[if_neg h,if_neg h2,if_neg h3,if_pos h4]
theorem nd_y{z:Int}{ss:List Int}{x:qB}(h:¬ fZ x)(h2:¬ bA ((ss.length:Nat):Int) x)(h3:¬ rngN z x)(h4:¬ 4096<szN ss x):ndC z ss x=0:=by unfold ndC;rw[if_neg h,if_neg h2,if_neg h3,if_neg h4]
theorem sz_rng{z:Int}{t:List qB}:∀ {k:Nat},lT z t k->∀ j,j<k->1<=(cW t k).getD j 0/\(cW t k).getD j 0<=4096
 |0,_,j,h=>by omega
 |k+1,hu,j,hj=>by
  have ih:=sz_rng (k:=k) (fun i hi=>hu i (by omega))
  have hl:=gY t k
  obtain ⟨h1,h2,h3,h4⟩:=nd_0 (hu k (by omega))
  rw[hl] at h2
  unfold cW
  rcases Nat.lt_or_ge j k with h | h
  ·rw[List.getD_eq_getElem?_getD,List.getElem?_append_left (by omega),<- List.getD_eq_getElem?_getD]
   exact ih j h
  ·obtain rfl:j=k:=by omega
   rw[List.getD_eq_getElem?_getD,List.getElem?_append_right (by omega),hl,Nat.sub_self]
   show 1<=szN (cW t j) (t.getD j tz)/\szN (cW t j) (t.getD j tz)<=4096
   refine ⟨?_,h4⟩
   have hA:∀ a:Int,0<=a->a<j->1<=(cW t j).getD a.toNat 0:=fun a q1 q2=>(ih a.toNat (by omega)).1
   generalize t.getD j tz=x at *
   unfold szN bA fZ at *
   rcases fH x.op with ⟨e,_⟩ | ⟨e,f⟩ | ⟨e,f⟩ | ⟨e,_⟩
   ·rw[if_pos e];exact Int.le_refl _
   ·have ha:=hA x.a (by omega) (by omega)
    rw[if_neg (by omega)]
    split
    ·exact ha
    ·split<;>omega
   ·have ha:=hA x.a (by omega) (by omega)
    have hb:=hA x.b (by omega) (by omega)
    rw[if_neg (by omega),if_neg (by omega),if_neg (by omega)]
    omega
   ·omega
def szI(t:List qB)(k:Nat)(o:List Int):Prop:=o.length=t.length/\o.take k=cW t k
theorem szI_0{t:List qB}:szI t 0 (List.replicate t.length 0):=⟨List.length_replicate,rfl⟩
theorem szI.at{t:List qB}{k:Nat}{o:List Int}(h:szI t k o){j:Nat}(hj:j<k)(hk:k<=t.length):o.getD j 0=(cW t k).getD j 0:=by
 rw[<- h.2,List.getD_eq_getElem?_getD,List.getD_eq_getElem?_getD,List.getElem?_take_of_lt hj]
theorem szI.put{t:List qB}{k:Nat}{o:List Int}(h:szI t k o)(hk:k<t.length){v:Int}(hv:v=szN (cW t k) (t.getD k tz)):szI t (k+1) (o.set k v):=by
 refine ⟨by rw[List.length_set];exact h.1,?_⟩
 have hl:=h.1
 rw[List.take_succ_eq_append_getElem (by rw[List.length_set];omega),List.getElem_set_self,List.take_set_of_le (Nat.le_refl k),h.2,cW,hv]
theorem set_getD{o:List Int}{k:Nat}{v:Int}(h:k<o.length):(o.set k v).getD k 0=v:=by
 rw[List.getD_eq_getElem?_getD,List.getElem?_set_self h];rfl
theorem szI_end{t:List qB}{o:List Int}(h:szI t t.length o):o=cW t t.length:=by
 rw[<- h.2,<- h.1,List.take_length]
def badB(x:qB):Bool:=(((decide (xG x.op<0)||(decide (xG x.op<2)&&(x.b != 0)))||((x.op == 0)&&((x.a != 0)||!(kR x.n))))||((x.op != 0)&&!(unsB x.n)))
def ordB(k:Int)(x:qB):Bool:=((decide (0<xG x.op)&&(decide (x.a<0)||decide (k<=x.a)))||(decide (1<xG x.op)&&(decide (x.b<0)||decide (k<=x.b))))
def rngB(z:Int)(x:qB):Bool:=((x.op == 1)&&(decide (x.a<0)||decide (z<=x.a)))
theorem lB{x:qB}:badB x=true↔fZ x:=by
 unfold badB fZ
 simp only[Bool.or_eq_true,Bool.and_eq_true,decide_eq_true_eq,beq_iff_eq,bne_iff_ne,Bool.not_eq_true',ne_eq,or_assoc]
theorem ordB_iff{k:Int}{x:qB}:ordB k x=true↔bA k x:=by
 unfold ordB bA
 simp only[Bool.or_eq_true,Bool.and_eq_true,decide_eq_true_eq]
theorem rngB_iff{k:Int}{x:qB}:rngB k x=true↔rngN k x:=by
 unfold rngB rngN
 simp only[Bool.or_eq_true,Bool.and_eq_true,decide_eq_true_eq,beq_iff_eq]
theorem not_of{b:Bool}{p:Prop}(h:b=true↔p)(hb:b=false):¬ p:=fun q=>by rw[h.2 q] at hb;cases hb
structure TmR (z:Int) (t:List qB) (k:Nat):Prop where
 z0:¬ (z<0\/64<z)
 kl:k<t.length
 tl:¬ 400<t.length
 up:lT z t k
theorem tmr{z:Int}{t:List qB}{k:Nat}(h:(decide (z<0)||decide (64<z))=false)(h1:((k:Nat):Int)<((t.length:Nat):Int))(h2:¬ 400<((t.length:Nat):Int))(hu:lT z t k):TmR z t k:=by
 rw[Bool.or_eq_false_iff,decide_eq_false_iff_not,decide_eq_false_iff_not] at h
 exact ⟨by omega,by omega,by omega,hu⟩
theorem zb_t{z:Int}{t:List qB}(h:(decide (z<0)||decide (64<z))=true):gK z t=2/\eG z t=[]:=by
 rw[Bool.or_eq_true,decide_eq_true_eq,decide_eq_true_eq] at h
 have e:=tm_1 (t:=t) h
 exact ⟨e,tm_n (by rw[e];decide)⟩
theorem zb_f{z:Int}(h:(decide (z<0)||decide (64<z))=false):¬ (z<0\/64<z):=by
 rw[Bool.or_eq_false_iff,decide_eq_false_iff_not,decide_eq_false_iff_not] at h
 omega
theorem tm_l0{z:Int}{t:List qB}(h:(decide (z<0)||decide (64<z))=false)(h1:t.length=0):gK z t=1/\eG z t=[]:=by
 have e:=tm_2 (zb_f h) h1
 exact ⟨e,tm_n (by rw[e];decide)⟩
theorem tm_lb{z:Int}{t:List qB}(h:(decide (z<0)||decide (64<z))=false)(h1:400<t.length):gK z t=3/\eG z t=[]:=by
 have e:=tm_3 (zb_f h) (by omega) h1
 exact ⟨e,tm_n (by rw[e];decide)⟩
theorem TmR.bad{z:Int}{t:List qB}{k:Nat}(h:TmR z t k)(hb:badB (t.getD k tz)=true):gK z t=1/\eG z t=[]:=by
 have e:=nd_1 (z:=z) (ss:=cW t k) (lB.1 hb)
 have:=tm_no h.z0 h.kl h.tl h.up (by rw[e];decide)
 rwa [e] at this
theorem TmR.ord{z:Int}{t:List qB}{k:Nat}(h:TmR z t k)(hb:badB (t.getD k tz)=false)(ho:ordB ((k:Nat):Int) (t.getD k tz)=true):gK z t=5/\eG z t=[]:=by
 have e:=nd_5 (z:=z) (ss:=cW t k) (not_of lB hb) (by rw[gY];exact ordB_iff.1 ho)
 have:=tm_no h.z0 h.kl h.tl h.up (by rw[e];decide)
 rwa [e] at this
theorem TmR.rng{z:Int}{t:List qB}{k:Nat}(h:TmR z t k)(hb:badB (t.getD k tz)=false)(ho:ordB ((k:Nat):Int) (t.getD k tz)=false)(hr:rngB z (t.getD k tz)=true):gK z t=2/\eG z t=[]:=by
 have e:=nd_2 (z:=z) (ss:=cW t k) (not_of lB hb) (by rw[gY];exact not_of ordB_iff ho) (rngB_iff.1 hr)
 have:=tm_no h.z0 h.kl h.tl h.up (by rw[e];decide)
 rwa [e] at this
structure NdR (z:Int) (t:List qB) (k:Nat):Prop where
 tm:TmR z t k
 bad:¬ fZ (t.getD k tz)
 ord:¬ bA ((k:Nat):Int) (t.getD k tz)
 rng:¬ rngN z (t.getD k tz)
theorem ndr{z:Int}{t:List qB}{k:Nat}(h:TmR z t k)(hb:badB (t.getD k tz)=false)(ho:ordB ((k:Nat):Int) (t.getD k tz)=false)(hr:rngB z (t.getD k tz)=false):NdR z t k:=⟨h,not_of lB hb,not_of ordB_iff ho,not_of rngB_iff hr⟩
theorem NdR.big{z:Int}{t:List qB}{k:Nat}(h:NdR z t k){v:Int}(hv:v=szN (cW t k) (t.getD k tz)){o:List Int}(ho:k<o.length)(hb:4096<(o.set k v).getD k 0):gK z t=3/\eG z t=[]:=by
 rw[set_getD ho,hv] at hb
 have e:=nd_3 (z:=z) (ss:=cW t k) h.bad (by rw[gY];exact h.ord) h.rng hb
 have:=tm_no h.tm.z0 h.tm.kl h.tm.tl h.tm.up (by rw[e];decide)
 rwa [e] at this
theorem NdR.next{z:Int}{t:List qB}{k:Nat}(h:NdR z t k){v:Int}(hv:v=szN (cW t k) (t.getD k tz)){o:List Int}(ho:szI t k o)(hb:¬ 4096<(o.set k v).getD k 0):k+1<=t.length/\szI t (k+1) (o.set k v)/\lT z t (k+1):=by
 have hl:=ho.1
 have hk:=h.tm.kl
 rw[set_getD (by omega),hv] at hb
 exact ⟨hk,ho.put hk hv,szUp_s h.tm.up (nd_y h.bad (by rw[gY];exact h.ord) h.rng hb)⟩
theorem NdR.kd{z:Int}{t:List qB}{k:Nat}(h:NdR z t k):0<=xG (t.getD k tz).op:=by
 have:=h.bad;unfold fZ at this;omega
theorem NdR.a{z:Int}{t:List qB}{k:Nat}(h:NdR z t k){o:List Int}(ho:szI t k o)(h0:xG (t.getD k tz).op≠0) :
  0<=(t.getD k tz).a/\(t.getD k tz).a.toNat<k/\o.getD (t.getD k tz).a.toNat 0=(cW t k).getD (t.getD k tz).a.toNat 0/\1<=o.getD (t.getD k tz).a.toNat 0/\o.getD (t.getD k tz).a.toNat 0<=4096:=by
 have h1:=h.kd
 have h2:=h.ord
 unfold bA at h2
 have ha:(t.getD k tz).a.toNat<k:=by omega
 have e:=ho.at ha (by have:=h.tm.kl;omega)
 have r:=sz_rng h.tm.up _ ha
 rw[<- e] at r
 exact ⟨by omega,ha,e,r⟩
theorem NdR.b{z:Int}{t:List qB}{k:Nat}(h:NdR z t k){o:List Int}(ho:szI t k o)(h0:xG (t.getD k tz).op≠0)(h6:(t.getD k tz).op≠6)(h7:(t.getD k tz).op≠7) :
  0<=(t.getD k tz).b/\(t.getD k tz).b.toNat<k/\o.getD (t.getD k tz).b.toNat 0=(cW t k).getD (t.getD k tz).b.toNat 0/\1<=o.getD (t.getD k tz).b.toNat 0/\o.getD (t.getD k tz).b.toNat 0<=4096:=by
 have h1:=h.kd
 have h2:=h.ord
 have h3:xG (t.getD k tz).op=2:=by rcases fH (t.getD k tz).op with ⟨a,b⟩ | ⟨a,b⟩ | ⟨a,b⟩ | ⟨a,b⟩<;>omega
 unfold bA at h2
 have ha:(t.getD k tz).b.toNat<k:=by omega
 have e:=ho.at ha (by have:=h.tm.kl;omega)
 have r:=sz_rng h.tm.up _ ha
 rw[<- e] at r
 exact ⟨by omega,ha,e,r⟩
theorem szN_c{ss:List Int}{x:qB}(h:xG x.op=0):(1:Int)=szN ss x:=(if_pos h).symm
theorem szN_n{ss:List Int}{x:qB}{v:Int}(h:xG x.op≠0)(h6:x.op=6)(hv:v=ss.getD x.a.toNat 0):v=szN ss x:=by
 unfold szN;rw[if_neg h,if_pos h6,hv]
theorem szN_q{ss:List Int}{x:qB}{v:Int}(h:xG x.op≠0)(h7:x.op=7)(hv:v=ss.getD x.a.toNat 0):2*v=szN ss x:=by
 unfold szN;rw[if_neg h,if_neg (by omega),if_pos h7,hv]
theorem szN_b{ss:List Int}{x:qB}{v w:Int}(h:xG x.op≠0)(h6:x.op≠6)(h7:x.op≠7)(hv:v=ss.getD x.a.toNat 0)(hw:w=ss.getD x.b.toNat 0):v+w=szN ss x:=by
 unfold szN;rw[if_neg h,if_neg h6,if_neg h7,hv,hw]
theorem tm_end{z:Int}{t:List qB}{k:Nat}{o:List Int}(h:(decide (z<0)||decide (64<z))=false)(h0:((t.length:Nat):Int)≠0)(h4:¬ 400<((t.length:Nat):Int))(hk:k<=t.length)(h5:¬ ((k:Nat):Int)<((t.length:Nat):Int))(ho:szI t k o)(hu:lT z t k):gK z t=0/\eG z t=o:=by
 obtain rfl:k=t.length:=by omega
 obtain ⟨e1,e2⟩:=tm_yes (zb_f h) (by omega) (by omega) hu
 exact ⟨e1,by rw[e2,szI_end ho]⟩
inductive aA (n:Nat) (L:List JV):qB->Prop
 |c {p:Rat} (hp:QL p 1048576):aA n L ⟨0,0,0,jN p⟩
 |v {a:Nat} (ha:a<n):aA n L ⟨1,(a:Int),0,zr⟩
 |add {a b:Nat} (ha:a<L.length) (hb:b<L.length):aA n L ⟨2,(a:Int),(b:Int),zr⟩
 |sub {a b:Nat} (ha:a<L.length) (hb:b<L.length):aA n L ⟨3,(a:Int),(b:Int),zr⟩
 |mul {a b:Nat} (ha:a<L.length) (hb:b<L.length):aA n L ⟨4,(a:Int),(b:Int),zr⟩
 |div {a b:Nat} (ha:a<L.length) (hb:b<L.length) (hz:xH (L.getD b jz).v.1 (L.getD b jz).v.2=false):aA n L ⟨5,(a:Int),(b:Int),zr⟩
 |neg {a:Nat} (ha:a<L.length):aA n L ⟨6,(a:Int),0,zr⟩
 |sq {a:Nat} (ha:a<L.length):aA n L ⟨7,(a:Int),0,zr⟩
theorem nat_of{a:Int}(h:0<=a):∃ m:Nat,a=(m:Int):=⟨a.toNat,by omega⟩
theorem nd_ok{bx:List R2}{t:List qB}{k:Nat}{ss:List Int}(h:ndC ((bx.length:Nat):Int) ss (t.getD k tz)=0)(hs:ss.length=k)(hq:hP (t.getD k tz).n (qS (t.getD k tz).n) 1048576)
  (hz:(t.getD k tz).op=5->xH (jA (jU bx t k) (t.getD k tz).b).v.1 (jA (jU bx t k) (t.getD k tz).b).v.2=false):aA bx.length (jU bx t k) (t.getD k tz):=by
 obtain ⟨h1,h2,h3,_⟩:=nd_0 h
 have hl:=cX bx t k
 rw[hs] at h2
 generalize t.getD k tz=x at *
 generalize jU bx t k=L at *
 obtain ⟨op,a,b,n⟩:=x
 unfold fZ at h1
 unfold bA at h2
 unfold rngN at h3
 dsimp only at *
 have hu:op≠0->n=zr:=fun h=>uns_eq (by
  cases hh:unsB n with
  |true=>rfl
  |false=>exact absurd (Or.inr (Or.inr (Or.inr ⟨h,hh⟩))) h1)
 rcases fH op with ⟨e,f⟩ | ⟨e,f⟩ | ⟨e,f⟩ | ⟨e,f⟩
 ·have hb:b=0:=by omega
  subst hb
  rcases f with f | f
  ·subst f
   have ha:a=0:=by omega
   subst ha
   have hv:kR n=true:=by
    cases hh:kR n with
    |true=>rfl
    |false=>exact absurd (Or.inr (Or.inr (Or.inl ⟨rfl,Or.inr hh⟩))) h1
   rw[<- bK hv] at hq ⊢
   rw[yY] at hq
   exact .c (hq.ql)
  ·subst f
   obtain ⟨m,hm⟩:=nat_of (a:=a) (by omega)
   subst hm
   rw[hu (by decide)]
   exact .v (by omega)
 ·have hb:b=0:=by omega
  subst hb
  obtain ⟨m,hm⟩:=nat_of (a:=a) (by omega)
  subst hm
  rw[hu (by omega)]
  rcases f with f | f<;>subst f
  ·exact .neg (by omega)
  ·exact .sq (by omega)
 ·obtain ⟨m,hm⟩:=nat_of (a:=a) (by omega)
  subst hm
  obtain ⟨l,hl'⟩:=nat_of (a:=b) (by omega)
  subst hl'
  rw[hu (by omega)]
  rcases f with f | f | f | f<;>subst f
  ·exact .add (by omega) (by omega)
  ·exact .sub (by omega) (by omega)
  ·exact .mul (by omega) (by omega)
  ·refine .div (by omega) (by omega) ?_
   have:=hz rfl
   unfold jA at this
   rwa [Int.toNat_natCast] at this
 ·omega
structure JRun (bx:List R2) (t:List qB):Prop where
 c0:gK ((bx.length:Nat):Int) t=0
 ok:∀ k,k<t.length->nZ 1048576 bx.length (nJ bx (jU bx t k) (t.getD k tz))
 dz:∀ k,k<t.length->(t.getD k tz).op=5->xH (jA (jU bx t k) (t.getD k tz).b).v.1 (jA (jU bx t k) (t.getD k tz).b).v.2=false
theorem JRun.upto{bx:List R2}{t:List qB}(h:JRun bx t):∀ {k},k<=t.length->∀ y∈jU bx t k,nZ 1048576 bx.length y
 |0,_,y,hy=>by simp [jU] at hy
 |k+1,hk,y,hy=>by
  rw[jU,List.mem_append] at hy
  rcases hy with hy | hy
  ·exact h.upto (by omega) y hy
  ·rw[List.mem_singleton] at hy;subst hy
   exact h.ok k (by omega)
theorem JRun.nd{bx:List R2}{t:List qB}(h:JRun bx t)(hq:∀ x∈t,hP x.n (qS x.n) 1048576){k:Nat}(hk:k<t.length):aA bx.length (jU bx t k) (t.getD k tz):=by
 have h0:=tm_0 h.c0
 refine nd_ok (h0.2.2.2.2 k hk) (gY t k) ?_ (h.dz k hk)
 rw[List.getD_eq_getElem?_getD,List.getElem?_eq_getElem hk];exact hq _ (List.getElem_mem _)
def kA(bx:List R2)(t:List qB):JV:=(jU bx t t.length).getD (t.length-1) jz
theorem JRun.last{bx:List R2}{t:List qB}(h:JRun bx t):nZ 1048576 bx.length (kA bx t):=by
 have h0:=tm_0 h.c0
 have hl:=cX bx t t.length
 unfold kA
 rw[List.getD_eq_getElem?_getD,List.getElem?_eq_getElem (by omega)]
 exact h.upto (Nat.le_refl _) _ (List.getElem_mem _)
end Go.Fid
namespace Go.Proofs.YtnajallgoaiahaaGreatDoor
open Go.Fid
def iS{α:Type}(f:α->Bool):List α->Nat->Int
 |[],_=>-1
 |x::r,i=>bif f x then ((i:Nat):Int) else iS f r (i+1)
theorem fst0_step{α:Type}(f:α->Bool)(d:α)(l:List α)(k:Nat)(h:k<l.length)(hf:f (l.getD k d)=false):iS f (l.drop k) k=iS f (l.drop (k+1)) (k+1):=by
 rw[List.drop_eq_getElem_cons h,iS,show f l[k]=false by rw[<- hf,List.getD_eq_getElem?_getD,List.getElem?_eq_getElem h];rfl];rfl
theorem fst0_at{α:Type}(f:α->Bool)(d:α)(l:List α)(k:Nat)(h:k<l.length)(hf:f (l.getD k d)=true):iS f (l.drop k) k=((k:Nat):Int):=by
 rw[List.drop_eq_getElem_cons h,iS,show f l[k]=true by rw[<- hf,List.getD_eq_getElem?_getD,List.getElem?_eq_getElem h];rfl];rfl
theorem fst0_end{α:Type}(f:α->Bool)(l:List α)(k:Nat)(h:l.length<=k):iS f (l.drop k) k=-1:=by rw[List.drop_eq_nil_of_le h];rfl
theorem fst0_any{α:Type}(f:α->Bool):∀ (l:List α) (i:Nat),decide (0<=iS f l i)=l.any f
 |[],i=>by simp [iS]
 |x::r,i=>by
  rw[iS,List.any_cons]
  cases f x
  ·rw[Bool.false_or,cond_false];exact fst0_any f r (i+1)
  ·rw[Bool.true_or,cond_true,decide_eq_true_eq];omega
theorem vRow_any(l:List jR):(!(l.any (fun x=>!(kR x))))=aN l:=by
 unfold aN
 rw[List.all_eq_not_any_not]
def yS(m:List (List jR))(l:List jR):Bool:=(((l.length:Nat):Int) != (((m.getD 0 []).length:Nat):Int))||!(aN l)
def shpB(m:List (List jR)):Bool:=(((decide (((m.length:Nat):Int)<1)||decide (64<((m.length:Nat):Int)))||decide ((((m.getD 0 []).length:Nat):Int)<1))||decide (64<(((m.getD 0 []).length:Nat):Int)))
def mZ(m:List (List jR)):Nat:=bif shpB m||m.any (yS m) then 1 else 0
theorem shp_0{m:List (List jR)}(h:shpB m=false):0<m.length:=by
 unfold shpB at h
 simp only[Bool.or_eq_false_iff,decide_eq_false_iff_not] at h
 omega
theorem mchk_1{m:List (List jR)}(h:shpB m=true):mZ m=1:=by unfold mZ;rw[h];rfl
theorem mchk_2{m:List (List jR)}(h:m.any (yS m)=true):mZ m=1:=by unfold mZ;rw[h,Bool.or_true];rfl
theorem mchk_3{m:List (List jR)}(h1:shpB m=false)(h:m.any (yS m)=false):mZ m=0:=by unfold mZ;rw[h,h1];rfl
structure yL (m:List (List jR)) (r c:Nat):Prop where
 hr:m.length=r
 hc:∀ l∈m,l.length=c/\aN l=true
 r1:1<=r
 r64:r<=64
 c1:1<=c
 c64:c<=64
theorem iM{m:List (List jR)}(h:mZ m=0):yL m m.length (m.getD 0 []).length:=by
 unfold mZ at h
 cases hb:shpB m||m.any (yS m) with
 |true=>rw[hb] at h;cases h
 |false=>
  rw[Bool.or_eq_false_iff] at hb
  obtain ⟨h1,h2⟩:=hb
  unfold shpB at h1
  simp only[Bool.or_eq_false_iff,decide_eq_false_iff_not] at h1
  refine ⟨rfl,fun l hl=>?_,by omega,by omega,by omega,by omega⟩
  have h3:=List.any_eq_false.1 h2 l hl
  unfold yS at h3
  rw[Bool.not_eq_true,Bool.or_eq_false_iff,Bool.not_eq_false',bne_eq_false_iff_eq] at h3
  exact ⟨by omega,h3.2⟩
theorem yL.at{m:List (List jR)}{r c:Nat}(h:yL m r c){i:Nat}(hi:i<r):(m.getD i []).length=c/\aN (m.getD i [])=true:=by
 have:=h.hr
 rw[List.getD_eq_getElem?_getD,List.getElem?_eq_getElem (by omega)];exact h.hc _ (List.getElem_mem _)
theorem toQ_zr:qS zr=0:=by unfold qS;rw[if_neg (by decide)]
def lD(l m:List jR):Nat->Rat
 |0=>0
 |i+1=>lD l m i+qS (l.getD i zr)*qS (m.getD i zr)
def dotR(l m:List jR):Rat:=lD l m l.length
theorem dotT_skip{l m:List jR}{i:Nat}(h:qS (l.getD i zr)=0\/qS (m.getD i zr)=0):lD l m i=lD l m (i+1):=by
 rw[lD]
 rcases h with h | h<;>rw[h]<;>grind
theorem row_ql{l:List jR}{n j:Nat}(h:xN n l)(hn:1<=n:=by decide):QL (qS (l.getD j zr)) n:=by
 rcases Nat.lt_or_ge j l.length with hj | hj
 ·exact (xL h.1 hj).ql
 ·rw[List.getD_eq_getElem?_getD,List.getElem?_eq_none (by omega)]
  show QL (qS zr) n
  rw[toQ_zr]
  exact qG mX hn
theorem dotT_ql{l m:List jR}{a b:Nat}(hl:xN a l)(hm:xN b m)(ha:1<=a)(hb:1<=b):∀ i,QL (lD l m i) (i*(a+b+1)+1)
 |0=>qG mX (by omega)
 |i+1=>by
  rw[lD]
  exact mS (dotT_ql hl hm ha hb i) (qD (row_ql hl ha) (row_ql hm hb) (Nat.le_refl _)) (by rw[Nat.add_mul];omega)
theorem dot_ql1{l m:List jR}{i:Nat}(hl:xN 1048576 l)(hm:xN 1048576 m)(hi:i<=64):QL (lD l m i) 134217800 :=
 qG (dotT_ql hl hm (by decide) (by decide) i) (Nat.le_trans (Nat.add_le_add_right (Nat.mul_le_mul_right _ hi) 1) (by decide))
theorem dot_ql2{l m:List jR}{i:Nat}(hl:xN 1048576 l)(hm:xN 134217800 m)(hi:i<=64):QL (lD l m i) 8800000000 :=
 qG (dotT_ql hl hm (by decide) (by decide) i) (Nat.le_trans (Nat.add_le_add_right (Nat.mul_le_mul_right _ hi) 1) (by decide))
def appR(m:List (List jR))(v:List jR):List jR:=m.map fun r=>jN (dotR r v)
theorem appR_len(m:List (List jR))(v:List jR):(appR m v).length=m.length:=List.length_map _
theorem appR_step{m:List (List jR)}{v:List jR}{i:Nat}(h:i<m.length):(m.take i).map (fun r=>jN (dotR r v))++[jN (dotR (m.getD i []) v)]=(m.take (i+1)).map (fun r=>jN (dotR r v)):=by
 rw[List.take_succ_eq_append_getElem h,List.map_append,List.getD_eq_getElem?_getD,List.getElem?_eq_getElem h];rfl
theorem appR_ok{m:List (List jR)}{v:List jR}(hm:uY 1048576 m)(hv:xN 1048576 v)(hr:∀ l∈m,l.length<=64):xN 134217800 (appR m v):=by
 refine ⟨fun a ha=>?_,by rw[appR_len];exact hm.2⟩
 obtain ⟨r,h1,rfl⟩:=List.mem_map.1 ha
 rw[yY]
 exact jW (dot_ql1 (hm.1 r h1) hv (hr r h1))
theorem yL.le{m:List (List jR)}{r c:Nat}(h:yL m r c):∀ l∈m,l.length<=64:=fun l hl=>by
 have h1:=(h.hc l hl).1
 have h2:=h.c64
 omega
def fG(q:List (List jR))(a b:List jR):Rat:=dotR a (appR q b)
def eqM(m:List (List jR))(i j:Nat):Bool:=decide (qS ((m.getD i []).getD j zr)=qS ((m.getD j []).getD i zr))
def symB(m:List (List jR)):Bool:=(List.range m.length).all fun i=>(List.range i).all fun j=>eqM m i j
def symI(m:List (List jR))(k:Nat):Prop:=∀ i,i<k->∀ j,j<i->eqM m i j=true
theorem symI_0(m:List (List jR)):symI m 0:=fun i h=>by omega
theorem symI_s{m:List (List jR)}{k:Nat}(h:symI m k)(h2:∀ j,j<k->eqM m k j=true):symI m (k+1):=fun i hi j hj=>by
 rcases Nat.lt_or_ge i k with h3 | h3
 ·exact h i h3 j hj
 ·obtain rfl:i=k:=by omega
  exact h2 j hj
theorem sym_no{m:List (List jR)}{i j:Nat}(hi:i<m.length)(hj:j<i)(h:eqM m i j=false):symB m=false:=by
 cases hb:symB m with
 |false=>rfl
 |true=>
  have:=List.all_eq_true.1 (List.all_eq_true.1 hb i (List.mem_range.2 hi)) j (List.mem_range.2 hj)
  rw[h] at this;cases this
theorem sym_yes{m:List (List jR)}(h:symI m m.length):symB m=true:=by
 unfold symB
 rw[List.all_eq_true];intro i hi
 rw[List.all_eq_true];intro j hj
 exact h i (List.mem_range.1 hi) j (List.mem_range.1 hj)
theorem sym_at{m:List (List jR)}(h:symB m=true){i j:Nat}(hi:i<m.length)(hj:j<i):qS ((m.getD i []).getD j zr)=qS ((m.getD j []).getD i zr) :=
 of_decide_eq_true (List.all_eq_true.1 (List.all_eq_true.1 h i (List.mem_range.2 hi)) j (List.mem_range.2 hj))
def nP(m:List (List jR))(n:Nat):Nat:=if m.length≠n\/(m.getD 0 []).length≠n then 4 else bif symB m then 0 else 11
theorem fit_1{m:List (List jR)}{n:Nat}(h:(((((m.length:Nat):Int) != ((n:Nat):Int))||((((m.getD 0 []).length:Nat):Int) != ((n:Nat):Int))))=true):nP m n=4:=by
 rw[Bool.or_eq_true,bne_iff_ne,bne_iff_ne] at h
 exact if_pos (by omega)
theorem fit_0{m:List (List jR)}{n:Nat}(h:(((((m.length:Nat):Int) != ((n:Nat):Int))||((((m.getD 0 []).length:Nat):Int) != ((n:Nat):Int))))=false):m.length=n/\(m.getD 0 []).length=n:=by
 rw[Bool.or_eq_false_iff,bne_eq_false_iff_eq,bne_eq_false_iff_eq] at h
 omega
theorem fit_11{m:List (List jR)}{n:Nat}(h:m.length=n/\(m.getD 0 []).length=n)(hs:symB m=false):nP m n=11:=by
 unfold nP;rw[if_neg (by omega),hs];rfl
theorem fit_ok{m:List (List jR)}{n:Nat}(h:m.length=n/\(m.getD 0 []).length=n)(hs:symB m=true):nP m n=0:=by
 unfold nP;rw[if_neg (by omega),hs];rfl
theorem fit_of{m:List (List jR)}{n:Nat}(h:nP m n=0):m.length=n/\(m.getD 0 []).length=n/\symB m=true:=by
 unfold nP at h
 split at h
 ·cases h
 ·rename_i h1
  cases hs:symB m with
  |false=>rw[hs] at h;cases h
  |true=>exact ⟨by omega,by omega,rfl⟩
def gP(xs:List Rat)(t:List qB):List jR:=(kA (xs.map yX) t).g.map fun y=>jN y.1
def tabR(q:List (List jR))(gs:List (List jR)):List (List jR):=gs.map fun a=>gs.map fun b=>jN (fG q a b)
theorem gr_step{G:List R2}{i:Nat}(h:i<G.length):(G.take i).map (fun y=>jN y.1)++[jN (G.getD i z2).1]=(G.take (i+1)).map (fun y=>jN y.1):=by
 rw[List.take_succ_eq_append_getElem h,List.map_append,List.getD_eq_getElem?_getD,List.getElem?_eq_getElem h];rfl
theorem fY{xs:List Rat}{t:List qB}(h:JRun (xs.map yX) t):(gP xs t).length=xs.length:=by
 unfold gP
 rw[List.length_map,h.last.2.2,List.length_map]
theorem grQ_ok{xs:List Rat}{t:List qB}(h:JRun (xs.map yX) t):xN 1048576 (gP xs t):=by
 have hl:=h.last
 refine ⟨fun a ha=>?_,?_⟩
 ·unfold gP at ha
  obtain ⟨y,hy,rfl⟩:=List.mem_map.1 ha
  rw[yY]
  exact jW (hl.2.1 y hy).1
 ·rw[fY h]
  have:=(tm_0 h.c0).2.1
  rw[List.length_map] at this;omega
theorem grQ_v{xs:List Rat}{t:List qB}:aN (gP xs t)=true:=by
 unfold aN gP
 rw[List.all_eq_true]
 intro a ha
 obtain ⟨r,h1,rfl⟩:=List.mem_map.1 ha
 exact mP _
theorem dot_sk{a b:Rat}(h:((mJ a != 0)&&(mJ b != 0))=false):a=0\/b=0:=by
 rw[Bool.and_eq_false_iff,bne_eq_false_iff_eq,bne_eq_false_iff_eq] at h
 rcases h with h | h
 ·exact .inl (aW.1 h)
 ·exact .inr (aW.1 h)
theorem mcol_le{m:List (List jR)}{v:List jR}(h:∀ r∈m,r.length=v.length)(hv:v.length<=64):∀ r∈m,r.length<=64:=fun r hr=>by have:=h r hr;omega
theorem mcol_at{m:List (List jR)}{v:List jR}(h:∀ r∈m,r.length=v.length){i:Nat}(hi:i<m.length):(m.getD i []).length=v.length:=by
 rw[List.getD_eq_getElem?_getD,List.getElem?_eq_getElem hi];exact h _ (List.getElem_mem _)
theorem aM{m:List (List jR)}{r c:Nat}(h:yL m r c):mZ m=0:=by
 have h1:=h.hr;have h2:=h.r1;have h3:=h.r64;have h4:=h.c1;have h5:=h.c64
 have h0:=(h.at (i:=0) h2).1
 refine mchk_3 ?_ ?_
 ·unfold shpB
  simp only[Bool.or_eq_false_iff,decide_eq_false_iff_not]
  omega
 ·rw[List.any_eq_false]
  intro l hl
  obtain ⟨q1,q2⟩:=h.hc l hl
  unfold yS
  rw[Bool.not_eq_true,Bool.or_eq_false_iff,Bool.not_eq_false',bne_eq_false_iff_eq]
  exact ⟨by omega,q2⟩
theorem fA{xs:List Rat}{n:Nat}(h:∀ q∈xs,QL q n)(h1:1<=n)(j:Nat):QL (xs.getD j 0) n:=by
 rcases Nat.lt_or_ge j xs.length with hj | hj
 ·rw[List.getD_eq_getElem?_getD,List.getElem?_eq_getElem hj];exact h _ (List.getElem_mem _)
 ·rw[List.getD_eq_getElem?_getD,List.getElem?_eq_none (by omega)];exact qG mX h1
theorem pts_row{xs:List Rat}{n:Nat}(h:∀ q∈xs,QL q n)(hl:xs.length<=1000000):xN n (List.map jN xs):=by
 refine ⟨fun a ha=>?_,by rw[List.length_map];omega⟩
 obtain ⟨q,hq,rfl⟩:=List.mem_map.1 ha
 rw[yY];exact jW (h q hq)
theorem pts_gl{xs:List Rat}{n:Nat}(h:∀ q∈xs,QL q n):∀ y∈List.map yX xs,GL n y:=fun y hy=>by
 obtain ⟨q,hq,rfl⟩:=List.mem_map.1 hy
 exact fQ (h q hq)
theorem iT{α β:Type}{f:α->β}{l:List α}{d:α}{i:Nat}(h:i<l.length):(l.take i).map f++[f (l.getD i d)]=(l.take (i+1)).map f:=by
 rw[List.take_succ_eq_append_getElem h,List.map_append,List.getD_eq_getElem?_getD,List.getElem?_eq_getElem h];rfl
theorem cmpQ_zero{a b:Rat}:yB a b=0↔a=b:=by
 rw[<- signQ_sub]
 show uK (a-b).num=0↔_
 rw[aW]
 constructor
 ·intro h;grind
 ·intro h;grind
theorem eqm_s{m:List (List jR)}{i j:Nat}(h:∀ b,b<j->eqM m i b=true)(hc:yB (qS ((m.getD i []).getD j zr)) (qS ((m.getD j []).getD i zr))=0):∀ b,b<j+1->eqM m i b=true:=fun b hb=>by
 rcases Nat.lt_or_ge b j with h1 | h1
 ·exact h b h1
 ·obtain rfl:b=j:=by omega
  exact decide_eq_true (cmpQ_zero.1 hc)
theorem eqm_f{m:List (List jR)}{i j:Nat}(hc:yB (qS ((m.getD i []).getD j zr)) (qS ((m.getD j []).getD i zr))≠0):eqM m i j=false:=decide_eq_false fun h=>hc (cmpQ_zero.2 h)
theorem tms_at{N:Nat}{ts:List (List qB)}(h:∀ t∈ts,∀ x∈t,hP x.n (qS x.n) N)(i:Nat):∀ x∈ts.getD i [],hP x.n (qS x.n) N:=by
 rcases Nat.lt_or_ge i ts.length with hj | hj
 ·rw[List.getD_eq_getElem?_getD,List.getElem?_eq_getElem hj];exact h _ (List.getElem_mem _)
 ·rw[List.getD_eq_getElem?_getD,List.getElem?_eq_none (by omega)];intro x hx;simp at hx
theorem tms_one{N:Nat}{t:List qB}(h:∀ x∈t,hP x.n (qS x.n) N):∀ u∈[t],∀ x∈u,hP x.n (qS x.n) N:=fun u hu=>by
 rw[List.mem_singleton] at hu;subst hu;exact h
theorem tms_jr{bx:List R2}{ts:List (List qB)}(h:∀ t∈ts,JRun bx t){i:Nat}(hi:i<ts.length):JRun bx (ts.getD i []):=by
 rw[List.getD_eq_getElem?_getD,List.getElem?_eq_getElem hi];exact h _ (List.getElem_mem _)
theorem tms_c0{xs:List Rat}{ts:List (List qB)}(h:∀ t∈ts,JRun (List.map yX xs) t){i:Nat}(hi:i<ts.length):gK ((xs.length:Nat):Int) (ts.getD i [])=0:=by
 have:=(tms_jr h hi).c0
 rwa [List.length_map] at this
theorem grs_ok{xs:List Rat}{ts:List (List qB)}(h:∀ t∈ts,JRun (List.map yX xs) t)(hl:ts.length<=64):uY 1048576 (List.map (gP xs) ts):=by
 refine ⟨fun r hr=>?_,by rw[List.length_map];omega⟩
 obtain ⟨t,ht,rfl⟩:=List.mem_map.1 hr
 exact grQ_ok (h t ht)
theorem rect_0{m:List (List jR)}{r c:Nat}(h:yL m r c):yL m m.length (m.getD 0 []).length:=by
 have h1:=h.hr
 have h0:=(h.at (i:=0) h.r1).1
 rw[h0]
 exact ⟨rfl,h.hc,by have:=h.r1;omega,by have:=h.r64;omega,h.c1,h.c64⟩
theorem grs_at{xs:List Rat}{ts:List (List qB)}(h:∀ t∈ts,JRun (List.map yX xs) t){i:Nat}(hi:i<(List.map (gP xs) ts).length):((List.map (gP xs) ts).getD i []).length=xs.length/\aN ((List.map (gP xs) ts).getD i [])=true:=by
 rw[List.length_map] at hi
 rw[List.getD_eq_getElem?_getD,List.getElem?_map,List.getElem?_eq_getElem hi]
 exact ⟨fY (h _ (List.getElem_mem _)),grQ_v⟩
theorem one_of{α:Type}{P:α->Prop}{x:α}(h:P x):∀ u∈[x],P u:=fun u hu=>by rw[List.mem_singleton] at hu;subst hu;exact h
theorem sq2_nn(a b:Rat):0<=a*a+b*b:=Rat.add_nonneg (rat_sq a) (rat_sq b)
theorem mem_at{α:Type}{P:List α->Prop}{ts:List (List α)}(h:∀ t∈ts,P t){i:Nat}(hi:i<ts.length):P (ts.getD i []):=by
 rw[List.getD_eq_getElem?_getD,List.getElem?_eq_getElem hi];exact h _ (List.getElem_mem _)
end Go.Proofs.YtnajallgoaiahaaGreatDoor
