/- Part 26 of a proof: rules, plain facts, and functions walked. -/
import Derived.Test.YteimogfidbkpnabGreatM25
import Derived.Test.YteimogfidbkpnabGreatM21
set_option linter.all false
set_option maxRecDepth 4000
namespace Go.Proofs.YteimogfidbkpnabGreat
open Go.Fid
theorem ar62:arrB Tryz.prog 62=some (3,3,1):=by kernel_rfl
theorem by62:zC Tryz.prog 62=some 24:=by kernel_rfl
theorem cb28:callB Tryz.prog 28=true:=by kernel_rfl
theorem el56:uK Tryz.prog 56=some (62,3):=by kernel_rfl
theorem ze62:uZ Tryz.prog 62=some [.int .i64 0,.int .i64 0,.int .i64 0]:=by kernel_rfl
theorem zo62:mW [.int .i64 0,.int .i64 0,.int .i64 0] [.val (.int .i64 0),.val (.int .i64 0),.val (.int .i64 0)]:=by simp [mW,Value.oneCell']
theorem l_tris(es:List jC)(n:Nat)(heo:xI n es)(hn:n≤64)(hl2:es.length≤256):kB Tryz.prog 28 [(.sl 36 6 (List.map jP es))] (.tup [(.sl 62 3 (List.map kT (List.map t3 (jU es)))),(.sl 62 3 (List.map kT (List.map (w3 es) (jU es))))]):=by
 refine jK Tryz.func28 rfl cb28 rfl ?_
 show qU _ _ _ _ ⟨[(0,(vl 36 6 jP es))],[]⟩
 refine jA<|kx [(2,(.own 0 62 3 0)),(3,(.own 1 62 3 0))] [(0,some (vX kT [])),(1,some (vX kT []))] (zO 0 62 3<|zO 1 62 3<|zZ) ?_
 refine jA<|jA<|kx [(13,(vl 36 6 jP es)),(14,(jT es.length)),(15,(jT 0))] [] (zM<|zE (xD mI)<|zM<|zZ) ?_
 refine jH<|kI (α:=Nat × List (A3 (Int)) × List (A3 (Int))) (fun (i,out,wks)=>⟨[(0,(vl 36 6 jP es)),(2,(.own 0 62 3 out.length)),(3,(.own 1 62 3 wks.length)),(13,(vl 36 6 jP es)),(14,(jT es.length)),(15,(jT i))],[(0,some (vX kT out)),(1,some (vX kT wks))]⟩) (fun (i,out,wks)=>i≤es.length∧out=List.map t3 (tAll es i)∧wks=List.map (w3 es) (tAll es i)) (fun (i,out,wks)=>es.length-i) (0,[],[]) wk ⟨Nat.zero_le _,rfl,rfl⟩ ?_
 rintro ⟨i,out,wks⟩ ⟨hi,ho,hwk⟩
 refine jA<|kx [(16,(vb (decide (((i:Nat):Int)<((es.length:Nat):Int)))))] [] (zE uM<|zZ) ?_
 refine jA<|jG rfl (fun h1=>?_) (fun h1=>?_)
 ·replace h1:=uW h1
  have hei:EOkE n (es.getD i (jC.mk 0 0 (jB.mk 0 0 0 0))):=gR heo (k:=i) (by omega)
  obtain ⟨hei1,hei2,hei3,hei4,hei5,_⟩:=id hei
  refine jE<|jA<|jH<|jA<|kx [(4,(jT i)),(5,(.ref 2 0))] [(2,some (bx (jP (es.getD i (jC.mk 0 0 (jB.mk 0 0 0 0))))))] (zM<|zE (gV mI i (jC.mk 0 0 (jB.mk 0 0 0 0)))<|zE (oCa cX)<|zH (uQ 2 ze36 zo36)<|zM<|zT (qA cX)<|zZ) ?_
  refine pwp_scope ?_
  refine jA<|pwp_label ?_
  refine jA<|kx [(6,(jT (i+1)))] [] (zM<|zE (qS (i+1))<|zM<|zZ) ?_
  refine jH<|kI (α:=Nat × List (A3 (Int)) × List (A3 (Int))) (fun (j,out,wks)=>⟨[(0,(vl 36 6 jP es)),(2,(.own 0 62 3 out.length)),(3,(.own 1 62 3 wks.length)),(4,(jT i)),(5,(.ref 2 0)),(6,(jT j)),(13,(vl 36 6 jP es)),(14,(jT es.length)),(15,(jT i))],[(0,some (vX kT out)),(1,some (vX kT wks)),(2,some (bx (jP (es.getD i (jC.mk 0 0 (jB.mk 0 0 0 0))))))]⟩) (fun (j,out,wks)=>i<j∧j≤es.length∧out=List.map t3 (tAll es i++aA es i j)∧wks=List.map (w3 es) (tAll es i++aA es i j)) (fun (j,out,wks)=>es.length-j) (i+1,out,wks) wk ⟨by omega,by omega,by rw[tMid_0,List.append_nil];exact ho,by rw[tMid_0,List.append_nil];exact hwk⟩ ?_
  rintro ⟨j,out,wks⟩ ⟨hij,hj,ho,hwk⟩
  refine jA<|jA<|kx [(25,(vb (decide (((j:Nat):Int)<((es.length:Nat):Int)))))] [] (zM<|zM<|zE (xD mI)<|zE uM<|zZ) ?_
  refine jG rfl (fun h2=>?_) (fun h2=>?_)
  ·replace h2:=uW h2
   have hej:EOkE n (es.getD j (jC.mk 0 0 (jB.mk 0 0 0 0))):=gR heo (k:=j) (by omega)
   obtain ⟨hej1,hej2,hej3,hej4,hej5,_⟩:=id hej
   refine jE<|jA<|jH<|jA<|kx [(7,(.ref 3 0))] [(3,some (bx (jP (es.getD j (jC.mk 0 0 (jB.mk 0 0 0 0))))))] (zM<|zM<|zE (gV mI j (jC.mk 0 0 (jB.mk 0 0 0 0)))<|zE (oCa cX)<|zH (uQ 3 ze36 zo36)<|zT (qA cX)<|zZ) ?_
   refine jA<|kx [(8,(vi ((es.getD i (jC.mk 0 0 (jB.mk 0 0 0 0))).fr)))] [] (zE (kV yH)<|zR (kP qF)<|zM<|zZ) ?_
   refine jA<|jH<|jA<|kx [(34,(vb (jnB (es.getD j (jC.mk 0 0 (jB.mk 0 0 0 0))).fr (es.getD j (jC.mk 0 0 (jB.mk 0 0 0 0))).to_ ((es.getD i (jC.mk 0 0 (jB.mk 0 0 0 0))).fr) ((es.getD i (jC.mk 0 0 (jB.mk 0 0 0 0))).to_))))] [] (zR (kY cX)<|zE (kV yH)<|zR (kP qF)<|zE (kV yQ)<|zR (kP qF)<|zE (kE (l_joins (es.getD j (jC.mk 0 0 (jB.mk 0 0 0 0))) ((es.getD i (jC.mk 0 0 (jB.mk 0 0 0 0))).fr) ((es.getD i (jC.mk 0 0 (jB.mk 0 0 0 0))).to_)))<|zM<|zZ) ?_
   refine jG rfl (fun h3=>?_) (fun h3=>?_)
   ·refine jW<|kx [(6,(jT (j+1)))] [] (zM<|zE (qS (j+1))<|zM<|zZ) ?_
    exact ⟨(j+1,out,wks),wk,⟨by omega,by omega,by rw[tMid_s (by omega),tIn_nil (fun m=>trN1 h3),List.append_nil];exact ho,by rw[tMid_s (by omega),tIn_nil (fun m=>trN1 h3),List.append_nil];exact hwk⟩,(by first|omega|(dsimp only;omega))⟩
   ·refine jA<|kx [(41,(vb (hsB (es.getD j (jC.mk 0 0 (jB.mk 0 0 0 0))).fr (es.getD j (jC.mk 0 0 (jB.mk 0 0 0 0))).to_ ((es.getD i (jC.mk 0 0 (jB.mk 0 0 0 0))).to_))))] [] (zR (kY cX)<|zE (kV yQ)<|zR (kP qF)<|zE (kE (l_has (es.getD j (jC.mk 0 0 (jB.mk 0 0 0 0))) ((es.getD i (jC.mk 0 0 (jB.mk 0 0 0 0))).to_)))<|zM<|zZ) ?_
    refine jG rfl (fun h4=>?_) (fun h4=>?_)
    ·refine kx [(8,(vi ((es.getD i (jC.mk 0 0 (jB.mk 0 0 0 0))).to_)))] [] (zE (kV yQ)<|zR (kP qF)<|zM<|zZ) ?_
     refine jA<|kx [(9,(vi ((es.getD j (jC.mk 0 0 (jB.mk 0 0 0 0))).fr+(es.getD j (jC.mk 0 0 (jB.mk 0 0 0 0))).to_-((es.getD i (jC.mk 0 0 (jB.mk 0 0 0 0))).to_))))] [] (zR (kY cX)<|zM<|zE (kE (l_other (es.getD j (jC.mk 0 0 (jB.mk 0 0 0 0))) ((es.getD i (jC.mk 0 0 (jB.mk 0 0 0 0))).to_) (by omega) (by omega) (by omega)))<|zM<|zZ) ?_
     refine jA<|kx [(10,(jT (j+1)))] [] (zM<|zE (qS (j+1))<|zM<|zZ) ?_
     refine jH<|kI (α:=Nat × List (A3 (Int)) × List (A3 (Int))) (fun (k,out,wks)=>⟨[(0,(vl 36 6 jP es)),(2,(.own 0 62 3 out.length)),(3,(.own 1 62 3 wks.length)),(4,(jT i)),(5,(.ref 2 0)),(6,(jT j)),(8,(vi ((es.getD i (jC.mk 0 0 (jB.mk 0 0 0 0))).to_))),(9,(vi ((es.getD j (jC.mk 0 0 (jB.mk 0 0 0 0))).fr+(es.getD j (jC.mk 0 0 (jB.mk 0 0 0 0))).to_-((es.getD i (jC.mk 0 0 (jB.mk 0 0 0 0))).to_)))),(10,(jT k)),(13,(vl 36 6 jP es)),(14,(jT es.length)),(15,(jT i))],[(0,some (vX kT out)),(1,some (vX kT wks)),(2,some (bx (jP (es.getD i (jC.mk 0 0 (jB.mk 0 0 0 0))))))]⟩) (fun (k,out,wks)=>j<k∧k≤es.length∧out=List.map t3 (tAll es i++aA es i j++tIn es i j k)∧wks=List.map (w3 es) (tAll es i++aA es i j++tIn es i j k)) (fun (k,out,wks)=>es.length-k) (j+1,out,wks) wk ⟨by omega,by omega,by rw[tIn_0,List.append_nil];exact ho,by rw[tIn_0,List.append_nil];exact hwk⟩ ?_
     rintro ⟨k,out,wks⟩ ⟨hjk,hk,ho,hwk⟩
     have hrm:=t_room (es:=es) (i:=i) (j:=j) (k:=k) hl2 (by omega) (by omega) (by omega)
     have hlo:out.length≤20000000:=by rw[ho,List.length_map];simp only[List.length_append] at hrm ⊢;omega
     have hlw:wks.length≤20000000:=by rw[hwk,List.length_map];simp only[List.length_append] at hrm ⊢;omega
     refine jA<|jA<|kx [(62,(vb (decide (((k:Nat):Int)<((es.length:Nat):Int)))))] [] (zM<|zM<|zE (xD mI)<|zE uM<|zZ) ?_
     refine jG rfl (fun h5=>?_) (fun h5=>?_)
     ·replace h5:=uW h5
      have hek:EOkE n (es.getD k (jC.mk 0 0 (jB.mk 0 0 0 0))):=gR heo (k:=k) (by omega)
      obtain ⟨hek1,hek2,hek3,hek4,hek5,_⟩:=id hek
      refine jE<|jA<|jH<|jA<|jA<|kd [(74,(vb (!(jnB (es.getD k (jC.mk 0 0 (jB.mk 0 0 0 0))).fr (es.getD k (jC.mk 0 0 (jB.mk 0 0 0 0))).to_ ((es.getD i (jC.mk 0 0 (jB.mk 0 0 0 0))).fr+(es.getD i (jC.mk 0 0 (jB.mk 0 0 0 0))).to_-((es.getD i (jC.mk 0 0 (jB.mk 0 0 0 0))).to_)) ((es.getD j (jC.mk 0 0 (jB.mk 0 0 0 0))).fr+(es.getD j (jC.mk 0 0 (jB.mk 0 0 0 0))).to_-((es.getD i (jC.mk 0 0 (jB.mk 0 0 0 0))).to_))))))] [] mo (wM<|wM<|wE (gV mI k (jC.mk 0 0 (jB.mk 0 0 0 0)))<|wE (oCa cX)<|wR (kY cX)<|wM<|wE (kE (l_other (es.getD i (jC.mk 0 0 (jB.mk 0 0 0 0))) ((es.getD i (jC.mk 0 0 (jB.mk 0 0 0 0))).to_) (by omega) (by omega) (by omega)))<|wM<|wE (kE (l_joins (es.getD k (jC.mk 0 0 (jB.mk 0 0 0 0))) ((es.getD i (jC.mk 0 0 (jB.mk 0 0 0 0))).fr+(es.getD i (jC.mk 0 0 (jB.mk 0 0 0 0))).to_-((es.getD i (jC.mk 0 0 (jB.mk 0 0 0 0))).to_)) ((es.getD j (jC.mk 0 0 (jB.mk 0 0 0 0))).fr+(es.getD j (jC.mk 0 0 (jB.mk 0 0 0 0))).to_-((es.getD i (jC.mk 0 0 (jB.mk 0 0 0 0))).to_))))<|wE oNt<|wZ) ?_
      refine jG rfl (fun h6=>?_) (fun h6=>?_)
      ·refine jW<|kx [(10,(jT (k+1)))] [] (zM<|zE (qS (k+1))<|zM<|zZ) ?_
       exact ⟨(k+1,out,wks),wk,⟨by omega,by omega,by rw[tIn_n ((trA (k:=k) h3 h4).1.trans (bn_t h6))];exact ho,by rw[tIn_n ((trA (k:=k) h3 h4).1.trans (bn_t h6))];exact hwk⟩,(by first|omega|(dsimp only;omega))⟩
      ·refine jE<|jA<|kf [(2,(.own 0 62 3 ((out++[(A3.mk ((i:Nat):Int) ((j:Nat):Int) ((k:Nat):Int))]).length)))] [(0,some (vX kT (out++[(A3.mk ((i:Nat):Int) ((j:Nat):Int) ((k:Nat):Int))])))] (zM<|zM<|zM<|zM<|zE (oBf ar62 ze62 zo62)<|zE (oBs el56 ze62 zo62)<|zAS kT out [(A3.mk ((i:Nat):Int) ((j:Nat):Int) ((k:Nat):Int))] rfl el56 ze62 by62<|zM<|zF) ?_
       refine jA<|kx [(11,(jT j)),(12,(jT k))] [] (zM<|zM<|zM<|zM<|zZ) ?_
       refine jA<|jA<|kx [(87,(vb false))] [] (zM<|zE (kV yH)<|zR (kP qF)<|zE (xR false gX (by exact beq_eq_false_iff_ne.2 (fun e=>hei5 e.symm)))<|zZ) ?_
       refine qZ ?_
       refine jE<|kf [(3,(.own 1 62 3 ((wks++[(A3.mk ((i:Nat):Int) (alI (es.getD j (jC.mk 0 0 (jB.mk 0 0 0 0))).fr ((es.getD i (jC.mk 0 0 (jB.mk 0 0 0 0))).to_) ((j:Nat):Int)) (alI (es.getD k (jC.mk 0 0 (jB.mk 0 0 0 0))).fr ((es.getD j (jC.mk 0 0 (jB.mk 0 0 0 0))).fr+(es.getD j (jC.mk 0 0 (jB.mk 0 0 0 0))).to_-((es.getD i (jC.mk 0 0 (jB.mk 0 0 0 0))).to_)) ((k:Nat):Int)))]).length)))] [(1,some (vX kT (wks++[(A3.mk ((i:Nat):Int) (alI (es.getD j (jC.mk 0 0 (jB.mk 0 0 0 0))).fr ((es.getD i (jC.mk 0 0 (jB.mk 0 0 0 0))).to_) ((j:Nat):Int)) (alI (es.getD k (jC.mk 0 0 (jB.mk 0 0 0 0))).fr ((es.getD j (jC.mk 0 0 (jB.mk 0 0 0 0))).fr+(es.getD j (jC.mk 0 0 (jB.mk 0 0 0 0))).to_-((es.getD i (jC.mk 0 0 (jB.mk 0 0 0 0))).to_)) ((k:Nat):Int)))])))] (zM<|zM<|zM<|zM<|zE (kV yQ)<|zR (kP qF)<|zE (kE (l_along es j ((es.getD i (jC.mk 0 0 (jB.mk 0 0 0 0))).to_) (by omega) (by omega)))<|zM<|zM<|zM<|zE (kE (l_along es k ((es.getD j (jC.mk 0 0 (jB.mk 0 0 0 0))).fr+(es.getD j (jC.mk 0 0 (jB.mk 0 0 0 0))).to_-((es.getD i (jC.mk 0 0 (jB.mk 0 0 0 0))).to_)) (by omega) (by omega)))<|zE (oBf ar62 ze62 zo62)<|zE (oBs el56 ze62 zo62)<|zAS kT wks [(A3.mk ((i:Nat):Int) (alI (es.getD j (jC.mk 0 0 (jB.mk 0 0 0 0))).fr ((es.getD i (jC.mk 0 0 (jB.mk 0 0 0 0))).to_) ((j:Nat):Int)) (alI (es.getD k (jC.mk 0 0 (jB.mk 0 0 0 0))).fr ((es.getD j (jC.mk 0 0 (jB.mk 0 0 0 0))).fr+(es.getD j (jC.mk 0 0 (jB.mk 0 0 0 0))).to_-((es.getD i (jC.mk 0 0 (jB.mk 0 0 0 0))).to_)) ((k:Nat):Int)))] rfl el56 ze62 by62<|zM<|zF) ?_
       refine kx [(10,(jT (k+1)))] [] (zM<|zE (qS (k+1))<|zM<|zZ) ?_
       exact ⟨(k+1,out++[A3.mk ((i:Nat):Int) ((j:Nat):Int) ((k:Nat):Int)],wks++[A3.mk ((i:Nat):Int) (alI (es.getD j (jC.mk 0 0 (jB.mk 0 0 0 0))).fr (es.getD i (jC.mk 0 0 (jB.mk 0 0 0 0))).to_ ((j:Nat):Int)) (alI (es.getD k (jC.mk 0 0 (jB.mk 0 0 0 0))).fr ((es.getD j (jC.mk 0 0 (jB.mk 0 0 0 0))).fr+(es.getD j (jC.mk 0 0 (jB.mk 0 0 0 0))).to_-(es.getD i (jC.mk 0 0 (jB.mk 0 0 0 0))).to_) ((k:Nat):Int))]),wk,⟨by omega,by omega,by rw[tIn_y (by omega) ((trA (k:=k) h3 h4).1.trans (bn_f h6)),← List.append_assoc];exact t_push ho rfl,by rw[tIn_y (by omega) ((trA (k:=k) h3 h4).1.trans (bn_f h6)),← List.append_assoc];refine t_push hwk ?_;unfold w3;rw[(trA (k:=k) h3 h4).2];rfl⟩,(by first|omega|(dsimp only;omega))⟩
     ·replace h5:=uY h5
      refine jW<|kx [(6,(jT (j+1)))] [] (zM<|zE (qS (j+1))<|zM<|zZ) ?_
      exact ⟨(j+1,out,wks),wk,⟨by omega,by omega,by rw[tMid_s (by omega),← List.append_assoc,← show k=es.length by omega];exact ho,by rw[tMid_s (by omega),← List.append_assoc,← show k=es.length by omega];exact hwk⟩,(by first|omega|(dsimp only;omega))⟩
    ·refine jA<|kx [(48,(vb (!(hsB (es.getD j (jC.mk 0 0 (jB.mk 0 0 0 0))).fr (es.getD j (jC.mk 0 0 (jB.mk 0 0 0 0))).to_ ((es.getD i (jC.mk 0 0 (jB.mk 0 0 0 0))).fr)))))] [] (zR (kY cX)<|zE (kV yH)<|zR (kP qF)<|zE (kE (l_has (es.getD j (jC.mk 0 0 (jB.mk 0 0 0 0))) ((es.getD i (jC.mk 0 0 (jB.mk 0 0 0 0))).fr)))<|zE oNt<|zM<|zZ) ?_
     refine jG rfl (fun h7=>?_) (fun h7=>?_)
     ·refine jW<|kx [(6,(jT (j+1)))] [] (zM<|zE (qS (j+1))<|zM<|zZ) ?_
      exact ⟨(j+1,out,wks),wk,⟨by omega,by omega,by rw[tMid_s (by omega),tIn_nil (fun m=>trN2 h4 (bn_t h7)),List.append_nil];exact ho,by rw[tMid_s (by omega),tIn_nil (fun m=>trN2 h4 (bn_t h7)),List.append_nil];exact hwk⟩,(by first|omega|(dsimp only;omega))⟩
     ·refine jE<|jA<|kx [(9,(vi ((es.getD j (jC.mk 0 0 (jB.mk 0 0 0 0))).fr+(es.getD j (jC.mk 0 0 (jB.mk 0 0 0 0))).to_-((es.getD i (jC.mk 0 0 (jB.mk 0 0 0 0))).fr))))] [] (zR (kY cX)<|zM<|zE (kE (l_other (es.getD j (jC.mk 0 0 (jB.mk 0 0 0 0))) ((es.getD i (jC.mk 0 0 (jB.mk 0 0 0 0))).fr) (by omega) (by omega) (by omega)))<|zM<|zZ) ?_
      refine jA<|kx [(10,(jT (j+1)))] [] (zM<|zE (qS (j+1))<|zM<|zZ) ?_
      refine jH<|kI (α:=Nat × List (A3 (Int)) × List (A3 (Int))) (fun (k,out,wks)=>⟨[(0,(vl 36 6 jP es)),(2,(.own 0 62 3 out.length)),(3,(.own 1 62 3 wks.length)),(4,(jT i)),(5,(.ref 2 0)),(6,(jT j)),(8,(vi ((es.getD i (jC.mk 0 0 (jB.mk 0 0 0 0))).fr))),(9,(vi ((es.getD j (jC.mk 0 0 (jB.mk 0 0 0 0))).fr+(es.getD j (jC.mk 0 0 (jB.mk 0 0 0 0))).to_-((es.getD i (jC.mk 0 0 (jB.mk 0 0 0 0))).fr)))),(10,(jT k)),(13,(vl 36 6 jP es)),(14,(jT es.length)),(15,(jT i))],[(0,some (vX kT out)),(1,some (vX kT wks)),(2,some (bx (jP (es.getD i (jC.mk 0 0 (jB.mk 0 0 0 0))))))]⟩) (fun (k,out,wks)=>j<k∧k≤es.length∧out=List.map t3 (tAll es i++aA es i j++tIn es i j k)∧wks=List.map (w3 es) (tAll es i++aA es i j++tIn es i j k)) (fun (k,out,wks)=>es.length-k) (j+1,out,wks) wk ⟨by omega,by omega,by rw[tIn_0,List.append_nil];exact ho,by rw[tIn_0,List.append_nil];exact hwk⟩ ?_
      rintro ⟨k,out,wks⟩ ⟨hjk,hk,ho,hwk⟩
      have hrm:=t_room (es:=es) (i:=i) (j:=j) (k:=k) hl2 (by omega) (by omega) (by omega)
      have hlo:out.length≤20000000:=by rw[ho,List.length_map];simp only[List.length_append] at hrm ⊢;omega
      have hlw:wks.length≤20000000:=by rw[hwk,List.length_map];simp only[List.length_append] at hrm ⊢;omega
      refine jA<|jA<|kx [(62,(vb (decide (((k:Nat):Int)<((es.length:Nat):Int)))))] [] (zM<|zM<|zE (xD mI)<|zE uM<|zZ) ?_
      refine jG rfl (fun h8=>?_) (fun h8=>?_)
      ·replace h8:=uW h8
       have hek:EOkE n (es.getD k (jC.mk 0 0 (jB.mk 0 0 0 0))):=gR heo (k:=k) (by omega)
       obtain ⟨hek1,hek2,hek3,hek4,hek5,_⟩:=id hek
       refine jE<|jA<|jH<|jA<|jA<|kd [(74,(vb (!(jnB (es.getD k (jC.mk 0 0 (jB.mk 0 0 0 0))).fr (es.getD k (jC.mk 0 0 (jB.mk 0 0 0 0))).to_ ((es.getD i (jC.mk 0 0 (jB.mk 0 0 0 0))).fr+(es.getD i (jC.mk 0 0 (jB.mk 0 0 0 0))).to_-((es.getD i (jC.mk 0 0 (jB.mk 0 0 0 0))).fr)) ((es.getD j (jC.mk 0 0 (jB.mk 0 0 0 0))).fr+(es.getD j (jC.mk 0 0 (jB.mk 0 0 0 0))).to_-((es.getD i (jC.mk 0 0 (jB.mk 0 0 0 0))).fr))))))] [] mo (wM<|wM<|wE (gV mI k (jC.mk 0 0 (jB.mk 0 0 0 0)))<|wE (oCa cX)<|wR (kY cX)<|wM<|wE (kE (l_other (es.getD i (jC.mk 0 0 (jB.mk 0 0 0 0))) ((es.getD i (jC.mk 0 0 (jB.mk 0 0 0 0))).fr) (by omega) (by omega) (by omega)))<|wM<|wE (kE (l_joins (es.getD k (jC.mk 0 0 (jB.mk 0 0 0 0))) ((es.getD i (jC.mk 0 0 (jB.mk 0 0 0 0))).fr+(es.getD i (jC.mk 0 0 (jB.mk 0 0 0 0))).to_-((es.getD i (jC.mk 0 0 (jB.mk 0 0 0 0))).fr)) ((es.getD j (jC.mk 0 0 (jB.mk 0 0 0 0))).fr+(es.getD j (jC.mk 0 0 (jB.mk 0 0 0 0))).to_-((es.getD i (jC.mk 0 0 (jB.mk 0 0 0 0))).fr))))<|wE oNt<|wZ) ?_
       refine jG rfl (fun h9=>?_) (fun h9=>?_)
       ·refine jW<|kx [(10,(jT (k+1)))] [] (zM<|zE (qS (k+1))<|zM<|zZ) ?_
        exact ⟨(k+1,out,wks),wk,⟨by omega,by omega,by rw[tIn_n ((trC (k:=k) h3 h4 (bn_f h7)).1.trans (bn_t h9))];exact ho,by rw[tIn_n ((trC (k:=k) h3 h4 (bn_f h7)).1.trans (bn_t h9))];exact hwk⟩,(by first|omega|(dsimp only;omega))⟩
       ·refine jE<|jA<|kf [(2,(.own 0 62 3 ((out++[(A3.mk ((i:Nat):Int) ((j:Nat):Int) ((k:Nat):Int))]).length)))] [(0,some (vX kT (out++[(A3.mk ((i:Nat):Int) ((j:Nat):Int) ((k:Nat):Int))])))] (zM<|zM<|zM<|zM<|zE (oBf ar62 ze62 zo62)<|zE (oBs el56 ze62 zo62)<|zAS kT out [(A3.mk ((i:Nat):Int) ((j:Nat):Int) ((k:Nat):Int))] rfl el56 ze62 by62<|zM<|zF) ?_
        refine jA<|kx [(11,(jT j)),(12,(jT k))] [] (zM<|zM<|zM<|zM<|zZ) ?_
        refine jA<|jA<|kx [(87,(vb true))] [] (zM<|zE (kV yH)<|zR (kP qF)<|zE (xR true gX (by exact beq_self_eq_true _))<|zZ) ?_
        refine qI ?_
        refine kx [(11,(jT k)),(12,(jT j))] [] (zM<|zM<|zM<|zM<|zZ) ?_
        refine kf [(3,(.own 1 62 3 ((wks++[(A3.mk ((i:Nat):Int) (alI (es.getD k (jC.mk 0 0 (jB.mk 0 0 0 0))).fr ((es.getD i (jC.mk 0 0 (jB.mk 0 0 0 0))).to_) ((k:Nat):Int)) (alI (es.getD j (jC.mk 0 0 (jB.mk 0 0 0 0))).fr ((es.getD j (jC.mk 0 0 (jB.mk 0 0 0 0))).fr+(es.getD j (jC.mk 0 0 (jB.mk 0 0 0 0))).to_-((es.getD i (jC.mk 0 0 (jB.mk 0 0 0 0))).fr)) ((j:Nat):Int)))]).length)))] [(1,some (vX kT (wks++[(A3.mk ((i:Nat):Int) (alI (es.getD k (jC.mk 0 0 (jB.mk 0 0 0 0))).fr ((es.getD i (jC.mk 0 0 (jB.mk 0 0 0 0))).to_) ((k:Nat):Int)) (alI (es.getD j (jC.mk 0 0 (jB.mk 0 0 0 0))).fr ((es.getD j (jC.mk 0 0 (jB.mk 0 0 0 0))).fr+(es.getD j (jC.mk 0 0 (jB.mk 0 0 0 0))).to_-((es.getD i (jC.mk 0 0 (jB.mk 0 0 0 0))).fr)) ((j:Nat):Int)))])))] (zM<|zM<|zM<|zM<|zE (kV yQ)<|zR (kP qF)<|zE (kE (l_along es k ((es.getD i (jC.mk 0 0 (jB.mk 0 0 0 0))).to_) (by omega) (by omega)))<|zM<|zM<|zM<|zE (kE (l_along es j ((es.getD j (jC.mk 0 0 (jB.mk 0 0 0 0))).fr+(es.getD j (jC.mk 0 0 (jB.mk 0 0 0 0))).to_-((es.getD i (jC.mk 0 0 (jB.mk 0 0 0 0))).fr)) (by omega) (by omega)))<|zE (oBf ar62 ze62 zo62)<|zE (oBs el56 ze62 zo62)<|zAS kT wks [(A3.mk ((i:Nat):Int) (alI (es.getD k (jC.mk 0 0 (jB.mk 0 0 0 0))).fr ((es.getD i (jC.mk 0 0 (jB.mk 0 0 0 0))).to_) ((k:Nat):Int)) (alI (es.getD j (jC.mk 0 0 (jB.mk 0 0 0 0))).fr ((es.getD j (jC.mk 0 0 (jB.mk 0 0 0 0))).fr+(es.getD j (jC.mk 0 0 (jB.mk 0 0 0 0))).to_-((es.getD i (jC.mk 0 0 (jB.mk 0 0 0 0))).fr)) ((j:Nat):Int)))] rfl el56 ze62 by62<|zM<|zF) ?_
        refine kx [(10,(jT (k+1)))] [] (zM<|zE (qS (k+1))<|zM<|zZ) ?_
        exact ⟨(k+1,out++[A3.mk ((i:Nat):Int) ((j:Nat):Int) ((k:Nat):Int)],wks++[A3.mk ((i:Nat):Int) (alI (es.getD k (jC.mk 0 0 (jB.mk 0 0 0 0))).fr (es.getD i (jC.mk 0 0 (jB.mk 0 0 0 0))).to_ ((k:Nat):Int)) (alI (es.getD j (jC.mk 0 0 (jB.mk 0 0 0 0))).fr ((es.getD j (jC.mk 0 0 (jB.mk 0 0 0 0))).fr+(es.getD j (jC.mk 0 0 (jB.mk 0 0 0 0))).to_-(es.getD i (jC.mk 0 0 (jB.mk 0 0 0 0))).fr) ((j:Nat):Int))]),wk,⟨by omega,by omega,by rw[tIn_y (by omega) ((trC (k:=k) h3 h4 (bn_f h7)).1.trans (bn_f h9)),← List.append_assoc];exact t_push ho rfl,by rw[tIn_y (by omega) ((trC (k:=k) h3 h4 (bn_f h7)).1.trans (bn_f h9)),← List.append_assoc];refine t_push hwk ?_;unfold w3;rw[(trC (k:=k) h3 h4 (bn_f h7)).2];rfl⟩,(by first|omega|(dsimp only;omega))⟩
      ·replace h8:=uY h8
       refine jW<|kx [(6,(jT (j+1)))] [] (zM<|zE (qS (j+1))<|zM<|zZ) ?_
       exact ⟨(j+1,out,wks),wk,⟨by omega,by omega,by rw[tMid_s (by omega),← List.append_assoc,← show k=es.length by omega];exact ho,by rw[tMid_s (by omega),← List.append_assoc,← show k=es.length by omega];exact hwk⟩,(by first|omega|(dsimp only;omega))⟩
  ·replace h2:=uY h2
   refine jW<|kx [(15,(jT (i+1)))] [] (zE (qS (i+1))<|zM<|zZ) ?_
   exact ⟨(i+1,out,wks),wk,⟨by omega,by rw[tAll_s,← show j=es.length by omega];exact ho,by rw[tAll_s,← show j=es.length by omega];exact hwk⟩,(by first|omega|(dsimp only;omega))⟩
 ·replace h1:=uY h1
  refine jW<|jA<|kX (vV (t:=2) (k:=0) (es:=List.map kT out) rfl rfl (mE _ _ (fun _=>rfl)) (vG _ _ rfl) (eY kT out (fun _=>rfl) rfl)) ?_
  refine kX (vV (t:=3) (k:=1) (es:=List.map kT wks) rfl rfl (mE _ _ (fun _=>rfl)) (vG _ _ rfl) (eY kT wks (fun _=>rfl) rfl)) ?_
  refine kx [(2,(vl 62 3 kT out)),(3,(vl 62 3 kT wks))] [] (zM<|zM<|zM<|zM<|zZ) ?_
  refine jI ⟨_,(.tmp (d:=(.sl 62 3 (List.map kT out))) rfl (.tmp (d:=(.sl 62 3 (List.map kT wks))) rfl .nil)),?_⟩
  rw[ho,hwk,show i=es.length by omega];rfl
theorem cb34:callB Tryz.prog 34=true:=by kernel_rfl
theorem mapB166:mapB Tryz.prog 94=true:=by kernel_rfl
set_option maxHeartbeats 1000000 in
theorem l_tree(n:Nat)(es:List jC)(heo:xI n es)(hn:n≤64)(hl2:es.length≤256):kB Tryz.prog 34 [(.val (.int .i64 ((n:Nat):Int))),(.sl 36 6 (List.map jP es))] (.sl 3 1 (List.map jO (jN n es))):=by
 refine jK Tryz.func34 rfl cb34 rfl ?_
 show qU _ _ _ _ ⟨[(0,(jT n)),(1,(vl 36 6 jP es))],[]⟩
 refine owp_down ?_
 refine uV ?_
 refine vZ ?_
 refine kx [] [] (zE (oNl 3 1)<|zZ) ?_
 refine uV ?_
 refine nY (os_make rfl mapB166 (by kernel_rfl) rfl (fun m _=>?_))
 refine oM (.nil ?_)
 refine cR (xU (wk (l:=[(0,(jT n)),(1,(vl 36 6 jP es)),(5,(.d (.val (.map (some m)))))]) (b:=[]))) ?_
 refine uV ?_
 refine uV ?_
 refine vZ ?_
 refine kx [(15,(jT n)),(16,(jT 0))] [] (zM<|zM<|zZ) ?_
 refine cS ?_
 refine owp_loop (α:=Nat) (fun i=>⟨⟨[(1,(vl 36 6 jP es)),(5,(.d (.val (.map (some m))))),(15,(jT n)),(16,(jT i))],[]⟩,[(m,gO (ini i))]⟩) (fun i=>i≤n) (fun i=>n-i) 0 (xU wk) (Nat.zero_le _) ?_
 intro i hi
 refine uV ?_
 refine vZ ?_
 refine kx [(17,(vb (decide (((i:Nat):Int)<((n:Nat):Int)))))] [] (zE uM<|zZ) ?_
 refine uV ?_
 refine fM rfl (fun h1=>?_) (fun h1=>?_)
 ·replace h1:=uW h1
  refine owp_skip ?_
  refine uV ?_
  refine cS ?_
  refine uV ?_
  refine vZ ?_
  refine kx [(6,(jT i))] [] (zM<|zM<|zZ) ?_
  refine nY (oM<|oM<|oM<|.cons (o_ins (p:=ini i) (v:=((i:Nat):Int)) rfl mapB166 rfl (by rw[ini_len];rfl) rfl (fun q hq=>by cases hq) (by kernel_rfl) (by kernel_rfl) nh_nil rfl) (.nil ?_))
  refine cR (y:=⟨⟨[(1,(vl 36 6 jP es)),(5,(.d (.val (.map (some m))))),(15,(jT n)),(16,(jT i))],[]⟩,[(m,gO (ini (i+1)))]⟩) (by rw[ini_s];exact xU wk) ?_
  refine vZ ?_
  refine kx [(16,(jT (i+1)))] [] (zE (qS (i+1))<|zM<|zZ) ?_
  exact ⟨i+1,xU wk,by omega,by omega⟩
 ·replace h1:=uY h1
  obtain rfl:i=n:=by omega
  refine owp_exit ?_
  refine uV ?_
  refine vZ ?_
  refine kx [(7,(.own 0 3 1 0))] [(0,some (bm jO []))] (zO 0 3 1<|zZ) ?_
  refine uV ?_
  refine uV ?_
  refine vZ ?_
  refine kx [(23,(vl 36 6 jP es)),(24,(jT es.length)),(25,(jT 0))] [] (zM<|zE (xD mI)<|zM<|zZ) ?_
  refine cS ?_
  refine owp_loop (α:=Nat) (fun k=>⟨⟨[(1,(vl 36 6 jP es)),(5,(.d (.val (.map (some m))))),(7,.own 0 3 1 (yD false i es k).length),(23,(vl 36 6 jP es)),(24,(jT es.length)),(25,(jT k))],[(0,some (bm jO (yD false i es k)))]⟩,[(m,gO (kR false i es k))]⟩) (fun k=>k≤es.length) (fun k=>es.length-k) 0 (xU wk) (Nat.zero_le _) ?_
  intro k hk
  refine uV ?_
  refine vZ ?_
  refine kx [(26,(vb (decide (((k:Nat):Int)<((es.length:Nat):Int)))))] [] (zE uM<|zZ) ?_
  refine uV ?_
  refine fM rfl (fun h2=>?_) (fun h2=>?_)
  ·replace h2:=uW h2
   have hkl:k<es.length:=by omega
   obtain ⟨hx0,hx1,hx2,hx3⟩:=pA_in heo hkl false
   have htl:=tTak_len false i es k
   refine owp_skip ?_
   refine uV ?_
   refine cS ?_
   refine uV ?_
   refine vZ ?_
   refine kx [(8,(jT k)),(9,(.ref 1 0))] [(1,some (bx (jP (es.getD k (jC.mk 0 0 (jB.mk 0 0 0 0))))))] (zM<|zE (gV mI k (jC.mk 0 0 (jB.mk 0 0 0 0)))<|zE (oCa cX)<|zH (uQ 1 ze36 zo36)<|zM<|zT (qA cX)<|zZ) ?_
   refine uV ?_
   refine cR (oimp_hob (t:=5) rfl (.head _) rfl) ?_
   refine vZ ?_
   refine kd [(10,(vi (pA (kR false i es k) (es.getD k (jC.mk 0 0 (jB.mk 0 0 0 0)))))),(11,(vi (pB (kR false i es k) (es.getD k (jC.mk 0 0 (jB.mk 0 0 0 0))))))] [] mo (wM<|wE (kV yH)<|wR (kP qF)<|wE (e_lookZ (by exact rfl) mapB166 (by exact rfl) (by exact rfl) hx0 hx1)<|wM<|wE (kV yQ)<|wR (kP qF)<|wE (e_lookZ (by exact rfl) mapB166 (by exact rfl) (by exact rfl) hx2 hx3)<|wM<|wM<|wZ) ?_
   refine cR (xU ((simp_hob (t:=5) rfl).trans (wk (l:=[(1,(vl 36 6 jP es)),(5,(.d (.val (.map (some m))))),(7,.own 0 3 1 (yD false i es k).length),(8,(jT k)),(10,(vi (pA (kR false i es k) (es.getD k (jC.mk 0 0 (jB.mk 0 0 0 0)))))),(11,(vi (pB (kR false i es k) (es.getD k (jC.mk 0 0 (jB.mk 0 0 0 0)))))),(23,(vl 36 6 jP es)),(24,(jT es.length)),(25,(jT k))]) (b:=[(0,some (bm jO (yD false i es k)))])))) ?_
   refine uV ?_
   refine uV ?_
   refine vZ ?_
   refine kx [(40,(vb ((pA (kR false i es k) (es.getD k (jC.mk 0 0 (jB.mk 0 0 0 0)))) == (pB (kR false i es k) (es.getD k (jC.mk 0 0 (jB.mk 0 0 0 0)))))))] [] (zM<|zM<|zE gX<|zZ) ?_
   refine fM rfl (fun h3=>?_) (fun h3=>?_)
   ·replace h3:=eq_of_beq h3
    obtain ⟨q1,q2⟩:=mA (g:=false) (n:=i) (es:=es) (k:=k) h3
    refine owp_exit ?_
    refine vZ ?_
    refine kx [(25,(jT (k+1)))] [] (zE (qS (k+1))<|zM<|zZ) ?_
    refine ⟨k+1,?_,by omega,by omega⟩
    show OImp _ ⟨⟨[(1,(vl 36 6 jP es)),(5,(.d (.val (.map (some m))))),(7,.own 0 3 1 (yD false i es (k+1)).length),(23,(vl 36 6 jP es)),(24,(jT es.length)),(25,(jT (k+1)))],[(0,some (bm jO (yD false i es (k+1))))]⟩,[(m,gO (kR false i es (k+1)))]⟩
    rw[q1,q2];exact xU wk
   ·replace h3:=ne_of_beq_false h3
    obtain ⟨q1,q2⟩:=mJ (g:=false) (n:=i) (es:=es) (k:=k) h3
    refine owp_skip ?_
    refine uV ?_
    refine vZ ?_
    refine kf [(7,.own 0 3 1 (yD false i es k++[((k:Nat):Int)]).length)] [(0,some (bm jO (yD false i es k++[((k:Nat):Int)])))] (zM<|zM<|zE (oBs vF ze3 zo3)<|zA jO (yD false i es k) [((k:Nat):Int)] rfl vF ze3 by3 (hbig:=by exact (by simp only[List.length_cons,List.length_nil,maxLen];omega)) (hbig':=by exact (by simp only[List.length_cons,List.length_nil];omega))<|zM<|zF) ?_
    refine uV ?_
    refine cR (xU (wk (l:=[(1,(vl 36 6 jP es)),(5,(.d (.val (.map (some m))))),(7,.own 0 3 1 (yD false i es k++[((k:Nat):Int)]).length),(8,(jT k)),(10,(vi (pA (kR false i es k) (es.getD k (jC.mk 0 0 (jB.mk 0 0 0 0)))))),(11,(vi (pB (kR false i es k) (es.getD k (jC.mk 0 0 (jB.mk 0 0 0 0)))))),(23,(vl 36 6 jP es)),(24,(jT es.length)),(25,(jT k))]) (b:=[(0,some (bm jO (yD false i es k++[((k:Nat):Int)])))]))) ?_
    refine nY (oM<|os_range rfl mapB166 rfl (.head _) (by kernel_rfl) rfl (fun r hr=>.nil ?_))
    have hrm:r≠m:=fun e=>hr _ (.head _) e.symm
    refine cR (xU (wk (l:=[(1,(vl 36 6 jP es)),(5,(.d (.val (.map (some m))))),(7,.own 0 3 1 (yD false i es k++[((k:Nat):Int)]).length),(8,(jT k)),(10,(vi (pA (kR false i es k) (es.getD k (jC.mk 0 0 (jB.mk 0 0 0 0)))))),(11,(vi (pB (kR false i es k) (es.getD k (jC.mk 0 0 (jB.mk 0 0 0 0)))))),(23,(vl 36 6 jP es)),(24,(jT es.length)),(25,(jT k)),(46,(.d (.val (.pointer (some ⟨r,0,none⟩)))))]) (b:=[(0,some (bm jO (yD false i es k++[((k:Nat):Int)])))]))) ?_
    refine cS ?_
    refine owp_loop (α:=List Nat × List Int) (fun (s,q)=>⟨⟨[(1,(vl 36 6 jP es)),(5,(.d (.val (.map (some m))))),(7,.own 0 3 1 (yD false i es k++[((k:Nat):Int)]).length),(8,(jT k)),(10,(vi (pA (kR false i es k) (es.getD k (jC.mk 0 0 (jB.mk 0 0 0 0)))))),(11,(vi (pB (kR false i es k) (es.getD k (jC.mk 0 0 (jB.mk 0 0 0 0)))))),(23,(vl 36 6 jP es)),(24,(jT es.length)),(25,(jT k)),(46,(.d (.val (.pointer (some ⟨r,0,none⟩)))))],[(0,some (bm jO (yD false i es k++[((k:Nat):Int)])))]⟩,[(r,itO m (kR false i es k).length s),(m,gO q)]⟩) (fun (s,q)=>RlUp (pA (kR false i es k) (es.getD k (jC.mk 0 0 (jB.mk 0 0 0 0)))) (pB (kR false i es k) (es.getD k (jC.mk 0 0 (jB.mk 0 0 0 0)))) (kR false i es k) s q) (fun (s,q)=>unseen i s) ([],kR false i es k) (OImp.refl _) (RlUp_0 _ _ _) ?_
    rintro ⟨s,q⟩ hq
    have hql:(kR false i es k).length=q.length:=hq.1.symm
    have hpl:=yZ false i es k
    refine uV ?_
    refine nY (os_next hql rfl rfl (.head _) (fun x hx=>by rcases List.mem_cons.1 hx with rfl | hx;exact hrm.symm;cases hx) (by kernel_rfl) (by kernel_rfl) (nh_cons (nh_map _ _) nh_nil) rfl (fun c hc=>?_))
    cases c with
    |none=>
     refine oE qQ (.nil ?_)
     refine uV ?_
     refine fM (b:=false) (by kernel_rfl) (fun h=>by cases h) (fun _=>?_)
     refine owp_exit ?_
     have hend:=RlUp_end hq hc
     refine cR (y:=⟨⟨[(1,(vl 36 6 jP es)),(5,(.d (.val (.map (some m))))),(7,.own 0 3 1 (yD false i es (k+1)).length),(23,(vl 36 6 jP es)),(24,(jT es.length)),(25,(jT k))],[(0,some (bm jO (yD false i es (k+1))))]⟩,[(m,gO (kR false i es (k+1)))]⟩) ?_ ?_
     ·rw[show kR false i es (k+1)=q from q1.trans hend.symm,q2]
      exact (oimp_drop (os':=[(m,gO q)]) (fun x hx=>by rcases List.mem_cons.1 hx with rfl | hx;exact .tail _ (.head _);cases hx)).trans (xU wk)
     refine vZ ?_
     refine kx [(25,(jT (k+1)))] [] (zE (qS (k+1))<|zM<|zZ) ?_
     exact ⟨k+1,xU wk,by omega,by omega⟩
    |some j=>
     obtain ⟨hj1,hj2⟩:=hc
     refine oE qQ (.nil ?_)
     refine uV ?_
     refine fM (b:=true) (by kernel_rfl) (fun _=>?_) (fun h=>by cases h)
     refine owp_skip ?_
     refine cS ?_
     refine uV ?_
     refine nY (.cons (o_entry hql (k:=j) (seen:=s) rfl rfl (.tail _ (.head _)) (.head _) hj1 (by kernel_rfl) rfl) (oE qQ<|oE qQ<|oM<|oM<|.nil ?_))
     refine cR (xU (wk (l:=[(1,(vl 36 6 jP es)),(5,(.d (.val (.map (some m))))),(7,.own 0 3 1 (yD false i es k++[((k:Nat):Int)]).length),(8,(jT k)),(10,(vi (pA (kR false i es k) (es.getD k (jC.mk 0 0 (jB.mk 0 0 0 0)))))),(11,(vi (pB (kR false i es k) (es.getD k (jC.mk 0 0 (jB.mk 0 0 0 0)))))),(23,(vl 36 6 jP es)),(24,(jT es.length)),(25,(jT k)),(12,(jT j)),(13,(vi (q.getD j 0))),(46,(.d (.val (.pointer (some ⟨r,0,none⟩)))))]) (b:=[(0,some (bm jO (yD false i es k++[((k:Nat):Int)])))]))) ?_
     refine uV ?_
     refine vZ ?_
     refine kx [(54,(vb ((q.getD j 0) == (pB (kR false i es k) (es.getD k (jC.mk 0 0 (jB.mk 0 0 0 0)))))))] [] (zM<|zM<|zE gX<|zZ) ?_
     refine fM rfl (fun h4=>?_) (fun h4=>?_)
     ·replace h4:=eq_of_beq h4
      refine cR (y:=⟨_,[(m,gO q),(r,itO m (kR false i es k).length (s++[j]))]⟩) (oimp_drop (fun x hx=>by rcases List.mem_cons.1 hx with rfl | hx;exact .tail _ (.head _);rcases List.mem_cons.1 hx with rfl | hx;exact .head _;cases hx)) ?_
      refine nY (oM<|oM<|oM<|.cons (o_set (p:=q) (k:=j) (v:=(pA (kR false i es k) (es.getD k (jC.mk 0 0 (jB.mk 0 0 0 0))))) rfl mapB166 rfl rfl rfl hj1 (fun x hx=>by rcases List.mem_cons.1 hx with rfl | hx;exact hrm;cases hx) (by kernel_rfl) (by kernel_rfl) (nh_cons (nh_map _ _) nh_nil) rfl) (.nil ?_))
      refine ⟨(s++[j],q.set j (pA (kR false i es k) (es.getD k (jC.mk 0 0 (jB.mk 0 0 0 0))))),?_,RlUp_y hq (by omega) hj2 h4,unseen_lt (by omega) hj2⟩
      exact (oimp_drop (os':=[(r,itO m (kR false i es k).length (s++[j])),(m,gO (q.set j (pA (kR false i es k) (es.getD k (jC.mk 0 0 (jB.mk 0 0 0 0))))))]) (fun x hx=>by rcases List.mem_cons.1 hx with rfl | hx;exact .tail _ (.head _);rcases List.mem_cons.1 hx with rfl | hx;exact .head _;cases hx)).trans (xU wk)
     ·replace h4:=ne_of_beq_false h4
      refine owp_skip ?_
      exact ⟨(s++[j],q),xU wk,RlUp_n hq (by omega) hj2 h4,unseen_lt (by omega) hj2⟩
  ·replace h2:=uY h2
   obtain rfl:k=es.length:=by omega
   refine owp_exit ?_
   refine vZ ?_
   refine jA<|kx [(4,(.own 0 3 1 (yD false i es es.length).length))] [] (zM<|zM<|zZ) ?_
   refine kX (vV (t:=4) (k:=0) (es:=List.map jO (yD false i es es.length)) rfl rfl (uU _ _ (fun _=>rfl)) (vG _ _ rfl) (vS _ _ (fun _=>rfl) rfl)) ?_
   refine jI ⟨_,(.tmp (d:=(.sl 3 1 (List.map jO (yD false i es es.length)))) rfl .nil),?_⟩
   rw[← tTak_eq heo (Nat.le_refl _)];rfl
end Go.Proofs.YteimogfidbkpnabGreat
namespace Go.Fid
section
variable {P:Program} {S:SL} {B:BS} {o:Oper} {x y:Operand} {k:Nat} {T:TypeId}
theorem dA{α:Type}{F:α→kF}{s:Nat}(hF:∀ g,(F g).cells.length=s)(L:List α):(flat (L.map F)).length=L.length*s:=by
 rw[uJ (s:=s) (fun e he=>by obtain ⟨g,_,rfl⟩:=List.mem_map.1 he;exact hF g),List.length_map]
theorem bxs_cell{α:Type}{F:α→kF}{s:Nat}(hF:∀ g,(F g).cells.length=s){L:List α}{j r:Nat}(d:α)(hj:j<L.length)(hr:r<s):(flat (L.map F))[j*s+r]?=(F (L.getD j d)).cells[r]? :=
 flat_get (s:=s) (e:=F (L.getD j d)) (fun e he=>by obtain ⟨g,_,rfl⟩:=List.mem_map.1 he;exact hF g) (by simp [List.getD_eq_getElem?_getD,List.getElem?_eq_getElem hj]) hr
theorem fC{j n s:Nat}(h:j<n):j*s+s≤n*s:=by
 have:=Nat.mul_le_mul_right s (show j+1≤n from h)
 rwa [Nat.add_mul,Nat.one_mul] at this
theorem bxs_cut{α:Type}{F:α→kF}{s:Nat}(hF:∀ g,(F g).cells.length=s){L:List α}{j:Nat}(d:α)(hj:j<L.length):((vX F L).drop (j*s)).take s=(F (L.getD j d)).cells.map SV.d:=by
 apply List.ext_getElem?
 intro r
 unfold vX
 rw[List.getElem?_take]
 split
 ·rename_i hr
  rw[List.getElem?_drop,List.getElem?_map,bxs_cell hF d hj hr,List.getElem?_map]
 ·rename_i hr
  rw[List.getElem?_eq_none (by rw[List.length_map,hF];omega)]
theorem oLA{α:Type}{F:α→kF}{L:List α}{s:Nat}(hs:kS P T=some (true,s))(j:Nat)(d:α)(ho:o.op=.load T x:=by exact rfl)(hx:ev (jY S) x=.ref k (j*s):=by exact rfl)(hb:kD B k=some (vX F L):=by exact rfl)(hF:∀ g,(F g).cells.length=s:=by intro g;kernel_rfl)(hG:∀ g,xN true ((F g).cells.map SV.d)=.d (F g):=by intro g;kernel_rfl)(h1:j<L.length:=by omega):ROk P o S B k (.d (F (L.getD j d))):=by
 have h:=fS (P:=P) (cs:=vX F L) ho hx hs (fun h=>by cases h) (by unfold vX;rw[List.length_map,dA hF];exact fC h1)
 rw[bxs_cut hF d h1,hG] at h
 exact ⟨_,h,hb⟩
theorem bxs_set{α:Type}{F:α→kF}{s:Nat}(hF:∀ g,(F g).cells.length=s){L:List α}{j:Nat}(v:α)(hj:j<L.length):patch (vX F L) (j*s) ((F v).cells.map SV.d)=vX F (L.set j v):=by
 have hl:=dA hF L
 have hl2:=dA hF (L.set j v)
 rw[List.length_set] at hl2
 have hrm:=fC (s:=s) hj
 apply List.ext_getElem?
 intro i
 have hb1:(vX F L).length=L.length*s:=by unfold vX;rw[List.length_map,hl]
 have hb2:(vX F (L.set j v)).length=L.length*s:=by unfold vX;rw[List.length_map,hl2]
 rw[zU (by rw[List.length_map,hF,hb1];exact hrm)]
 by_cases hi:i<L.length*s
 ·have hs0:0<s:=by
   rcases Nat.eq_zero_or_pos s with h | h
   ·subst h;simp at hi
   ·exact h
  have hq:i / s<L.length:=Nat.div_lt_of_lt_mul (by rw[Nat.mul_comm];exact hi)
  have hr:i % s<s:=Nat.mod_lt _ hs0
  have he:i=(i / s)*s+i % s:=by rw[Nat.mul_comm];exact (Nat.div_add_mod i s).symm
  have e1:(vX F (L.set j v))[i]?=((F ((L.set j v).getD (i / s) v)).cells[i % s]?).map SV.d:=by
   unfold vX;rw[List.getElem?_map];conv=>lhs;rw[he]
   rw[bxs_cell hF v (by rw[List.length_set];exact hq) hr]
  have e2:(vX F L)[i]?=((F (L.getD (i / s) v)).cells[i % s]?).map SV.d:=by
   unfold vX;rw[List.getElem?_map];conv=>lhs;rw[he]
   rw[bxs_cell hF v hq hr]
  rw[e1,e2,List.length_map,hF]
  by_cases hc:i / s=j
  ·have h3:j*s≤i∧i<j*s+s:=by subst hc;omega
   rw[if_neg (by omega),if_pos h3.2]
   have h4:(L.set j v).getD (i / s) v=v:=by rw[hc,List.getD_eq_getElem?_getD,List.getElem?_set_self hj];rfl
   rw[h4,List.getElem?_map,show i-j*s=i % s by subst hc;omega]
  ·have h3:¬ (j*s≤i∧i<j*s+s):=fun h=>hc (by
    have a1:j≤i / s:=(Nat.le_div_iff_mul_le hs0).2 h.1
    have a2:i / s<j+1:=Nat.div_lt_of_lt_mul (by rw[Nat.mul_comm,Nat.add_mul,Nat.one_mul];exact h.2)
    omega)
   have h4:(L.set j v).getD (i / s) v=L.getD (i / s) v:=by rw[List.getD_eq_getElem?_getD,List.getElem?_set_ne (fun e=>hc e.symm),← List.getD_eq_getElem?_getD]
   rw[h4]
   split
   ·rfl
   ·rw[if_neg (fun h=>h3 ⟨by omega,h⟩)]
 ·have n1:(vX F (L.set j v))[i]?=none:=List.getElem?_eq_none (by rw[hb2];omega)
  have n2:(vX F L)[i]?=none:=List.getElem?_eq_none (by rw[hb1];omega)
  rw[n1,n2,List.length_map,hF,if_neg (by omega),if_neg (by omega)]
theorem oSA{α:Type}{F:α→kF}{L:List α}{s:Nat}(hs:kS P T=some (true,s))(j:Nat)(v:α)(ho:o.op=.store T x y:=by exact rfl)(hx:ev (jY S) x=.ref k (j*s):=by exact rfl)(hb:kD B k=some (vX F L):=by exact rfl)(hy:ev (jY S) y=.d (F v):=by kernel_rfl)(h2:(F v).ok1=true:=by kernel_rfl)(hF:∀ g,(F g).cells.length=s:=by intro g;kernel_rfl)(h1:j<L.length:=by omega):TK P o S B k (vX F (L.set j v)):=by
 have h:=t_store (P:=P) (old:=vX F L) ho hx hy hs (.inl ⟨F v,rfl,h2,rfl⟩) (by rw[List.length_map,hF]) (by unfold vX;rw[List.length_map,dA hF];exact fC h1)
 rw[bxs_set hF v h1] at h
 exact ⟨_,h,hb⟩
theorem flat_repl{α:Type}(F:α→kF)(z:α){zd:List kF}(h:zd=(F z).cells):∀ M,(List.replicate M zd).flatten.map SV.d=vX F (List.replicate M z)
 |0=>rfl
 |M+1=>by
  have ih:=flat_repl F z h M
  unfold vX at ih ⊢
  rw[List.replicate_succ,List.flatten_cons,List.map_append,ih,List.replicate_succ,List.map_cons,nX,List.map_append,h]
theorem oMkS{S:Nat→SV}{α:Type}{E:TypeId}{s bytes:Nat}{kl kc:IntKind}{m n:Int}{zv:List Value}{zd:List kF}(b:Nat)(F:α→kF)(z:α)(N M:Nat)(hT:uK P T=some (E,s))(hz:uZ P E=some zv)(hzd:mW zv zd)(hby:zC P E=some bytes)(ho:o.op=.makeSlice T x y:=by exact rfl)
  (hl:ev S x=.d (.val (.int kl m)):=by exact rfl) (hc:ev S y=.d (.val (.int kc n)):=by exact rfl) (hlN:m=((N:Nat):Int):=by omega) (hcM:n=((M:Nat):Int):=by omega) (hzl:Nat.beq zd.length s=true:=by kernel_rfl) (hnm:N≤M:=by omega) (hb:bytes*M≤281474976710656:=by omega) (hm:M≤maxLen:=by unfold maxLen;omega) (hzF:zd=(F z).cells:=by kernel_rfl) :
  NOk P o S b (vX F (List.replicate M z)) (.own b E s N):=by
 subst hlN;subst hcM
 exact n_mks b ho hT hz hzd (Nat.eq_of_beq_eq_true hzl) hby hl hc hnm hb hm (flat_repl F z hzF M)
theorem oNs{S:Nat→SV}{T T':TypeId}{c:Nat}(hT:eqsB P T=some c)(k:IntKind)(ms ns:List Int)(ho:o.op=.binOp .neq T x y T':=by exact rfl)(hx:ev S x=.d (.agg (ms.map fun m=>.val (.int k m))):=by exact rfl)(hy:ev S y=.d (.agg (ns.map fun m=>.val (.int k m))):=by exact rfl)(h1:ms.length=c:=by exact rfl)(h2:ns.length=c:=by exact rfl):qW P o S [] (.d (.val (.bool (!(decide (ms=ns)))))) :=
 qW.same fun a w D β hop _=>by
  have hx':=hop x (by simp [ho,Op.operands])
  have hy':=hop y (by simp [ho,Op.operands])
  rw[hx] at hx'
  rw[hy] at hy'
  have ex:=fK hx'
  have ey:=fK hy'
  obtain ⟨g1,g2⟩:=run_eqS hT k ms ns h1 h2 w
  refine ⟨.bool (!(decide (ms=ns))),?_,.val _⟩
  simp [execOp,ho,ex,ey,eqGuard,g2,binOp,g1]
end
end Go.Fid
