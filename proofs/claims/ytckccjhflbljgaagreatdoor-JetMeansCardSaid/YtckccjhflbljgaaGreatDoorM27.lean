/- Part 27 of a proof: rules, plain facts, and functions walked. -/
import Derived.Test.YtckccjhflbljgaaGreatDoorM26
import Derived.Test.YtckccjhflbljgaaGreatDoorM19
import Derived.Test.YtckccjhflbljgaaGreatDoorM17
import Derived.Test.YtckccjhflbljgaaGreatDoorM20
import Derived.Test.YtckccjhflbljgaaGreatDoorM18
import Derived.Test.YtckccjhflbljgaaGreatDoorM21
set_option linter.all false
set_option maxRecDepth 4000
namespace Go.Proofs.YtckccjhflbljgaaGreatDoor
open Go.Fid
abbrev xL (n k:Nat) (L:List JV) (b:Bool):List SV:=[(jT n),(jT 1),(vi (-1)),(.own k 46 10 ((List.map qK L).length)),(vb b)]
abbrev xT (L:List JV):List SV:=qS jI (List.map qK L)
abbrev mcA (n:Nat) (x:jQ) (b:Bool):jQ:=.agg [(.val (.int .i64 ((n:Nat):Int))),(.val (.int .i64 ((1:Nat):Int))),(.val (.int .i64 (-1))),x,(.val (.bool b))]
theorem gl_ite{c:Prop}[Decidable c]{a b:R2}{n:Nat}(ha:GL n a)(hb:GL n b):GL n (if c then a else b):=by
 split
 ·exact ha
 ·exact hb
theorem j_whole(z:Int)(hz1:-9223372036854775808<=z)(hz2:z<=9223372036854775807):jS Tryz.prog 120 [(.val (.int .i64 (z)))] (jG (kK (gw z))):=by
 refine uW Tryz.func120 ?_
 refine jB<|kx [(2,(.ref 0 0))] [(0,some (bx (jG (jM.mk kO kO))))] (zN (uJ 0 uK uO)<|zZ) ?_
 refine jB<|kx [] [(0,some (bx (jG (jM.mk (jN ((z:Int):Rat)) (jN ((z:Int):Rat))))))] (zM<|zE (kB (aI z (by omega) (by omega)))<|zM<|zE (kB (aI z (by omega) (by omega)))<|zE (bH pl42 uK uO)<|zT (qM kF)<|zZ) ?_
 refine jD ⟨_,(kS (cs:=(bx (jG (jM.mk (jN ((z:Int):Rat)) (jN ((z:Int):Rat)))))) (d:=(jG (jM.mk (jN ((z:Int):Rat)) (jN ((z:Int):Rat))))) rfl rfl kF rfl rfl .nil),?_⟩
 rfl
theorem j_add(a:R2)(ha:GL 67108864 a)(b:R2)(hb:GL 67108864 b):jS Tryz.prog 131 [(jG (kK a)),(jG (kK b))] (jG (kK (yI a b))):=by
 refine uW Tryz.func131 ?_
 refine jB<|kx [(2,(.ref 0 0)),(3,(.ref 1 0)),(4,(.ref 2 0))] [(0,some (bx (jG (kK a)))),(1,some (bx (jG (kK b)))),(2,some (bx (jG (jM.mk kO kO))))] (zN (vX 0)<|zN (vX 1)<|zN (uJ 2 uK uO)<|zZ) ?_
 refine jB<|kx [(5,(.ref 3 0))] [(3,some (bx (jG (jM.mk (jN (a.1+b.1)) (jN (a.2+b.2))))))] (zR (kR kF)<|zR (kR kF)<|zE (kB (i_add a.1 a.2 b.1 b.2 (qY ha.1) (qY ha.2.1) (qY hb.1) (qY hb.2.1) ha.2.2 hb.2.2))<|zM<|zE zJ<|zE zJ<|zN (uJ 3 uK uO)<|zT (qM kF)<|zM<|zZ) ?_
 refine jB<|kx [] [(2,some (bx (jG (jM.mk (jN (a.1+b.1)) (jN (a.2+b.2))))))] (zR (kR kF)<|zT (qM kF)<|zZ) ?_
 refine jD ⟨_,(kS (cs:=(bx (jG (jM.mk (jN (a.1+b.1)) (jN (a.2+b.2)))))) (d:=(jG (jM.mk (jN (a.1+b.1)) (jN (a.2+b.2))))) rfl rfl kF rfl rfl .nil),?_⟩
 rfl
theorem j_sub(a:R2)(ha:GL 67108864 a)(b:R2)(hb:GL 67108864 b):jS Tryz.prog 132 [(jG (kK a)),(jG (kK b))] (jG (kK (qZ a b))):=by
 refine uW Tryz.func132 ?_
 refine jB<|kx [(2,(.ref 0 0)),(3,(.ref 1 0)),(4,(.ref 2 0))] [(0,some (bx (jG (kK a)))),(1,some (bx (jG (kK b)))),(2,some (bx (jG (jM.mk kO kO))))] (zN (vX 0)<|zN (vX 1)<|zN (uJ 2 uK uO)<|zZ) ?_
 refine jB<|kx [(5,(.ref 3 0))] [(3,some (bx (jG (jM.mk (jN (a.1-b.2)) (jN (a.2-b.1))))))] (zR (kR kF)<|zR (kR kF)<|zE (kB (i_sub a.1 a.2 b.1 b.2 (qY ha.1) (qY ha.2.1) (qY hb.1) (qY hb.2.1) ha.2.2 hb.2.2))<|zM<|zE zJ<|zE zJ<|zN (uJ 3 uK uO)<|zT (qM kF)<|zM<|zZ) ?_
 refine jB<|kx [] [(2,some (bx (jG (jM.mk (jN (a.1-b.2)) (jN (a.2-b.1))))))] (zR (kR kF)<|zT (qM kF)<|zZ) ?_
 refine jD ⟨_,(kS (cs:=(bx (jG (jM.mk (jN (a.1-b.2)) (jN (a.2-b.1)))))) (d:=(jG (jM.mk (jN (a.1-b.2)) (jN (a.2-b.1))))) rfl rfl kF rfl rfl .nil),?_⟩
 rfl
theorem j_mul(a:R2)(ha:GL 67108864 a)(b:R2)(hb:GL 67108864 b):jS Tryz.prog 135 [(jG (kK a)),(jG (kK b))] (jG (kK (uR a b))):=by
 let y1:=(bx (jG (jM.mk (jN (nQ (a.1*b.1) [(a.1*b.2),(a.2*b.1),(a.2*b.2)])) (jN (mR (a.1*b.1) [(a.1*b.2),(a.2*b.1),(a.2*b.2)])))))
 refine uW Tryz.func135 ?_
 refine jB<|kx [(2,(.ref 0 0)),(3,(.ref 1 0)),(4,(.ref 2 0))] [(0,some (bx (jG (kK a)))),(1,some (bx (jG (kK b)))),(2,some (bx (jG (jM.mk kO kO))))] (zN (vX 0)<|zN (vX 1)<|zN (uJ 2 uK uO)<|zZ) ?_
 refine jB<|kx [(5,(.ref 3 0))] [(3,some y1)] (zR (kR kF)<|zR (kR kF)<|zE (kB (i_mul a.1 a.2 b.1 b.2 (qY ha.1) (qY ha.2.1) (qY hb.1) (qY hb.2.1) ha.2.2 hb.2.2))<|zM<|zE zJ<|zE zJ<|zN (uJ 3 uK uO)<|zT (qM kF)<|zM<|zZ) ?_
 refine jB<|kx [] [(2,some y1)] (zR (kR kF)<|zT (qM kF)<|zZ) ?_
 refine jD ⟨_,(kS (cs:=y1) (d:=(jG (jM.mk (jN (nQ (a.1*b.1) [(a.1*b.2),(a.2*b.1),(a.2*b.2)])) (jN (mR (a.1*b.1) [(a.1*b.2),(a.2*b.1),(a.2*b.2)]))))) rfl rfl kF rfl rfl .nil),?_⟩
 rfl
theorem j_sq(a:R2)(ha:GL 67108864 a):jS Tryz.prog 139 [(jG (kK a))] (jG (kK (gsq a))):=by
 refine uW Tryz.func139 ?_
 refine jB<|kx [(1,(.ref 0 0)),(2,(.ref 1 0))] [(0,some (bx (jG (kK a)))),(1,some (bx (jG (jM.mk kO kO))))] (zN (vX 0)<|zN (uJ 1 uK uO)<|zZ) ?_
 refine jB<|kx [(3,(.ref 2 0))] [(2,some (bx (jG (jM.mk (jN (sqL a.1 a.2)) (jN (sqH a.1 a.2))))))] (zR (kR kF)<|zE (kB (i_square a.1 a.2 (qY ha.1) (qY ha.2.1) ha.2.2))<|zM<|zE zJ<|zE zJ<|zN (uJ 2 uK uO)<|zT (qM kF)<|zM<|zZ) ?_
 refine jB<|kx [] [(1,some (bx (jG (jM.mk (jN (sqL a.1 a.2)) (jN (sqH a.1 a.2))))))] (zR (kR kF)<|zT (qM kF)<|zZ) ?_
 refine jD ⟨_,(kS (cs:=(bx (jG (jM.mk (jN (sqL a.1 a.2)) (jN (sqH a.1 a.2)))))) (d:=(jG (jM.mk (jN (sqL a.1 a.2)) (jN (sqH a.1 a.2))))) rfl rfl kF rfl rfl .nil),?_⟩
 rfl
theorem j_kids(o:Int):jS Tryz.prog 111 [(.val (.int .i64 (o)))] (.val (.int .i64 ((uA o)))):=by
 refine uW Tryz.func111 ?_
 refine jB<|kx [] [] (zM<|zZ) ?_
 refine jB<|jB<|kx [(3,(vi o))] [] (zM<|zZ) ?_
 refine jH<|jB<|jB<|kx [(4,(vb (o == 0)))] [] (zE yP<|zM<|zZ) ?_
 refine jF (b:=(o == 0)) rfl (fun h1=>?_) (fun h1=>?_)
 ·replace h1:=eq_of_beq h1
  refine jE<|jF rfl (fun _=>?_) (fun h=>absurd (Eq.trans (Eq.symm (show ((o == 0))=true from beq_iff_eq.2 h1)) h) (by decide))
  refine jB<|kx [(2,(jT 0))] [] (zM<|zZ) ?_
  refine jD ⟨_,(.tmp (d:=(.val (.int .i64 (0)))) rfl .nil),?_⟩
  show jQ.val (.int .i64 _)=_
  unfold uA;simp [*]
 ·replace h1:=ne_of_beq_false h1
  refine kx [(4,(vb (o == 1)))] [] (zE yP<|zM<|zZ) ?_
  refine jF (b:=(o == 1)) rfl (fun h2=>?_) (fun h2=>?_)
  ·replace h2:=eq_of_beq h2
   refine jB<|kx [(2,(jT 0))] [] (zM<|zZ) ?_
   refine jD ⟨_,(.tmp (d:=(.val (.int .i64 (0)))) rfl .nil),?_⟩
   show jQ.val (.int .i64 _)=_
   unfold uA;simp [*]
  ·replace h2:=ne_of_beq_false h2
   refine jB<|jB<|kx [(7,(vb (o == 6)))] [] (zE yP<|zM<|zZ) ?_
   refine jF (b:=(o == 6)) rfl (fun h3=>?_) (fun h3=>?_)
   ·replace h3:=eq_of_beq h3
    refine jE<|jF rfl (fun _=>?_) (fun h=>absurd (Eq.trans (Eq.symm (show ((o == 6))=true from beq_iff_eq.2 h3)) h) (by decide))
    refine jB<|kx [(2,(jT 1))] [] (zM<|zZ) ?_
    refine jD ⟨_,(.tmp (d:=(.val (.int .i64 (1)))) rfl .nil),?_⟩
    show jQ.val (.int .i64 _)=_
    unfold uA;simp [*]
   ·replace h3:=ne_of_beq_false h3
    refine kx [(7,(vb (o == 7)))] [] (zE yP<|zM<|zZ) ?_
    refine jF (b:=(o == 7)) rfl (fun h4=>?_) (fun h4=>?_)
    ·replace h4:=eq_of_beq h4
     refine jB<|kx [(2,(jT 1))] [] (zM<|zZ) ?_
     refine jD ⟨_,(.tmp (d:=(.val (.int .i64 (1)))) rfl .nil),?_⟩
     show jQ.val (.int .i64 _)=_
     unfold uA;simp [*]
    ·replace h4:=ne_of_beq_false h4
     refine jB<|jB<|kx [(10,(vb (o == 2)))] [] (zE yP<|zM<|zZ) ?_
     refine jF (b:=(o == 2)) rfl (fun h5=>?_) (fun h5=>?_)
     ·replace h5:=eq_of_beq h5
      refine jE<|jF rfl (fun _=>?_) (fun h=>absurd (Eq.trans (Eq.symm (show ((o == 2))=true from beq_iff_eq.2 h5)) h) (by decide))
      refine jB<|kx [(2,(jT 2))] [] (zM<|zZ) ?_
      refine jD ⟨_,(.tmp (d:=(.val (.int .i64 (2)))) rfl .nil),?_⟩
      show jQ.val (.int .i64 _)=_
      unfold uA;simp [*]
     ·replace h5:=ne_of_beq_false h5
      refine jB<|kx [(10,(vb (o == 3)))] [] (zE yP<|zM<|zZ) ?_
      refine jF (b:=(o == 3)) rfl (fun h6=>?_) (fun h6=>?_)
      ·replace h6:=eq_of_beq h6
       refine jE<|jF rfl (fun _=>?_) (fun h=>absurd (Eq.trans (Eq.symm (show ((o == 3))=true from beq_iff_eq.2 h6)) h) (by decide))
       refine jB<|kx [(2,(jT 2))] [] (zM<|zZ) ?_
       refine jD ⟨_,(.tmp (d:=(.val (.int .i64 (2)))) rfl .nil),?_⟩
       show jQ.val (.int .i64 _)=_
       unfold uA;simp [*]
      ·replace h6:=ne_of_beq_false h6
       refine jB<|kx [(10,(vb (o == 4)))] [] (zE yP<|zM<|zZ) ?_
       refine jF (b:=(o == 4)) rfl (fun h7=>?_) (fun h7=>?_)
       ·replace h7:=eq_of_beq h7
        refine jE<|jF rfl (fun _=>?_) (fun h=>absurd (Eq.trans (Eq.symm (show ((o == 4))=true from beq_iff_eq.2 h7)) h) (by decide))
        refine jB<|kx [(2,(jT 2))] [] (zM<|zZ) ?_
        refine jD ⟨_,(.tmp (d:=(.val (.int .i64 (2)))) rfl .nil),?_⟩
        show jQ.val (.int .i64 _)=_
        unfold uA;simp [*]
       ·replace h7:=ne_of_beq_false h7
        refine kx [(10,(vb (o == 5)))] [] (zE yP<|zM<|zZ) ?_
        refine jF (b:=(o == 5)) rfl (fun h8=>?_) (fun h8=>?_)
        ·replace h8:=eq_of_beq h8
         refine jB<|kx [(2,(jT 2))] [] (zM<|zZ) ?_
         refine jD ⟨_,(.tmp (d:=(.val (.int .i64 (2)))) rfl .nil),?_⟩
         show jQ.val (.int .i64 _)=_
         unfold uA;simp [*]
        ·replace h8:=ne_of_beq_false h8
         refine jE<|jB<|kx [(2,(vi (-1)))] [] (zM<|zZ) ?_
         refine jD ⟨_,(.tmp (d:=(.val (.int .i64 (-1)))) rfl .nil),?_⟩
         show jQ.val (.int .i64 _)=_
         unfold uA;simp [*]
theorem r_kids(o:Int):jS Tryz.prog 55 [(.val (.int .i64 (o)))] (.val (.int .i64 ((uA o)))):=by
 refine uW Tryz.func55 ?_
 refine jB<|kx [] [] (zM<|zZ) ?_
 refine jB<|jB<|kx [(3,(vi o))] [] (zM<|zZ) ?_
 refine jH<|jB<|jB<|kx [(4,(vb (o == 0)))] [] (zE yP<|zM<|zZ) ?_
 refine jF (b:=(o == 0)) rfl (fun h1=>?_) (fun h1=>?_)
 ·replace h1:=eq_of_beq h1
  refine jE<|jF rfl (fun _=>?_) (fun h=>absurd (Eq.trans (Eq.symm (show ((o == 0))=true from beq_iff_eq.2 h1)) h) (by decide))
  refine jB<|kx [(2,(jT 0))] [] (zM<|zZ) ?_
  refine jD ⟨_,(.tmp (d:=(.val (.int .i64 (0)))) rfl .nil),?_⟩
  show jQ.val (.int .i64 _)=_
  unfold uA;simp [*]
 ·replace h1:=ne_of_beq_false h1
  refine kx [(4,(vb (o == 1)))] [] (zE yP<|zM<|zZ) ?_
  refine jF (b:=(o == 1)) rfl (fun h2=>?_) (fun h2=>?_)
  ·replace h2:=eq_of_beq h2
   refine jB<|kx [(2,(jT 0))] [] (zM<|zZ) ?_
   refine jD ⟨_,(.tmp (d:=(.val (.int .i64 (0)))) rfl .nil),?_⟩
   show jQ.val (.int .i64 _)=_
   unfold uA;simp [*]
  ·replace h2:=ne_of_beq_false h2
   refine jB<|jB<|kx [(7,(vb (o == 6)))] [] (zE yP<|zM<|zZ) ?_
   refine jF (b:=(o == 6)) rfl (fun h3=>?_) (fun h3=>?_)
   ·replace h3:=eq_of_beq h3
    refine jE<|jF rfl (fun _=>?_) (fun h=>absurd (Eq.trans (Eq.symm (show ((o == 6))=true from beq_iff_eq.2 h3)) h) (by decide))
    refine jB<|kx [(2,(jT 1))] [] (zM<|zZ) ?_
    refine jD ⟨_,(.tmp (d:=(.val (.int .i64 (1)))) rfl .nil),?_⟩
    show jQ.val (.int .i64 _)=_
    unfold uA;simp [*]
   ·replace h3:=ne_of_beq_false h3
    refine kx [(7,(vb (o == 7)))] [] (zE yP<|zM<|zZ) ?_
    refine jF (b:=(o == 7)) rfl (fun h4=>?_) (fun h4=>?_)
    ·replace h4:=eq_of_beq h4
     refine jB<|kx [(2,(jT 1))] [] (zM<|zZ) ?_
     refine jD ⟨_,(.tmp (d:=(.val (.int .i64 (1)))) rfl .nil),?_⟩
     show jQ.val (.int .i64 _)=_
     unfold uA;simp [*]
    ·replace h4:=ne_of_beq_false h4
     refine jB<|jB<|kx [(10,(vb (o == 2)))] [] (zE yP<|zM<|zZ) ?_
     refine jF (b:=(o == 2)) rfl (fun h5=>?_) (fun h5=>?_)
     ·replace h5:=eq_of_beq h5
      refine jE<|jF rfl (fun _=>?_) (fun h=>absurd (Eq.trans (Eq.symm (show ((o == 2))=true from beq_iff_eq.2 h5)) h) (by decide))
      refine jB<|kx [(2,(jT 2))] [] (zM<|zZ) ?_
      refine jD ⟨_,(.tmp (d:=(.val (.int .i64 (2)))) rfl .nil),?_⟩
      show jQ.val (.int .i64 _)=_
      unfold uA;simp [*]
     ·replace h5:=ne_of_beq_false h5
      refine jB<|kx [(10,(vb (o == 3)))] [] (zE yP<|zM<|zZ) ?_
      refine jF (b:=(o == 3)) rfl (fun h6=>?_) (fun h6=>?_)
      ·replace h6:=eq_of_beq h6
       refine jE<|jF rfl (fun _=>?_) (fun h=>absurd (Eq.trans (Eq.symm (show ((o == 3))=true from beq_iff_eq.2 h6)) h) (by decide))
       refine jB<|kx [(2,(jT 2))] [] (zM<|zZ) ?_
       refine jD ⟨_,(.tmp (d:=(.val (.int .i64 (2)))) rfl .nil),?_⟩
       show jQ.val (.int .i64 _)=_
       unfold uA;simp [*]
      ·replace h6:=ne_of_beq_false h6
       refine jB<|kx [(10,(vb (o == 4)))] [] (zE yP<|zM<|zZ) ?_
       refine jF (b:=(o == 4)) rfl (fun h7=>?_) (fun h7=>?_)
       ·replace h7:=eq_of_beq h7
        refine jE<|jF rfl (fun _=>?_) (fun h=>absurd (Eq.trans (Eq.symm (show ((o == 4))=true from beq_iff_eq.2 h7)) h) (by decide))
        refine jB<|kx [(2,(jT 2))] [] (zM<|zZ) ?_
        refine jD ⟨_,(.tmp (d:=(.val (.int .i64 (2)))) rfl .nil),?_⟩
        show jQ.val (.int .i64 _)=_
        unfold uA;simp [*]
       ·replace h7:=ne_of_beq_false h7
        refine kx [(10,(vb (o == 5)))] [] (zE yP<|zM<|zZ) ?_
        refine jF (b:=(o == 5)) rfl (fun h8=>?_) (fun h8=>?_)
        ·replace h8:=eq_of_beq h8
         refine jB<|kx [(2,(jT 2))] [] (zM<|zZ) ?_
         refine jD ⟨_,(.tmp (d:=(.val (.int .i64 (2)))) rfl .nil),?_⟩
         show jQ.val (.int .i64 _)=_
         unfold uA;simp [*]
        ·replace h8:=ne_of_beq_false h8
         refine jE<|jB<|kx [(2,(vi (-1)))] [] (zM<|zZ) ?_
         refine jD ⟨_,(.tmp (d:=(.val (.int .i64 (-1)))) rfl .nil),?_⟩
         show jQ.val (.int .i64 _)=_
         unfold uA;simp [*]
theorem dM{L:List JV}{N n a:Nat}(h:∀ x∈L,nS N n x)(ha:a<L.length):nS N n (L.getD a jz):=by
 rw[List.getD_eq_getElem?_getD,List.getElem?_eq_getElem ha];exact h _ (List.getElem_mem _)
def nE(N:Nat)(t:List kC):Prop:=∀ x∈t,nL x.n (xW x.n) N
theorem tn_get{N:Nat}{t:List kC}(h:nE N t){k:Nat}(hk:k<t.length):nL (t.getD k tz).n (xW (t.getD k tz).n) N:=by
 rw[List.getD_eq_getElem?_getD,List.getElem?_eq_getElem hk];exact h _ (List.getElem_mem _)
theorem tn_up{M N:Nat}{t:List kC}(h:nE M t)(hm:M<=N:=by decide):nE N t:=fun x hx=>jP (h x hx) hm
theorem j_unset(x:qE)(p:Rat)(hx:nL x p 1048576):jS Tryz.prog 148 [(jK x)] (.val (.bool ((unsB x)))):=by
 refine uW Tryz.func148 ?_
 refine jB<|kx [(1,(.ref 0 0))] [(0,some (bx (jK x)))] (zN (vX 0)<|zM<|zZ) ?_
 refine jB<|kx [(2,(vb (((!x.num.neg&&!x.den.neg)&&(((x.num.gs.length:Nat):Int) == 0))&&(((x.den.gs.length:Nat):Int) == 0))))] [] ?_ ?_
 ·refine zE (kN zG)<|zE (kN vO)<|zR (qJ fG)<|zE cC<|zE (oV (vb (!x.num.neg)) (qA (by kernel_rfl)))<|?_
  rcases hb1:(!x.num.neg) with _ | _
  ·exact zK<|zK<|zK<|zK<|zE yJ<|zM<|zK<|zK<|zK<|zK<|zK<|zE yJ<|zM<|zK<|zK<|zK<|zK<|zK<|zE yJ<|zM<|zZ
  ·refine zE (kN xF)<|zE (kN vO)<|zR (qJ fG)<|zE cC<|zE aB<|zE (oV (vb (true&&!x.den.neg)) (qA (by kernel_rfl)))<|?_
   rcases hb2:(true&&!x.den.neg) with _ | _
   ·exact zK<|zK<|zK<|zK<|zK<|zE yJ<|zM<|zK<|zK<|zK<|zK<|zK<|zE yJ<|zM<|zZ
   ·refine zE (kN zG)<|zE (kN vK)<|zR (qJ xX)<|zE (yH kJ)<|zE yP<|zE aB<|zE (oV (vb (true&&(((x.num.gs.length:Nat):Int) == 0))) (qA (by kernel_rfl)))<|?_
    rcases hb3:(true&&(((x.num.gs.length:Nat):Int) == 0)) with _ | _
    ·exact zK<|zK<|zK<|zK<|zK<|zE yJ<|zM<|zZ
    ·exact zE (kN xF)<|zE (kN vK)<|zR (qJ xX)<|zE (yH kJ)<|zE yP<|zE aB<|zM<|zZ
 refine jD ⟨_,(.tmp (d:=(.val (.bool ((((!x.num.neg&&!x.den.neg)&&(((x.num.gs.length:Nat):Int) == 0))&&(((x.den.gs.length:Nat):Int) == 0)))))) rfl .nil),?_⟩
 rfl
theorem by3:zD Tryz.prog 3=some 8:=by kernel_rfl
theorem by72:zD Tryz.prog 72=some 88:=by kernel_rfl
theorem cb67:callB Tryz.prog 67=true:=by kernel_rfl
theorem cb110:callB Tryz.prog 110=true:=by kernel_rfl
theorem yF:uS Tryz.prog 23=some (72,7):=by kernel_rfl
theorem uM:uS Tryz.prog 74=some (3,1):=by kernel_rfl
theorem eqa130:eqaB Tryz.prog 130=some 3:=by kernel_rfl
theorem yA:uY Tryz.prog 72 0=some 0:=by kernel_rfl
theorem mD:uY Tryz.prog 72 3=some 3:=by kernel_rfl
theorem aP:uY Tryz.prog 103 0=some 0:=by kernel_rfl
theorem fo103_3:uY Tryz.prog 103 3=some 3:=by kernel_rfl
theorem fo103_4:uY Tryz.prog 103 4=some 4:=by kernel_rfl
theorem sh23:kZ Tryz.prog 23=some (false,1):=by kernel_rfl
theorem eI:kZ Tryz.prog 55=some (false,1):=by kernel_rfl
theorem eK:kZ Tryz.prog 72=some (true,7):=by kernel_rfl
theorem sh74:kZ Tryz.prog 74=some (false,1):=by kernel_rfl
theorem sk9:strKB Tryz.prog 9=true:=by kernel_rfl
theorem eH:xB Tryz.prog 72=some [.int .i64 0,.int .i64 0,.int .i64 0,.bool false,.slice none 0 0,.bool false,.slice none 0 0]:=by kernel_rfl
theorem aA:dR [.int .i64 0,.int .i64 0,.int .i64 0,.bool false,.slice none 0 0,.bool false,.slice none 0 0] [.val (.int .i64 0),.val (.int .i64 0),.val (.int .i64 0),.val (.bool false),.sl 107 1 [],.val (.bool false),.sl 107 1 []]:=by simp [dR,Value.oneCell']
theorem e_add(x:kC)(z:Int)(B:gO)(hB:RBI B):uI Tryz.prog 110 [(.ref 0 0),(.d (jO x)),(vi z)] [(0,some [(.own 1 72 7 B.tm.length),(.mp 2),(.mp 3),(.own 4 3 1 B.us.length),(vb B.ov)]),(1,some (qS jO B.tm)),(2,some [.mo (vF mH vW B.kn)]),(3,some [.mo (vF mO vW B.os)]),(4,some (bm jL B.us))] (.d (.val (.int .i64 ((uZ B x z).2)))) [(0,some [(.own 1 72 7 (((uZ B x z).1).tm.length)),(.mp 2),(.mp 3),(.own 4 3 1 (((uZ B x z).1).us.length)),(vb (((uZ B x z).1).ov))]),(1,some (qS jO (((uZ B x z).1).tm))),(2,some [.mo (vF mH vW (((uZ B x z).1).kn))]),(3,some [.mo (vF mO vW (((uZ B x z).1).os))]),(4,some (bm jL (((uZ B x z).1).us)))]:=by
 have hbl:=hB.hl
 have hbu:=hB.hu
 refine xE Tryz.func110 rfl cb110 rfl ?_
 refine jB<|kx [(4,(.ref 5 0))] [(5,some (bx (jO x)))] (zH (vX 5)<|zM<|zZ) ?_
 refine jB<|jB<|kx [(16,(vb (decide (4096<z)||decide (400<=((B.tm.length:Nat):Int)))))] [] ?_ ?_
 ·refine zM<|zE cI<|zE (oV (vb (decide (4096<z))) (qA (by kernel_rfl)))<|?_
  rcases hb1:(decide (4096<z)) with _ | _
  ·replace hb1:=xC hb1
   exact zM<|zE eM<|zE (kN aP)<|zR (qJ sh23)<|zE (oLo yF)<|zE oGe<|zE aD<|zZ
  ·replace hb1:=vT hb1
   exact zK<|zK<|zK<|zK<|zK<|zK<|zE nT<|zZ
 refine jF rfl (fun h2=>?_) (fun h2=>?_)
 ·refine jB<|kx [] [(0,some [(.own 1 72 7 B.tm.length),(.mp 2),(.mp 3),(.own 4 3 1 B.us.length),(vb true)])] (zM<|zE eM<|zE (kN fo103_4)<|zT (qM fG)<|zZ) ?_
  refine jB<|kx [(6,(jT 0))] [] (zM<|zZ) ?_
  rw[bAdd_t (B:=B) (x:=x) (z:=z) h2]
  refine jD ⟨qR (by kernel_rfl),uH (by kernel_rfl),.inl ⟨_,(.tmp (d:=(.val (.int .i64 (0)))) rfl .nil),?_⟩⟩
  rfl
 ·have hlt:B.tm.length<400:=by have h9:=(Bool.or_eq_false_iff.1 h2).2;rw[decide_eq_false_iff_not] at h9;omega
  refine jE<|jB<|kd [] [(0,some [(.own 6 72 7 ((B.tm++[x]).length)),(.mp 2),(.mp 3),(.own 4 3 1 B.us.length),(vb B.ov)]),(6,some (qS jO (B.tm++[x]))),(1,none)] mo (wM<|wM<|wE eM<|wE (kN aP)<|wR (qJ sh23)<|wR (kR eK)<|wE (fF yF eH aA)<|wAS (k:=1) 6 jO B.tm [x] rfl yF eH by72<|wE eM<|wE (kN aP)<|wT (oSx sh23)<|wZ) ?_
  refine kG (wk (l:=[(0,(.ref 0 0)),(2,(vi z))]) (b:=[(0,some [(.own 6 72 7 ((B.tm++[x]).length)),(.mp 2),(.mp 3),(.own 4 3 1 B.us.length),(vb B.ov)]),(2,some [.mo (vF mH vW B.kn)]),(3,some [.mo (vF mO vW B.os)]),(4,some (bm jL B.us)),(6,some (qS jO (B.tm++[x])))])) ?_
  refine kG (mW (S':=[(0,(.ref 0 0)),(2,(vi z))]) (B':=[(0,some [(.own 1 72 7 ((B.tm++[x]).length)),(.mp 2),(.mp 3),(.own 4 3 1 B.us.length),(vb B.ov)]),(1,some (qS jO (B.tm++[x]))),(2,some [.mo (vF mH vW B.kn)]),(3,some [.mo (vF mO vW B.os)]),(4,some (bm jL B.us))]) 1 6 0) ?_
  refine jB<|kf [] [(0,some [(.own 1 72 7 ((B.tm++[x]).length)),(.mp 2),(.mp 3),(.own 4 3 1 ((B.us++[z]).length)),(vb B.ov)]),(4,some (bm jL (B.us++[z])))] (zM<|zM<|zE eM<|zE (kN fo103_3)<|zR (qJ sh74)<|zM<|zE (fF uM ze3 zo3)<|zAm 0 3 jL B.us [z] rfl uM ze3 by3 (hB:=by repeat first | exact clrn_nil _ _ | refine clrn_hide ?_ | refine clrn_self ?_ | refine clrn_map ?_ | refine clrn_none ?_ | refine clrn_bx ?_ | refine clrn_d ?_ | refine clrn_cons rfl ?_) (k:=4)<|zE eM<|zE (kN fo103_3)<|zT (oSx sh74)<|zF) ?_
  refine jB<|kx [(6,(jT B.tm.length))] [] (zM<|zE eM<|zE (kN aP)<|zR (qJ sh23)<|zE (oLo yF)<|zE (oSb B.tm.length (hr:=by exact (by rw[List.length_append,List.length_singleton];exact wNat (by omega) (by simp only[kHiN];omega) (by decide))))<|zM<|zZ) ?_
  rw[bAdd_f (B:=B) (x:=x) (z:=z) h2]
  refine jD ⟨qR (by kernel_rfl),uH (by kernel_rfl),.inl ⟨_,(.tmp (d:=(.val (.int .i64 (((B.tm.length:Nat):Int))))) rfl .nil),?_⟩⟩
  rfl
theorem e_is(i:Int)(n:Int)(B:gO)(hB:RBI B)(hi:fX B i)(hn1:-9223372036854775808<=n)(hn2:n<=9223372036854775807):uI Tryz.prog 67 [(.ref 0 0),(vi i),(vi n)] [(0,some [(.own 1 72 7 B.tm.length),(.mp 2),(.mp 3),(.own 4 3 1 B.us.length),(vb B.ov)]),(1,some (qS jO B.tm)),(2,some [.mo (vF mH vW B.kn)]),(3,some [.mo (vF mO vW B.os)]),(4,some (bm jL B.us))] (.d (.val (.bool ((dY B i n))))) [(0,some [(.own 1 72 7 B.tm.length),(.mp 2),(.mp 3),(.own 4 3 1 B.us.length),(vb B.ov)]),(1,some (qS jO B.tm)),(2,some [.mo (vF mH vW B.kn)]),(3,some [.mo (vF mO vW B.os)]),(4,some (bm jL B.us))]:=by
 have hbl:=hB.hl
 have hi0:=hi.1
 have hi1:=hi.2
 refine xE Tryz.func67 rfl cb67 rfl ?_
 refine jB<|kx [] [] (zM<|zZ) ?_
 refine jB<|kd [(6,(vb ((decide (i<((B.tm.length:Nat):Int))&&((B.tm.getD ((i).toNat) tz).op == 0))&&((gC (xW ((B.tm.getD ((i).toNat) tz).n)) ((n:Int):Rat)) == 0))))] [] mo ?_ ?_
 ·refine wM<|wM<|wE eM<|wE (kN aP)<|wR (qJ sh23)<|wE (oLo yF)<|wE yY<|wE (oV (vb (decide (i<((B.tm.length:Nat):Int)))) (qA (by kernel_rfl)))<|?_
  rcases hb1:(decide (i<((B.tm.length:Nat):Int))) with _ | _
  ·replace hb1:=xC hb1
   exact wK<|wK<|wK<|wK<|wK<|wK<|wK<|wK<|wK<|wE yJ<|wM<|wK<|wK<|wK<|wK<|wK<|wK<|wK<|wK<|wK<|wK<|wK<|wK<|wE yJ<|wM<|wZ
  ·replace hb1:=vT hb1
   refine wM<|wE eM<|wE (kN aP)<|wR (qJ sh23)<|wM<|wE (oXO yF ((i).toNat))<|wE (kN yA)<|wR (oLs (s:=7) (i:=0) eI ((i).toNat) (tz:kC))<|wE yP<|wE aB<|wE (oV (vb (true&&((B.tm.getD ((i).toNat) tz).op == 0))) (qA (by kernel_rfl)))<|?_
   rcases hb2:((B.tm.getD ((i).toNat) tz).op == 0) with _ | _
   ·replace hb2:=ne_of_beq_false hb2
    exact wK<|wK<|wK<|wK<|wK<|wK<|wK<|wK<|wK<|wK<|wK<|wK<|wE yJ<|wM<|wZ
   ·replace hb2:=eq_of_beq hb2
    exact wM<|wE eM<|wE (kN aP)<|wR (qJ sh23)<|wM<|wE (oXO yF ((i).toNat))<|wE (kN mD)<|wR (dF (jK ((B.tm.getD ((i).toNat) tz).n)) (jK ((B.tm.getD ((i).toNat) tz).n)) (oLf (s:=7) (i:=3) jW ((i).toNat) (tz:kC) (jK ((B.tm.getD ((i).toNat) tz).n))) (by exact rfl))<|wM<|wE (kB (aI n (by omega) (by omega)))<|wE (kB (bZ ((B.tm.getD ((i).toNat) tz).n) (jN ((n:Int):Rat)) (xW ((B.tm.getD ((i).toNat) tz).n)) ((n:Int):Rat) (jP (hB.q (show (i).toNat<B.tm.length by omega))) (jP (jY (yV (z:=n) (uE (by omega) (by omega)))))))<|wE yP<|wE aB<|wM<|wZ
 refine jD ⟨qR (by kernel_rfl),uH (by kernel_rfl),.inl ⟨_,(.tmp (d:=(.val (.bool (((decide (i<((B.tm.length:Nat):Int))&&((B.tm.getD ((i).toNat) tz).op == 0))&&((gC (xW ((B.tm.getD ((i).toNat) tz).n)) ((n:Int):Rat)) == 0)))))) rfl .nil),?_⟩⟩
 rfl
theorem ar130:arrB Tryz.prog 130=some (3,3,1):=by kernel_rfl
theorem cb61:callB Tryz.prog 61=true:=by kernel_rfl
theorem cb63:callB Tryz.prog 63=true:=by kernel_rfl
theorem fo103_1:uY Tryz.prog 103 1=some 1:=by kernel_rfl
theorem fo103_2:uY Tryz.prog 103 2=some 2:=by kernel_rfl
theorem mk100:mapKB Tryz.prog 100=some (130,3):=by kernel_rfl
theorem mk101:mapKB Tryz.prog 101=some (9,3):=by kernel_rfl
theorem pl72:dX Tryz.prog 72=some [(0,1),(1,1),(2,1),(3,4)]:=by kernel_rfl
theorem sh100:kZ Tryz.prog 100=some (false,1):=by kernel_rfl
theorem sh101:kZ Tryz.prog 101=some (false,1):=by kernel_rfl
theorem sh130:kZ Tryz.prog 130=some (true,3):=by kernel_rfl
theorem ze130:xB Tryz.prog 130=some [.int .i64 0,.int .i64 0,.int .i64 0]:=by kernel_rfl
theorem zo130:dR [.int .i64 0,.int .i64 0,.int .i64 0] [.val (.int .i64 0),.val (.int .i64 0),.val (.int .i64 0)]:=by simp [dR,Value.oneCell']
theorem zv3:zeroVm Tryz.prog 3=some (.int .i64 0):=by kernel_rfl
theorem eP(o:Int)(i:Int)(k:Int)(B:gO)(hB:RBI B)(ha:NdAr B o i k):uI Tryz.prog 63 [(.ref 0 0),(vi o),(vi i),(vi k)] [(0,some [(.own 1 72 7 B.tm.length),(.mp 2),(.mp 3),(.own 4 3 1 B.us.length),(vb B.ov)]),(1,some (qS jO B.tm)),(2,some [.mo (vF mH vW B.kn)]),(3,some [.mo (vF mO vW B.os)]),(4,some (bm jL B.us))] (.d (.val (.int .i64 ((jV B o i k).2)))) [(0,some [(.own 1 72 7 (((jV B o i k).1).tm.length)),(.mp 2),(.mp 3),(.own 4 3 1 (((jV B o i k).1).us.length)),(vb (((jV B o i k).1).ov))]),(1,some (qS jO (((jV B o i k).1).tm))),(2,some [.mo (vF mH vW (((jV B o i k).1).kn))]),(3,some [.mo (vF mO vW (((jV B o i k).1).os))]),(4,some (bm jL (((jV B o i k).1).us)))]:=by
 have hbl:=hB.hl
 have hbu:=hB.hu
 let y1:=kO
 refine xE Tryz.func63 rfl cb63 rfl ?_
 refine jB<|kx [] [] (zM<|zZ) ?_
 refine jB<|kx [(9,(.ref 5 0))] [(5,some (bx (encA130 (A3.mk o i k))))] (zM<|zM<|zM<|zE (oBf ar130 ze130 zo130)<|zH (uJ 5 ze130 zo130)<|zT (qM sh130)<|zZ) ?_
 refine jB<|jB<|kd [(10,(vi ((zL B.kn (o,i,k)).getD 0))),(11,(vb ((zL B.kn (o,i,k)).isSome)))] [] mo (wM<|wE eM<|wE (kN fo103_1)<|wR (qJ sh100)<|wR (kR sh130)<|wR (oGi (l:=B.kn) mk100 (keyT3 eqa130) zv3 (o,i,k) (fun _ _ _ h=>rep_T3 h))<|wM<|wE zJ<|wE zJ<|wM<|wM<|wZ) ?_
 refine jB<|kx [(33,(vb ((zL B.kn (o,i,k)).isSome||B.ov)))] [] ?_ ?_
 ·refine zM<|zE (oV (vb ((zL B.kn (o,i,k)).isSome)) (qA (by kernel_rfl)))<|?_
  rcases hb1:((zL B.kn (o,i,k)).isSome) with _ | _
  ·exact zM<|zE eM<|zE (kN fo103_4)<|zR (qJ fG)<|zE aD<|zZ
  ·exact zK<|zK<|zK<|zK<|zE nT<|zZ
 refine jF (b:=((zL B.kn (o,i,k)).isSome||B.ov)) rfl (fun h2=>?_) (fun h2=>?_)
 ·refine jB<|kx [(8,(vi ((zL B.kn (o,i,k)).getD 0)))] [] (zM<|zM<|zZ) ?_
  rw[bNode_t (B:=B) (o:=o) (i:=i) (k:=k) h2]
  refine jD ⟨qR (by kernel_rfl),uH (by kernel_rfl),.inl ⟨_,(.tmp (d:=(.val (.int .i64 (((zL B.kn (o,i,k)).getD 0))))) rfl .nil),?_⟩⟩
  rfl
 ·refine jE<|jB<|kx [(12,(jT 1))] [] (zM<|zZ) ?_
  refine pwp_seqjoin (α:=Int) (fun v=>⟨[(0,(.ref 0 0)),(1,(vi o)),(2,(vi i)),(3,(vi k)),(9,(.ref 5 0)),(12,(vi v))],[(0,some [(.own 1 72 7 B.tm.length),(.mp 2),(.mp 3),(.own 4 3 1 B.us.length),(vb B.ov)]),(1,some (qS jO B.tm)),(2,some [.mo (vF mH vW B.kn)]),(3,some [.mo (vF mO vW B.os)]),(4,some (bm jL B.us)),(5,some (bx (encA130 (A3.mk o i k))))]⟩) (fun v=>v=bSz B o i k) ?_ ?_
  ·refine jB<|kx [(35,(vb (o == 6)))] [] (zM<|zE yP<|zM<|zZ) ?_
   refine jF (b:=(o == 6)) rfl (fun h3=>?_) (fun h3=>?_)
   ·replace h3:=eq_of_beq h3
    obtain ⟨⟨a1,a2⟩,⟨a3,a4⟩,a5,a6⟩:=ha.ge2 hB (show o≠1 by omega)
    refine kx [(12,(vi (B.us.getD ((i).toNat) 0)))] [] (zM<|zE eM<|zE (kN fo103_3)<|zR (qJ sh74)<|zM<|zE (yK uM ((i).toNat))<|zR (eQ uT ((i).toNat) (0:Int))<|zM<|zZ) ?_
    exact ⟨(B.us.getD i.toNat 0),wk,(bSz_6 h3)⟩
   ·replace h3:=ne_of_beq_false h3
    refine jB<|kx [(45,(vb (o == 7)))] [] (zM<|zE yP<|zM<|zZ) ?_
    refine jF (b:=(o == 7)) rfl (fun h4=>?_) (fun h4=>?_)
    ·replace h4:=eq_of_beq h4
     obtain ⟨⟨a1,a2⟩,⟨a3,a4⟩,a5,a6⟩:=ha.ge2 hB (show o≠1 by omega)
     refine kx [(12,(vi (2*(B.us.getD ((i).toNat) 0))))] [] (zM<|zE eM<|zE (kN fo103_3)<|zR (qJ sh74)<|zM<|zE (yK uM ((i).toNat))<|zR (eQ uT ((i).toNat) (0:Int))<|zE (zMl (2*(B.us.getD ((i).toNat) 0)))<|zM<|zZ) ?_
     exact ⟨(2*B.us.getD i.toNat 0),wk,(bSz_7 h3 h4)⟩
    ·replace h4:=ne_of_beq_false h4
     refine jB<|kx [(56,(vb ((uA o) == 2)))] [] (zM<|zE (kB (j_kids o))<|zE yP<|zM<|zZ) ?_
     refine jF (b:=((uA o) == 2)) rfl (fun h5=>?_) (fun h5=>?_)
     ·replace h5:=eq_of_beq h5
      obtain ⟨⟨a1,a2⟩,⟨a3,a4⟩,a5,a6⟩:=ha.ge2 hB (show o≠1 from fun e=>by rw[e] at h5;revert h5;decide)
      refine kd [(12,(vi ((B.us.getD ((i).toNat) 0)+(B.us.getD ((k).toNat) 0))))] [] mo (wM<|wE eM<|wE (kN fo103_3)<|wR (qJ sh74)<|wM<|wE (yK uM ((i).toNat))<|wR (eQ uT ((i).toNat) (0:Int))<|wM<|wE eM<|wE (kN fo103_3)<|wR (qJ sh74)<|wM<|wE (yK uM ((k).toNat))<|wR (eQ uT ((k).toNat) (0:Int))<|wE (zAd ((B.us.getD ((i).toNat) 0)+(B.us.getD ((k).toNat) 0)))<|wM<|wZ) ?_
      exact ⟨(B.us.getD i.toNat 0+B.us.getD k.toNat 0),wk,(bSz_2 h3 h4 h5)⟩
     ·replace h5:=ne_of_beq_false h5
      refine jE ?_
      exact ⟨1,wk,(bSz_1 h3 h4 h5)⟩
  ·rintro v hv
   refine jB<|kf [(13,(vi ((uZ B (kC.mk o i k y1) v).2)))] [(0,some [(.own 1 72 7 (((uZ B (kC.mk o i k y1) v).1).tm.length)),(.mp 2),(.mp 3),(.own 4 3 1 (((uZ B (kC.mk o i k y1) v).1).us.length)),(vb (((uZ B (kC.mk o i k y1) v).1).ov))]),(1,some (qS jO (((uZ B (kC.mk o i k y1) v).1).tm))),(2,some [.mo (vF mH vW (((uZ B (kC.mk o i k y1) v).1).kn))]),(3,some [.mo (vF mO vW (((uZ B (kC.mk o i k y1) v).1).os))]),(4,some (bm jL (((uZ B (kC.mk o i k y1) v).1).us)))] (zM<|zM<|zM<|zM<|zE (bH pl72 eH aA)<|zM<|iF (B2:=[(0,some [(.own 1 72 7 B.tm.length),(.mp 2),(.mp 3),(.own 4 3 1 B.us.length),(vb B.ov)]),(1,some (qS jO B.tm)),(2,some [.mo (vF mH vW B.kn)]),(3,some [.mo (vF mO vW B.os)]),(4,some (bm jL B.us))]) (B2':=[(0,some [(.own 1 72 7 (((uZ B (kC.mk o i k y1) v).1).tm.length)),(.mp 2),(.mp 3),(.own 4 3 1 (((uZ B (kC.mk o i k y1) v).1).us.length)),(vb (((uZ B (kC.mk o i k y1) v).1).ov))]),(1,some (qS jO (((uZ B (kC.mk o i k y1) v).1).tm))),(2,some [.mo (vF mH vW (((uZ B (kC.mk o i k y1) v).1).kn))]),(3,some [.mo (vF mO vW (((uZ B (kC.mk o i k y1) v).1).os))]),(4,some (bm jL (((uZ B (kC.mk o i k y1) v).1).us)))]) [0,1,2,3,4] [0] (e_add (kC.mk o i k y1) v B hB)<|zM<|zF) ?_
   refine jB<|kd [] [(2,some [.mo (vF mH vW ((((uZ B (kC.mk o i k y1) v).1).kn)++[((o,i,k),(uZ B (kC.mk o i k y1) v).2)]))])] mo (wM<|wE eM<|wE (kN fo103_1)<|wR (qJ sh100)<|wR (kR sh130)<|wM<|wT (oIi (l:=((uZ B (kC.mk o i k y1) v).1).kn) mk100 (keyT3 eqa130) (o,i,k) ((uZ B (kC.mk o i k y1) v).2) (fun _ _ _ h=>rep_T3 h) (by rw[(bAdd_os _ _ _).2];exact (Bool.or_eq_false_iff.1 h2).1))<|wZ) ?_
   refine jB<|kx [(8,(vi ((uZ B (kC.mk o i k y1) v).2)))] [] (zM<|zM<|zZ) ?_
   rw[bNode_f (B:=B) (o:=o) (i:=i) (k:=k) (z:=v) h2 hv]
   refine jD ⟨qR (by kernel_rfl),uH (by kernel_rfl),.inl ⟨_,(.tmp (d:=(.val (.int .i64 ((uZ B (kC.mk o i k kO) v).2)))) rfl .nil),?_⟩⟩
   rfl
def TextAt(q:Rat):Prop:=jS Tryz.prog 109 [jK (jN q)] (.val (.string (txQ q)))
theorem p_text(q:Rat)(hq:QL q 1048576)(ht:TextAt q):jS Tryz.prog 109 [jK (jN q)] (.val (.string (txQ q))):=ht
theorem e_num(q:Rat)(hq:QL q 1048576)(B:gO)(hB:RBI B)(ht:TextAt q):uI Tryz.prog 61 [(.ref 0 0),(.d (jK (jN q)))] [(0,some [(.own 1 72 7 B.tm.length),(.mp 2),(.mp 3),(.own 4 3 1 B.us.length),(vb B.ov)]),(1,some (qS jO B.tm)),(2,some [.mo (vF mH vW B.kn)]),(3,some [.mo (vF mO vW B.os)]),(4,some (bm jL B.us))] (.d (.val (.int .i64 ((zB B q).2)))) [(0,some [(.own 1 72 7 (((zB B q).1).tm.length)),(.mp 2),(.mp 3),(.own 4 3 1 (((zB B q).1).us.length)),(vb (((zB B q).1).ov))]),(1,some (qS jO (((zB B q).1).tm))),(2,some [.mo (vF mH vW (((zB B q).1).kn))]),(3,some [.mo (vF mO vW (((zB B q).1).os))]),(4,some (bm jL (((zB B q).1).us)))]:=by
 have hbl:=hB.hl
 have hbu:=hB.hu
 refine xE Tryz.func61 rfl cb61 rfl ?_
 refine jB<|kx [(3,(.ref 5 0))] [(5,some (bx (jK (jN q))))] (zH (vX 5)<|zM<|zZ) ?_
 refine jB<|kx [(5,(.d (.val (.string (txQ q)))))] [] (zR (kR jW)<|zE (kB (p_text q hq ht))<|zM<|zZ) ?_
 refine jB<|jB<|kx [(6,(vi ((zL B.os (txQ q)).getD 0))),(7,(vb ((zL B.os (txQ q)).isSome)))] [] (zM<|zE eM<|zE (kN fo103_2)<|zR (qJ sh101)<|zM<|zR (oGi (l:=B.os) mk101 (keySt sk9) zv3 (txQ q) (fun _ _ _ h=>vB h))<|zM<|zE zJ<|zE zJ<|zM<|zM<|zZ) ?_
 refine jB<|kx [(20,(vb ((zL B.os (txQ q)).isSome)))] [] (zM<|zZ) ?_
 refine jF (b:=(zL B.os (txQ q)).isSome) rfl (fun h1=>?_) (fun h1=>?_)
 ·refine jB<|kx [(4,(vi ((zL B.os (txQ q)).getD 0)))] [] (zM<|zM<|zZ) ?_
  rw[bNum_t (B:=B) (q:=q) h1]
  refine jD ⟨qR (by kernel_rfl),uH (by kernel_rfl),.inl ⟨_,(.tmp (d:=(.val (.int .i64 (((zL B.os (txQ q)).getD 0))))) rfl .nil),?_⟩⟩
  rfl
 ·refine jE<|jB<|kf [(8,(vi ((uZ B (kC.mk 0 0 0 (jN q)) 1).2)))] [(0,some [(.own 1 72 7 (((uZ B (kC.mk 0 0 0 (jN q)) 1).1).tm.length)),(.mp 2),(.mp 3),(.own 4 3 1 (((uZ B (kC.mk 0 0 0 (jN q)) 1).1).us.length)),(vb (((uZ B (kC.mk 0 0 0 (jN q)) 1).1).ov))]),(1,some (qS jO (((uZ B (kC.mk 0 0 0 (jN q)) 1).1).tm))),(2,some [.mo (vF mH vW (((uZ B (kC.mk 0 0 0 (jN q)) 1).1).kn))]),(3,some [.mo (vF mO vW (((uZ B (kC.mk 0 0 0 (jN q)) 1).1).os))]),(4,some (bm jL (((uZ B (kC.mk 0 0 0 (jN q)) 1).1).us)))] (zM<|zR (kR jW)<|zE (bH pl72 eH aA)<|iF (B2:=[(0,some [(.own 1 72 7 B.tm.length),(.mp 2),(.mp 3),(.own 4 3 1 B.us.length),(vb B.ov)]),(1,some (qS jO B.tm)),(2,some [.mo (vF mH vW B.kn)]),(3,some [.mo (vF mO vW B.os)]),(4,some (bm jL B.us))]) (B2':=[(0,some [(.own 1 72 7 (((uZ B (kC.mk 0 0 0 (jN q)) 1).1).tm.length)),(.mp 2),(.mp 3),(.own 4 3 1 (((uZ B (kC.mk 0 0 0 (jN q)) 1).1).us.length)),(vb (((uZ B (kC.mk 0 0 0 (jN q)) 1).1).ov))]),(1,some (qS jO (((uZ B (kC.mk 0 0 0 (jN q)) 1).1).tm))),(2,some [.mo (vF mH vW (((uZ B (kC.mk 0 0 0 (jN q)) 1).1).kn))]),(3,some [.mo (vF mO vW (((uZ B (kC.mk 0 0 0 (jN q)) 1).1).os))]),(4,some (bm jL (((uZ B (kC.mk 0 0 0 (jN q)) 1).1).us)))]) [0,1,2,3,4] [0] (e_add (kC.mk 0 0 0 (jN q)) 1 B hB)<|zM<|zF) ?_
  refine jB<|kx [] [(3,some [.mo (vF mO vW ((((uZ B (kC.mk 0 0 0 (jN q)) 1).1).os)++[((txQ q),(uZ B (kC.mk 0 0 0 (jN q)) 1).2)]))])] (zM<|zE eM<|zE (kN fo103_2)<|zR (qJ sh101)<|zM<|zM<|zT (oIi (l:=((uZ B (kC.mk 0 0 0 (jN q)) 1).1).os) mk101 (keySt sk9) (txQ q) ((uZ B (kC.mk 0 0 0 (jN q)) 1).2) (fun _ _ _ h=>vB h) (by rw[(bAdd_os _ _ _).1];exact h1))<|zZ) ?_
  refine jB<|kx [(4,(vi ((uZ B (kC.mk 0 0 0 (jN q)) 1).2)))] [] (zM<|zM<|zZ) ?_
  rw[bNum_f (B:=B) (q:=q) h1]
  refine jD ⟨qR (by kernel_rfl),uH (by kernel_rfl),.inl ⟨_,(.tmp (d:=(.val (.int .i64 ((uZ B (kC.mk 0 0 0 (jN q)) 1).2)))) rfl .nil),?_⟩⟩
  rfl
def TextZ(z:Int):Prop:=jS Tryz.prog 168 [jR (kM z)] (.val (.string ⟨(txZ z).toArray⟩))
theorem p_textZ(z:Int)(hz:dB (kM z) z 1048576)(ht:TextZ z):jS Tryz.prog 168 [jR (kM z)] (.val (.string ⟨(txZ z).toArray⟩)):=ht
theorem p_textW(q:Rat)(hq:QL q 1048576)(hd:q.den=1)(ht:TextZ q.num):jS Tryz.prog 109 [(jK (jN q))] (.val (.string (txQ q))):=by
 refine uW Tryz.func109 ?_
 refine jB<|kx [(1,(.ref 0 0))] [(0,some (bx (jK (jN q))))] (zN (vX 0)<|zM<|zZ) ?_
 refine jB<|kx [] [(0,some (bx (jK (jN q))))] (zR (kR jW)<|zE (kB (cT (jN q) q (jP (jY hq))))<|zT (qM jW)<|zZ) ?_
 refine jB<|kx [(3,(.d (.val (.string (⟨(txZ q.num).toArray⟩:ByteArray)))))] [] (zE (kN zG)<|zR (kR kD)<|zE (kB (p_textZ q.num (uG hq) ht))<|zM<|zZ) ?_
 refine jB<|jB<|kd [(13,(vb false))] [] mo (wE (kN xF)<|wR (kR kD)<|wE (kB (t_of 1))<|wE (kB (s_compare (qW hq) (iok_small (z:=1))))<|wE (gU false bD (by exact bne_eq_false_iff_eq.2 (by rw[hd];decide)))<|wZ) ?_
 refine qH ?_
 refine jE<|jB<|kx [(2,(.d (.val (.string (⟨(txZ q.num).toArray⟩:ByteArray)))))] [] (zM<|zM<|zZ) ?_
 refine jD ⟨_,(.tmp (d:=(.val (.string (⟨(txZ q.num).toArray⟩:ByteArray)))) rfl .nil),?_⟩
 unfold txQ;rw[if_pos hd];rfl
theorem ofNat_one{n:Nat}(h:n<1000000000){d:Nat}(hd:d∈ofNat n\/d=0):d<=n:=by
 rcases hd with hd | rfl
 ·by_cases h0:n=0
  ·subst h0;rw[uB] at hd;cases hd
  ·rw[nP h0,Nat.mod_eq_of_lt h,Nat.div_eq_of_lt h,uB,List.mem_singleton] at hd;omega
 ·omega
theorem tz_small(z:Int)(h:z.natAbs<100):TextZ z:=t_text z (Nat.le_trans (yC (by omega)) (by decide)) fun d hd=>itA_small d (by have:=ofNat_one (by omega) hd;omega)
theorem tx_small(z:Int)(h:z.natAbs<100:=by decide):TextAt ((z:Int):Rat):=p_textW _ (ql_i (by omega)) (Rat.den_intCast z) (by rw[Rat.num_intCast];exact tz_small z h)
end Go.Proofs.YtckccjhflbljgaaGreatDoor
