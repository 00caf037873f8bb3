/- Part 23 of a proof: rules, plain facts, and functions walked. -/
import Derived.Test.YtnajallgoaiahaaGreatDoorM18
import Derived.Test.YtnajallgoaiahaaGreatDoorM19
import Derived.Test.YtnajallgoaiahaaGreatDoorM22
set_option linter.all false
set_option maxRecDepth 4000
namespace Go.Proofs.YtnajallgoaiahaaGreatDoor
open Go.Fid
abbrev xF (n k:Nat) (L:List JV) (b:Bool):List SV:=[(jR n),(jR 1),(vi (-1)),(.own k 95 10 ((List.map qI L).length)),(vb b)]
abbrev xL (L:List JV):List SV:=nD jL (List.map qI L)
abbrev mcA (n:Nat) (x:jS) (b:Bool):jS:=.agg [(.val (.int .i64 ((n:Nat):Int))),(.val (.int .i64 ((1:Nat):Int))),(.val (.int .i64 (-1))),x,(.val (.bool b))]
theorem cb109:callB Tryz.prog 109=true:=by kernel_rfl
theorem cb180:callB Tryz.prog 180=true:=by kernel_rfl
theorem cb182:callB Tryz.prog 182=true:=by kernel_rfl
theorem cb192:callB Tryz.prog 192=true:=by kernel_rfl
theorem cb193:callB Tryz.prog 193=true:=by kernel_rfl
theorem cb196:callB Tryz.prog 196=true:=by kernel_rfl
theorem cb200:callB Tryz.prog 200=true:=by kernel_rfl
theorem cb210:callB Tryz.prog 210=true:=by kernel_rfl
theorem gl_ite{c:Prop}[Decidable c]{a b:R2}{n:Nat}(ha:GL n a)(hb:GL n b):GL n (if c then a else b):=by
 split
 ·exact ha
 ·exact hb
theorem j_whole(z:Int)(hz1:-9223372036854775808≤z)(hz2:z≤9223372036854775807):jP Tryz.prog 180 [(.val (.int .i64 (z)))] (jJ (kP (gw z))):=by
 refine jI Tryz.func180 rfl cb180 rfl ?_
 show qJ _ _ _ _ ⟨[(0,(vi z))],[]⟩
 refine jB<|kx [(2,(.ref 0 0))] [(0,some (bx (jJ (jZ.mk qH qH))))] (zN (uF 0 uH uR)<|zZ) ?_
 refine jB<|kx [] [(0,some (bx (jJ (jZ.mk (jQ ((z:Int):Rat)) (jQ ((z:Int):Rat))))))] (zM<|zE (jX (f_whole z (by omega) (by omega)))<|zM<|zE (jX (f_whole z (by omega) (by omega)))<|zE (bY pl61 uH uR)<|zT (qK kI)<|zZ) ?_
 refine jE ⟨_,(kN (cs:=(bx (jJ (jZ.mk (jQ ((z:Int):Rat)) (jQ ((z:Int):Rat)))))) (d:=(jJ (jZ.mk (jQ ((z:Int):Rat)) (jQ ((z:Int):Rat))))) rfl rfl kI rfl rfl .nil),?_⟩
 rfl
theorem j_add(a:R2)(ha:GL 67108864 a)(b:R2)(hb:GL 67108864 b):jP Tryz.prog 192 [(jJ (kP a)),(jJ (kP b))] (jJ (kP (hZ a b))):=by
 refine jI Tryz.func192 rfl cb192 rfl ?_
 show qJ _ _ _ _ ⟨[(0,(.d (jJ (kP a)))),(1,(.d (jJ (kP b))))],[]⟩
 refine jB<|kx [(2,(.ref 0 0)),(3,(.ref 1 0)),(4,(.ref 2 0))] [(0,some (bx (jJ (kP a)))),(1,some (bx (jJ (kP b)))),(2,some (bx (jJ (jZ.mk qH qH))))] (zN (vW 0)<|zN (vW 1)<|zN (uF 2 uH uR)<|zZ) ?_
 refine jB<|kx [(5,(.ref 3 0))] [(3,some (bx (jJ (jZ.mk (jQ (a.1+b.1)) (jQ (a.2+b.2))))))] (zR (kM kI)<|zR (kM kI)<|zE (jX (i_add a.1 a.2 b.1 b.2 (qu ha.1) (qu ha.2.1) (qu hb.1) (qu hb.2.1) ha.2.2 hb.2.2))<|zM<|zE xD<|zE xD<|zN (uF 3 uH uR)<|zT (qK kI)<|zM<|zZ) ?_
 refine jB<|kx [] [(2,some (bx (jJ (jZ.mk (jQ (a.1+b.1)) (jQ (a.2+b.2))))))] (zR (kM kI)<|zT (qK kI)<|zZ) ?_
 refine jE ⟨_,(kN (cs:=(bx (jJ (jZ.mk (jQ (a.1+b.1)) (jQ (a.2+b.2)))))) (d:=(jJ (jZ.mk (jQ (a.1+b.1)) (jQ (a.2+b.2))))) rfl rfl kI rfl rfl .nil),?_⟩
 rfl
theorem j_sub(a:R2)(ha:GL 67108864 a)(b:R2)(hb:GL 67108864 b):jP Tryz.prog 193 [(jJ (kP a)),(jJ (kP b))] (jJ (kP (vA a b))):=by
 refine jI Tryz.func193 rfl cb193 rfl ?_
 show qJ _ _ _ _ ⟨[(0,(.d (jJ (kP a)))),(1,(.d (jJ (kP b))))],[]⟩
 refine jB<|kx [(2,(.ref 0 0)),(3,(.ref 1 0)),(4,(.ref 2 0))] [(0,some (bx (jJ (kP a)))),(1,some (bx (jJ (kP b)))),(2,some (bx (jJ (jZ.mk qH qH))))] (zN (vW 0)<|zN (vW 1)<|zN (uF 2 uH uR)<|zZ) ?_
 refine jB<|kx [(5,(.ref 3 0))] [(3,some (bx (jJ (jZ.mk (jQ (a.1-b.2)) (jQ (a.2-b.1))))))] (zR (kM kI)<|zR (kM kI)<|zE (jX (i_sub a.1 a.2 b.1 b.2 (qu ha.1) (qu ha.2.1) (qu hb.1) (qu hb.2.1) ha.2.2 hb.2.2))<|zM<|zE xD<|zE xD<|zN (uF 3 uH uR)<|zT (qK kI)<|zM<|zZ) ?_
 refine jB<|kx [] [(2,some (bx (jJ (jZ.mk (jQ (a.1-b.2)) (jQ (a.2-b.1))))))] (zR (kM kI)<|zT (qK kI)<|zZ) ?_
 refine jE ⟨_,(kN (cs:=(bx (jJ (jZ.mk (jQ (a.1-b.2)) (jQ (a.2-b.1)))))) (d:=(jJ (jZ.mk (jQ (a.1-b.2)) (jQ (a.2-b.1))))) rfl rfl kI rfl rfl .nil),?_⟩
 rfl
theorem j_mul(a:R2)(ha:GL 67108864 a)(b:R2)(hb:GL 67108864 b):jP Tryz.prog 196 [(jJ (kP a)),(jJ (kP b))] (jJ (kP (xI a b))):=by
 let y1:=(bx (jJ (jZ.mk (jQ (mnL (a.1*b.1) [(a.1*b.2),(a.2*b.1),(a.2*b.2)])) (jQ (mxL (a.1*b.1) [(a.1*b.2),(a.2*b.1),(a.2*b.2)])))))
 refine jI Tryz.func196 rfl cb196 rfl ?_
 show qJ _ _ _ _ ⟨[(0,(.d (jJ (kP a)))),(1,(.d (jJ (kP b))))],[]⟩
 refine jB<|kx [(2,(.ref 0 0)),(3,(.ref 1 0)),(4,(.ref 2 0))] [(0,some (bx (jJ (kP a)))),(1,some (bx (jJ (kP b)))),(2,some (bx (jJ (jZ.mk qH qH))))] (zN (vW 0)<|zN (vW 1)<|zN (uF 2 uH uR)<|zZ) ?_
 refine jB<|kx [(5,(.ref 3 0))] [(3,some y1)] (zR (kM kI)<|zR (kM kI)<|zE (jX (i_mul a.1 a.2 b.1 b.2 (qu ha.1) (qu ha.2.1) (qu hb.1) (qu hb.2.1) ha.2.2 hb.2.2))<|zM<|zE xD<|zE xD<|zN (uF 3 uH uR)<|zT (qK kI)<|zM<|zZ) ?_
 refine jB<|kx [] [(2,some y1)] (zR (kM kI)<|zT (qK kI)<|zZ) ?_
 refine jE ⟨_,(kN (cs:=y1) (d:=(jJ (jZ.mk (jQ (mnL (a.1*b.1) [(a.1*b.2),(a.2*b.1),(a.2*b.2)])) (jQ (mxL (a.1*b.1) [(a.1*b.2),(a.2*b.1),(a.2*b.2)]))))) rfl rfl kI rfl rfl .nil),?_⟩
 rfl
theorem j_sq(a:R2)(ha:GL 67108864 a):jP Tryz.prog 200 [(jJ (kP a))] (jJ (kP (gsq a))):=by
 refine jI Tryz.func200 rfl cb200 rfl ?_
 show qJ _ _ _ _ ⟨[(0,(.d (jJ (kP a))))],[]⟩
 refine jB<|kx [(1,(.ref 0 0)),(2,(.ref 1 0))] [(0,some (bx (jJ (kP a)))),(1,some (bx (jJ (jZ.mk qH qH))))] (zN (vW 0)<|zN (uF 1 uH uR)<|zZ) ?_
 refine jB<|kx [(3,(.ref 2 0))] [(2,some (bx (jJ (jZ.mk (jQ (sqL a.1 a.2)) (jQ (sqH a.1 a.2))))))] (zR (kM kI)<|zE (jX (i_square a.1 a.2 (qu ha.1) (qu ha.2.1) ha.2.2))<|zM<|zE xD<|zE xD<|zN (uF 2 uH uR)<|zT (qK kI)<|zM<|zZ) ?_
 refine jB<|kx [] [(1,some (bx (jJ (jZ.mk (jQ (sqL a.1 a.2)) (jQ (sqH a.1 a.2))))))] (zR (kM kI)<|zT (qK kI)<|zZ) ?_
 refine jE ⟨_,(kN (cs:=(bx (jJ (jZ.mk (jQ (sqL a.1 a.2)) (jQ (sqH a.1 a.2)))))) (d:=(jJ (jZ.mk (jQ (sqL a.1 a.2)) (jQ (sqH a.1 a.2))))) rfl rfl kI rfl rfl .nil),?_⟩
 rfl
theorem j_kids(o:Int):jP Tryz.prog 182 [(.val (.int .i64 (o)))] (.val (.int .i64 ((xS o)))):=by
 refine jI Tryz.func182 rfl cb182 rfl ?_
 show qJ _ _ _ _ ⟨[(0,(vi o))],[]⟩
 refine jB<|kx [] [] (zM<|zZ) ?_
 refine jB<|jB<|kx [(3,(vi o))] [] (zM<|zZ) ?_
 refine jH<|jB<|jB<|kx [(4,(vb (o == 0)))] [] (zE gD<|zM<|zZ) ?_
 refine jF (b:=(o == 0)) rfl (fun h1=>?_) (fun h1=>?_)
 ·replace h1:=eq_of_beq h1
  refine jD<|jF rfl (fun _=>?_) (fun h=>absurd (Eq.trans (Eq.symm (show ((o == 0))=true from beq_iff_eq.2 h1)) h) (by decide))
  refine jB<|kx [(2,(jR 0))] [] (zM<|zZ) ?_
  refine jE ⟨_,(.tmp (d:=(.val (.int .i64 (0)))) rfl .nil),?_⟩
  show jS.val (.int .i64 _)=_
  unfold xS;simp [*]
 ·replace h1:=ne_of_beq_false h1
  refine kx [(4,(vb (o == 1)))] [] (zE gD<|zM<|zZ) ?_
  refine jF (b:=(o == 1)) rfl (fun h2=>?_) (fun h2=>?_)
  ·replace h2:=eq_of_beq h2
   refine jB<|kx [(2,(jR 0))] [] (zM<|zZ) ?_
   refine jE ⟨_,(.tmp (d:=(.val (.int .i64 (0)))) rfl .nil),?_⟩
   show jS.val (.int .i64 _)=_
   unfold xS;simp [*]
  ·replace h2:=ne_of_beq_false h2
   refine jB<|jB<|kx [(7,(vb (o == 6)))] [] (zE gD<|zM<|zZ) ?_
   refine jF (b:=(o == 6)) rfl (fun h3=>?_) (fun h3=>?_)
   ·replace h3:=eq_of_beq h3
    refine jD<|jF rfl (fun _=>?_) (fun h=>absurd (Eq.trans (Eq.symm (show ((o == 6))=true from beq_iff_eq.2 h3)) h) (by decide))
    refine jB<|kx [(2,(jR 1))] [] (zM<|zZ) ?_
    refine jE ⟨_,(.tmp (d:=(.val (.int .i64 (1)))) rfl .nil),?_⟩
    show jS.val (.int .i64 _)=_
    unfold xS;simp [*]
   ·replace h3:=ne_of_beq_false h3
    refine kx [(7,(vb (o == 7)))] [] (zE gD<|zM<|zZ) ?_
    refine jF (b:=(o == 7)) rfl (fun h4=>?_) (fun h4=>?_)
    ·replace h4:=eq_of_beq h4
     refine jB<|kx [(2,(jR 1))] [] (zM<|zZ) ?_
     refine jE ⟨_,(.tmp (d:=(.val (.int .i64 (1)))) rfl .nil),?_⟩
     show jS.val (.int .i64 _)=_
     unfold xS;simp [*]
    ·replace h4:=ne_of_beq_false h4
     refine jB<|jB<|kx [(10,(vb (o == 2)))] [] (zE gD<|zM<|zZ) ?_
     refine jF (b:=(o == 2)) rfl (fun h5=>?_) (fun h5=>?_)
     ·replace h5:=eq_of_beq h5
      refine jD<|jF rfl (fun _=>?_) (fun h=>absurd (Eq.trans (Eq.symm (show ((o == 2))=true from beq_iff_eq.2 h5)) h) (by decide))
      refine jB<|kx [(2,(jR 2))] [] (zM<|zZ) ?_
      refine jE ⟨_,(.tmp (d:=(.val (.int .i64 (2)))) rfl .nil),?_⟩
      show jS.val (.int .i64 _)=_
      unfold xS;simp [*]
     ·replace h5:=ne_of_beq_false h5
      refine jB<|kx [(10,(vb (o == 3)))] [] (zE gD<|zM<|zZ) ?_
      refine jF (b:=(o == 3)) rfl (fun h6=>?_) (fun h6=>?_)
      ·replace h6:=eq_of_beq h6
       refine jD<|jF rfl (fun _=>?_) (fun h=>absurd (Eq.trans (Eq.symm (show ((o == 3))=true from beq_iff_eq.2 h6)) h) (by decide))
       refine jB<|kx [(2,(jR 2))] [] (zM<|zZ) ?_
       refine jE ⟨_,(.tmp (d:=(.val (.int .i64 (2)))) rfl .nil),?_⟩
       show jS.val (.int .i64 _)=_
       unfold xS;simp [*]
      ·replace h6:=ne_of_beq_false h6
       refine jB<|kx [(10,(vb (o == 4)))] [] (zE gD<|zM<|zZ) ?_
       refine jF (b:=(o == 4)) rfl (fun h7=>?_) (fun h7=>?_)
       ·replace h7:=eq_of_beq h7
        refine jD<|jF rfl (fun _=>?_) (fun h=>absurd (Eq.trans (Eq.symm (show ((o == 4))=true from beq_iff_eq.2 h7)) h) (by decide))
        refine jB<|kx [(2,(jR 2))] [] (zM<|zZ) ?_
        refine jE ⟨_,(.tmp (d:=(.val (.int .i64 (2)))) rfl .nil),?_⟩
        show jS.val (.int .i64 _)=_
        unfold xS;simp [*]
       ·replace h7:=ne_of_beq_false h7
        refine kx [(10,(vb (o == 5)))] [] (zE gD<|zM<|zZ) ?_
        refine jF (b:=(o == 5)) rfl (fun h8=>?_) (fun h8=>?_)
        ·replace h8:=eq_of_beq h8
         refine jB<|kx [(2,(jR 2))] [] (zM<|zZ) ?_
         refine jE ⟨_,(.tmp (d:=(.val (.int .i64 (2)))) rfl .nil),?_⟩
         show jS.val (.int .i64 _)=_
         unfold xS;simp [*]
        ·replace h8:=ne_of_beq_false h8
         refine jD<|jB<|kx [(2,(vi (-1)))] [] (zM<|zZ) ?_
         refine jE ⟨_,(.tmp (d:=(.val (.int .i64 (-1)))) rfl .nil),?_⟩
         show jS.val (.int .i64 _)=_
         unfold xS;simp [*]
theorem r_kids(o:Int):jP Tryz.prog 109 [(.val (.int .i64 (o)))] (.val (.int .i64 ((xS o)))):=by
 refine jI Tryz.func109 rfl cb109 rfl ?_
 show qJ _ _ _ _ ⟨[(0,(vi o))],[]⟩
 refine jB<|kx [] [] (zM<|zZ) ?_
 refine jB<|jB<|kx [(3,(vi o))] [] (zM<|zZ) ?_
 refine jH<|jB<|jB<|kx [(4,(vb (o == 0)))] [] (zE gD<|zM<|zZ) ?_
 refine jF (b:=(o == 0)) rfl (fun h1=>?_) (fun h1=>?_)
 ·replace h1:=eq_of_beq h1
  refine jD<|jF rfl (fun _=>?_) (fun h=>absurd (Eq.trans (Eq.symm (show ((o == 0))=true from beq_iff_eq.2 h1)) h) (by decide))
  refine jB<|kx [(2,(jR 0))] [] (zM<|zZ) ?_
  refine jE ⟨_,(.tmp (d:=(.val (.int .i64 (0)))) rfl .nil),?_⟩
  show jS.val (.int .i64 _)=_
  unfold xS;simp [*]
 ·replace h1:=ne_of_beq_false h1
  refine kx [(4,(vb (o == 1)))] [] (zE gD<|zM<|zZ) ?_
  refine jF (b:=(o == 1)) rfl (fun h2=>?_) (fun h2=>?_)
  ·replace h2:=eq_of_beq h2
   refine jB<|kx [(2,(jR 0))] [] (zM<|zZ) ?_
   refine jE ⟨_,(.tmp (d:=(.val (.int .i64 (0)))) rfl .nil),?_⟩
   show jS.val (.int .i64 _)=_
   unfold xS;simp [*]
  ·replace h2:=ne_of_beq_false h2
   refine jB<|jB<|kx [(7,(vb (o == 6)))] [] (zE gD<|zM<|zZ) ?_
   refine jF (b:=(o == 6)) rfl (fun h3=>?_) (fun h3=>?_)
   ·replace h3:=eq_of_beq h3
    refine jD<|jF rfl (fun _=>?_) (fun h=>absurd (Eq.trans (Eq.symm (show ((o == 6))=true from beq_iff_eq.2 h3)) h) (by decide))
    refine jB<|kx [(2,(jR 1))] [] (zM<|zZ) ?_
    refine jE ⟨_,(.tmp (d:=(.val (.int .i64 (1)))) rfl .nil),?_⟩
    show jS.val (.int .i64 _)=_
    unfold xS;simp [*]
   ·replace h3:=ne_of_beq_false h3
    refine kx [(7,(vb (o == 7)))] [] (zE gD<|zM<|zZ) ?_
    refine jF (b:=(o == 7)) rfl (fun h4=>?_) (fun h4=>?_)
    ·replace h4:=eq_of_beq h4
     refine jB<|kx [(2,(jR 1))] [] (zM<|zZ) ?_
     refine jE ⟨_,(.tmp (d:=(.val (.int .i64 (1)))) rfl .nil),?_⟩
     show jS.val (.int .i64 _)=_
     unfold xS;simp [*]
    ·replace h4:=ne_of_beq_false h4
     refine jB<|jB<|kx [(10,(vb (o == 2)))] [] (zE gD<|zM<|zZ) ?_
     refine jF (b:=(o == 2)) rfl (fun h5=>?_) (fun h5=>?_)
     ·replace h5:=eq_of_beq h5
      refine jD<|jF rfl (fun _=>?_) (fun h=>absurd (Eq.trans (Eq.symm (show ((o == 2))=true from beq_iff_eq.2 h5)) h) (by decide))
      refine jB<|kx [(2,(jR 2))] [] (zM<|zZ) ?_
      refine jE ⟨_,(.tmp (d:=(.val (.int .i64 (2)))) rfl .nil),?_⟩
      show jS.val (.int .i64 _)=_
      unfold xS;simp [*]
     ·replace h5:=ne_of_beq_false h5
      refine jB<|kx [(10,(vb (o == 3)))] [] (zE gD<|zM<|zZ) ?_
      refine jF (b:=(o == 3)) rfl (fun h6=>?_) (fun h6=>?_)
      ·replace h6:=eq_of_beq h6
       refine jD<|jF rfl (fun _=>?_) (fun h=>absurd (Eq.trans (Eq.symm (show ((o == 3))=true from beq_iff_eq.2 h6)) h) (by decide))
       refine jB<|kx [(2,(jR 2))] [] (zM<|zZ) ?_
       refine jE ⟨_,(.tmp (d:=(.val (.int .i64 (2)))) rfl .nil),?_⟩
       show jS.val (.int .i64 _)=_
       unfold xS;simp [*]
      ·replace h6:=ne_of_beq_false h6
       refine jB<|kx [(10,(vb (o == 4)))] [] (zE gD<|zM<|zZ) ?_
       refine jF (b:=(o == 4)) rfl (fun h7=>?_) (fun h7=>?_)
       ·replace h7:=eq_of_beq h7
        refine jD<|jF rfl (fun _=>?_) (fun h=>absurd (Eq.trans (Eq.symm (show ((o == 4))=true from beq_iff_eq.2 h7)) h) (by decide))
        refine jB<|kx [(2,(jR 2))] [] (zM<|zZ) ?_
        refine jE ⟨_,(.tmp (d:=(.val (.int .i64 (2)))) rfl .nil),?_⟩
        show jS.val (.int .i64 _)=_
        unfold xS;simp [*]
       ·replace h7:=ne_of_beq_false h7
        refine kx [(10,(vb (o == 5)))] [] (zE gD<|zM<|zZ) ?_
        refine jF (b:=(o == 5)) rfl (fun h8=>?_) (fun h8=>?_)
        ·replace h8:=eq_of_beq h8
         refine jB<|kx [(2,(jR 2))] [] (zM<|zZ) ?_
         refine jE ⟨_,(.tmp (d:=(.val (.int .i64 (2)))) rfl .nil),?_⟩
         show jS.val (.int .i64 _)=_
         unfold xS;simp [*]
        ·replace h8:=ne_of_beq_false h8
         refine jD<|jB<|kx [(2,(vi (-1)))] [] (zM<|zZ) ?_
         refine jE ⟨_,(.tmp (d:=(.val (.int .i64 (-1)))) rfl .nil),?_⟩
         show jS.val (.int .i64 _)=_
         unfold xS;simp [*]
theorem dN{L:List JV}{N n a:Nat}(h:∀ x∈L,mD N n x)(ha:a<L.length):mD N n (L.getD a jz):=by
 rw[List.getD_eq_getElem?_getD,List.getElem?_eq_getElem ha];exact h _ (List.getElem_mem _)
def yM(N:Nat)(t:List kW):Prop:=∀ x∈t,mI x.n (qM x.n) N
theorem tn_get{N:Nat}{t:List kW}(h:yM N t){k:Nat}(hk:k<t.length):mI (t.getD k tz).n (qM (t.getD k tz).n) N:=by
 rw[List.getD_eq_getElem?_getD,List.getElem?_eq_getElem hk];exact h _ (List.getElem_mem _)
theorem tn_up{M N:Nat}{t:List kW}(h:yM M t)(hm:M≤N):yM N t:=fun x hx=>jV (h x hx) hm
theorem j_unset(x:jN)(p:Rat)(hx:mI x p 1048576):jP Tryz.prog 210 [(jK x)] (.val (.bool ((unsB x)))):=by
 refine jI Tryz.func210 rfl cb210 rfl ?_
 show qJ _ _ _ _ ⟨[(0,(.d (jK x)))],[]⟩
 refine jB<|kx [(1,(.ref 0 0))] [(0,some (bx (jK x)))] (zN (vW 0)<|zM<|zZ) ?_
 refine jB<|kx [(2,(vb (((!x.num.neg&&!x.den.neg)&&(((x.num.gs.length:Nat):Int) == 0))&&(((x.den.gs.length:Nat):Int) == 0))))] [] ?_ ?_
 ·refine zE (qE zG)<|zE (qE vL)<|zR (uN aU)<|zE nY<|zE (oV (vb (!x.num.neg)) (kR (by kernel_rfl)))<|?_
  rcases hb1:(!x.num.neg) with _ | _
  ·exact zK<|zK<|zK<|zK<|zE xN<|zM<|zK<|zK<|zK<|zK<|zK<|zE xN<|zM<|zK<|zK<|zK<|zK<|zK<|zE xN<|zM<|zZ
  ·refine zE (qE xE)<|zE (qE vL)<|zR (uN aU)<|zE nY<|zE fM<|zE (oV (vb (true&&!x.den.neg)) (kR (by kernel_rfl)))<|?_
   rcases hb2:(true&&!x.den.neg) with _ | _
   ·exact zK<|zK<|zK<|zK<|zK<|zE xN<|zM<|zK<|zK<|zK<|zK<|zK<|zE xN<|zM<|zZ
   ·refine zE (qE zG)<|zE (qE vS)<|zR (uN xZ)<|zE (uE kK)<|zE gD<|zE fM<|zE (oV (vb (true&&(((x.num.gs.length:Nat):Int) == 0))) (kR (by kernel_rfl)))<|?_
    rcases hb3:(true&&(((x.num.gs.length:Nat):Int) == 0)) with _ | _
    ·exact zK<|zK<|zK<|zK<|zK<|zE xN<|zM<|zZ
    ·exact zE (qE xE)<|zE (qE vS)<|zR (uN xZ)<|zE (uE kK)<|zE gD<|zE fM<|zM<|zZ
 refine jE ⟨_,(.tmp (d:=(.val (.bool ((((!x.num.neg&&!x.den.neg)&&(((x.num.gs.length:Nat):Int) == 0))&&(((x.den.gs.length:Nat):Int) == 0)))))) rfl .nil),?_⟩
 rfl
theorem cb72:callB Tryz.prog 72=true:=by kernel_rfl
theorem cb127:callB Tryz.prog 127=true:=by kernel_rfl
theorem cb128:callB Tryz.prog 128=true:=by kernel_rfl
theorem cb129:callB Tryz.prog 129=true:=by kernel_rfl
theorem cb207:callB Tryz.prog 207=true:=by kernel_rfl
theorem cb208:callB Tryz.prog 208=true:=by kernel_rfl
theorem cb209:callB Tryz.prog 209=true:=by kernel_rfl
theorem cb245:callB Tryz.prog 245=true:=by kernel_rfl
theorem uV:vF Tryz.prog 34=some (24,1):=by kernel_rfl
theorem gB:qO Tryz.prog 24=some (false,1):=by kernel_rfl
theorem sh34:qO Tryz.prog 34=some (false,1):=by kernel_rfl
theorem m_can1(x:jN)(p:Rat)(hx:mI x p 1048576):jP Tryz.prog 209 [(jK x)] (.val (.bool ((!(kL x))))):=by
 refine jI Tryz.func209 rfl cb209 rfl ?_
 show qJ _ _ _ _ ⟨[(0,(.d (jK x)))],[]⟩
 refine jB<|kx [(1,(.ref 0 0))] [(0,some (bx (jK x)))] (zN (vW 0)<|zM<|zZ) ?_
 refine jB<|kx [(2,(vb (!(kL x))))] [] (zR (kM jT)<|zE (jX (cK x p (jV hx (by decide))))<|zE nY<|zM<|zZ) ?_
 refine jE ⟨_,(.tmp (d:=(.val (.bool (!(kL x))))) rfl .nil),?_⟩
 rfl
theorem m_canAI(l:List jN)(hl:uJ 1048576 l)(hb:l.length≤140737488355328):jP Tryz.prog 245 [(.sl 45 4 (List.map jK l)),(.val (.func (.func 209) #[] #[]))] (.val (.int .i64 ((aW (fun x=>!(kL x)) l 0)))):=by
 refine jI Tryz.func245 rfl cb245 rfl ?_
 show qJ _ _ _ _ ⟨[(0,(vl 45 4 jK l)),(1,(.d (.val (.func (.func 209) #[] #[]))))],[]⟩
 refine jB<|kx [] [] (zM<|zZ) ?_
 refine jB<|jB<|kx [(7,(jR l.length)),(8,(jR 0))] [] (zM<|zE (uE qY)<|zM<|zZ) ?_
 refine jH<|kB (α:=Nat) (fun k=>⟨[(0,(vl 45 4 jK l)),(1,(.d (.val (.func (.func 209) #[] #[])))),(7,(jR l.length)),(8,(jR k))],[]⟩) (fun k=>k≤l.length∧aW (fun x=>!(kL x)) l 0=aW (fun x=>!(kL x)) (l.drop k) k) (fun k=>l.length-k) 0 wk ⟨Nat.zero_le _,by rw[List.drop_zero]⟩ ?_
 rintro k ⟨hk,hv⟩
 refine jB<|kx [(9,(vb (decide (((k:Nat):Int)<((l.length:Nat):Int)))))] [] (zE xG<|zZ) ?_
 refine jB<|jF rfl (fun h1=>?_) (fun h1=>?_)
 ·replace h1:=uW h1
  refine jD<|jB<|jH<|jB<|kx [(5,(jR k))] [] (zM<|zM<|zZ) ?_
  refine jB<|kx [(16,(vb (!(kL (l.getD k qH)))))] [] (zM<|zM<|zM<|zE (xJ qY k qH)<|zE (nR jT)<|zE (jX (m_can1 (l.getD k qH) (qM (l.getD k qH)) (vM hl.1 (show k<l.length by omega))))<|zZ) ?_
  refine jF rfl (fun h2=>?_) (fun h2=>?_)
  ·have hix:=fst0_at (fun x=>!(kL x)) qH l k (by omega) h2
   refine jB<|kx [(4,(jR k))] [] (zM<|zM<|zZ) ?_
   refine jE ⟨_,(.tmp (d:=(.val (.int .i64 (((k:Nat):Int))))) rfl .nil),?_⟩
   rw[hv,hix];rfl
  ·have hix:=fst0_step (fun x=>!(kL x)) qH l k (by omega) h2
   refine jD<|kx [(8,(jR (k+1)))] [] (zE (vT (k+1))<|zM<|zZ) ?_
   exact ⟨(k+1),wk,⟨by omega,hv.trans hix⟩,(by omega)⟩
 ·replace h1:=uX h1
  have hix:=fst0_end (fun x=>!(kL x)) l k (by omega)
  refine kC<|jB<|kx [(4,(vi (-1)))] [] (zM<|zZ) ?_
  refine jE ⟨_,(.tmp (d:=(.val (.int .i64 (-1)))) rfl .nil),?_⟩
  rw[hv,hix];rfl
theorem m_canA(l:List jN)(hl:uJ 1048576 l)(hb:l.length≤140737488355328):jP Tryz.prog 208 [(.sl 45 4 (List.map jK l)),(.val (.func (.func 209) #[] #[]))] (.val (.bool ((l.any (fun x=>!(kL x)))))):=by
 refine jI Tryz.func208 rfl cb208 rfl ?_
 show qJ _ _ _ _ ⟨[(0,(vl 45 4 jK l)),(1,(.d (.val (.func (.func 209) #[] #[]))))],[]⟩
 refine jB<|kx [] [] (zM<|zZ) ?_
 refine jB<|kx [(4,(vb (decide (0≤(aW (fun x=>!(kL x)) l 0)))))] [] (zM<|zM<|zE (jX (m_canAI l hl hb))<|zE oGe<|zM<|zZ) ?_
 refine jE ⟨_,(.tmp (d:=(.val (.bool (decide (0≤(aW (fun x=>!(kL x)) l 0)))))) rfl .nil),?_⟩
 rw[fst0_any];rfl
theorem m_can(l:List jN)(hl:uJ 1048576 l)(hb:l.length≤140737488355328):jP Tryz.prog 129 [(.sl 45 4 (List.map jK l))] (.val (.bool ((yA l)))):=by
 refine jI Tryz.func129 rfl cb129 rfl ?_
 show qJ _ _ _ _ ⟨[(0,(vl 45 4 jK l))],[]⟩
 refine jB<|kx [] [] (zM<|zZ) ?_
 refine jB<|kx [(2,(vb (!(l.any (fun x=>!(kL x))))))] [] (zM<|zE (jX (m_canA l hl hb))<|zE nY<|zM<|zZ) ?_
 refine jE ⟨_,(.tmp (d:=(.val (.bool (!(l.any (fun x=>!(kL x))))))) rfl .nil),?_⟩
 rw[vRow_any];rfl
theorem m_chk1(l:List jN)(hl:uJ 1048576 l)(m:List (List jN))(hm:qS 1048576 m)(h0:0<m.length)(hlb:l.length≤140737488355328):jP Tryz.prog 128 [(.sl 45 4 (List.map jK l)),(.cptr 1000000 (jS.cells (.sl 24 1 (List.map jG m))) 0)] (.val (.bool ((zJ m l)))):=by
 have hmb:=hm.2
 have hrb:=(uL (d:=[]) hm h0).2
 refine jI Tryz.func128 rfl cb128 rfl ?_
 show qJ _ _ _ _ ⟨[(0,(vl 45 4 jK l)),(1,(.d (.cptr 1000000 (jS.cells (.sl 24 1 (List.map jG m))) 0)))],[]⟩
 refine jB<|kx [] [] (zM<|zZ) ?_
 refine jB<|kx [(3,(vb ((((l.length:Nat):Int) != (((m.getD 0 []).length:Nat):Int))||!(yA l))))] [] ?_ ?_
 ·refine zM<|zE (uE qY)<|zE (xO sh34)<|zE (xJ uV 0 ([]:List (jN)))<|zE (xO gB)<|zE (uE qY (L:=(m.getD 0 [])))<|zE mC<|zE (oV (vb (((l.length:Nat):Int) != (((m.getD 0 []).length:Nat):Int))) (kR (by kernel_rfl)))<|?_
  rcases hb1:(((l.length:Nat):Int) != (((m.getD 0 []).length:Nat):Int)) with _ | _
  ·replace hb1:=bne_eq_false_iff_eq.1 hb1
   exact zM<|zE (jX (m_can l hl hlb))<|zE nY<|zE cG<|zM<|zZ
  ·replace hb1:=bne_iff_ne.1 hb1
   exact zK<|zK<|zK<|zE xA<|zM<|zZ
 refine jE ⟨_,(.tmp (d:=(.val (.bool (((((l.length:Nat):Int) != (((m.getD 0 []).length:Nat):Int))||!(yA l)))))) rfl .nil),?_⟩
 rfl
theorem m_chkAI(l:List (List jN))(hl:qS 1048576 l)(m:List (List jN))(hm:qS 1048576 m)(hb:l.length≤140737488355328)(h0:0<m.length):jP Tryz.prog 207 [(.sl 24 1 (List.map jG l)),(.clo 128 [(.cptr 1000000 (jS.cells (.sl 24 1 (List.map jG m))) 0)])] (.val (.int .i64 ((aW (zJ m) l 0)))):=by
 refine jI Tryz.func207 rfl cb207 rfl ?_
 show qJ _ _ _ _ ⟨[(0,(vl 24 1 jG l)),(1,(.d (.clo 128 [(.cptr 1000000 (jS.cells (.sl 24 1 (List.map jG m))) 0)])))],[]⟩
 refine jB<|kx [] [] (zM<|zZ) ?_
 refine jB<|jB<|kx [(7,(jR l.length)),(8,(jR 0))] [] (zM<|zE (uE uV)<|zM<|zZ) ?_
 refine jH<|kB (α:=Nat) (fun k=>⟨[(0,(vl 24 1 jG l)),(1,(.d (.clo 128 [(.cptr 1000000 (jS.cells (.sl 24 1 (List.map jG m))) 0)]))),(7,(jR l.length)),(8,(jR k))],[]⟩) (fun k=>k≤l.length∧aW (zJ m) l 0=aW (zJ m) (l.drop k) k) (fun k=>l.length-k) 0 wk ⟨Nat.zero_le _,by rw[List.drop_zero]⟩ ?_
 rintro k ⟨hk,hv⟩
 refine jB<|kx [(9,(vb (decide (((k:Nat):Int)<((l.length:Nat):Int)))))] [] (zE xG<|zZ) ?_
 refine jB<|jF rfl (fun h1=>?_) (fun h1=>?_)
 ·replace h1:=uW h1
  have hrl:=(uL (d:=[]) hl (show k<l.length by omega)).2
  refine jD<|jB<|jH<|jB<|kx [(5,(jR k))] [] (zM<|zM<|zZ) ?_
  refine jB<|kx [(16,(vb (zJ m (l.getD k []))))] [] (zM<|zM<|zM<|zE (xJ uV k ([]:List (jN)))<|zE (xO gB)<|zE (oCd (ds:=[(.sl 45 4 (List.map jK (l.getD k [])))]) (caps:=[(.cptr 1000000 (jS.cells (.sl 24 1 (List.map jG m))) 0)]) (m_chk1 (l.getD k []) (uL (d:=[]) hl (show k<l.length by omega)) m hm h0 (by first | assumption | omega)))<|zZ) ?_
  refine jF (b:=(zJ m (l.getD k []))) rfl (fun h2=>?_) (fun h2=>?_)
  ·have hix:=fst0_at (zJ m) [] l k (by omega) h2
   refine jB<|kx [(4,(jR k))] [] (zM<|zM<|zZ) ?_
   refine jE ⟨_,(.tmp (d:=(.val (.int .i64 (((k:Nat):Int))))) rfl .nil),?_⟩
   rw[hv,hix];rfl
  ·have hix:=fst0_step (zJ m) [] l k (by omega) h2
   refine jD<|kx [(8,(jR (k+1)))] [] (zE (vT (k+1))<|zM<|zZ) ?_
   exact ⟨(k+1),wk,⟨by omega,hv.trans hix⟩,(by omega)⟩
 ·replace h1:=uX h1
  have hix:=fst0_end (zJ m) l k (by omega)
  refine kC<|jB<|kx [(4,(vi (-1)))] [] (zM<|zZ) ?_
  refine jE ⟨_,(.tmp (d:=(.val (.int .i64 (-1)))) rfl .nil),?_⟩
  rw[hv,hix];rfl
theorem m_chkA(l:List (List jN))(hl:qS 1048576 l)(m:List (List jN))(hm:qS 1048576 m)(hb:l.length≤140737488355328)(h0:0<m.length):jP Tryz.prog 127 [(.sl 24 1 (List.map jG l)),(.clo 128 [(.cptr 1000000 (jS.cells (.sl 24 1 (List.map jG m))) 0)])] (.val (.bool ((l.any (zJ m))))):=by
 refine jI Tryz.func127 rfl cb127 rfl ?_
 show qJ _ _ _ _ ⟨[(0,(vl 24 1 jG l)),(1,(.d (.clo 128 [(.cptr 1000000 (jS.cells (.sl 24 1 (List.map jG m))) 0)])))],[]⟩
 refine jB<|kx [] [] (zM<|zZ) ?_
 refine jB<|kx [(4,(vb (decide (0≤(aW (zJ m) l 0)))))] [] (zM<|zM<|zE (jX (m_chkAI l hl m hm hb h0))<|zE oGe<|zM<|zZ) ?_
 refine jE ⟨_,(.tmp (d:=(.val (.bool (decide (0≤(aW (zJ m) l 0)))))) rfl .nil),?_⟩
 rw[fst0_any];rfl
theorem m_chk(m:List (List jN))(hm:qS 1048576 m):jP Tryz.prog 72 [(.sl 24 1 (List.map jG m))] (.val (.int .i64 ((((yF m):Nat):Int)))):=by
 have hmb:=hm.2
 refine jI Tryz.func72 rfl cb72 rfl ?_
 show qJ _ _ _ _ ⟨[(0,(vl 24 1 jG m))],[]⟩
 refine jB<|kx [(1,(.ref 0 0))] [(0,some (bx (.sl 24 1 (List.map jG m))))] (zN (vW 0)<|zM<|zZ) ?_
 refine jB<|jB<|kx [(24,(vb (((decide (((m.length:Nat):Int)<1)||decide (64<((m.length:Nat):Int)))||decide ((((m.getD 0 []).length:Nat):Int)<1))||decide (64<(((m.getD 0 []).length:Nat):Int)))))] [] ?_ ?_
 ·refine zR (uN sh34)<|zE (uE uV)<|zE xG<|zE (oV (vb (decide (((m.length:Nat):Int)<1))) (kR (by kernel_rfl)))<|?_
  rcases hb1:(decide (((m.length:Nat):Int)<1)) with _ | _
  ·replace hb1:=uX hb1
   refine zR (uN sh34)<|zE (uE uV)<|zE mA<|zE cG<|zE (oV (vb (false||decide (64<((m.length:Nat):Int)))) (kR (by kernel_rfl)))<|?_
   rcases hb2:(false||decide (64<((m.length:Nat):Int))) with _ | _
   ·replace hb2:=uX (p:=(64<((m.length:Nat):Int))) hb2
    refine zR (uN sh34)<|zE (xJ uV 0 ([]:List (jN)))<|zE (xO gB)<|zE (uE qY (L:=(m.getD 0 [])))<|zE xG<|zE cG<|zE (oV (vb (false||decide ((((m.getD 0 []).length:Nat):Int)<1))) (kR (by kernel_rfl)))<|?_
    rcases hb3:(false||decide ((((m.getD 0 []).length:Nat):Int)<1)) with _ | _
    ·replace hb3:=uX (p:=((((m.getD 0 []).length:Nat):Int)<1)) hb3
     exact zR (uN sh34)<|zE (xJ uV 0 ([]:List (jN)))<|zE (xO gB)<|zE (uE qY (L:=(m.getD 0 [])))<|zE mA<|zE cG<|zZ
    ·replace hb3:=uW (p:=((((m.getD 0 []).length:Nat):Int)<1)) hb3
     exact zK<|zK<|zK<|zK<|zK<|zE xA<|zZ
   ·replace hb2:=uW (p:=(64<((m.length:Nat):Int))) hb2
    exact zK<|zK<|zK<|zK<|zK<|zE xA<|zM<|zK<|zK<|zK<|zK<|zK<|zE xA<|zZ
  ·replace hb1:=uW hb1
   exact zK<|zK<|zK<|zE xA<|zM<|zK<|zK<|zK<|zK<|zK<|zE xA<|zM<|zK<|zK<|zK<|zK<|zK<|zE xA<|zZ
 refine jF rfl (fun h4=>?_) (fun h4=>?_)
 ·refine jB<|kx [(2,(jR 1))] [] (zM<|zZ) ?_
  refine jE ⟨_,(.tmp (d:=(.val (.int .i64 (1)))) rfl .nil),?_⟩
  rw[mchk_1 h4];rfl
 ·have h0:=shp_0 h4
  refine jD<|jB<|jB<|kx [(27,(vb (m.any (zJ m))))] [] (zR (uN sh34)<|zE (oMf [0])<|zC (oCg [(0,(jS.cells (.sl 24 1 (List.map jG m))))] [(vl 24 1 jG m),(.clo 128 [0])] (m_chkA m hm m hm (by assumption) (by omega)) (.d (.c (css:=[(jS.cells (.sl 24 1 (List.map jG m)))]) (.cons (.head _) .nil) .nil)) (.val _))<|zZ) ?_
  refine jF (b:=(m.any (zJ m))) rfl (fun h5=>?_) (fun h5=>?_)
  ·refine jB<|kx [(2,(jR 1))] [] (zM<|zZ) ?_
   refine jE ⟨_,(.tmp (d:=(.val (.int .i64 (1)))) rfl .nil),?_⟩
   rw[mchk_2 h5];rfl
  ·refine jD<|jB<|kx [(2,(jR 0))] [] (zM<|zZ) ?_
   refine jE ⟨_,(.tmp (d:=(.val (.int .i64 (0)))) rfl .nil),?_⟩
   rw[mchk_3 h4 h5];rfl
theorem cb132:callB Tryz.prog 132=true:=by kernel_rfl
theorem cb213:callB Tryz.prog 213=true:=by kernel_rfl
theorem cb246:callB Tryz.prog 246=true:=by kernel_rfl
theorem m_dot(l:List jN)(hl:uJ 1048576 l)(m:List jN)(hm:uJ 1048576 m)(hlm:l.length=m.length)(hl4:l.length≤64):jP Tryz.prog 246 [(.sl 45 4 (List.map jK l)),(.sl 45 4 (List.map jK m))] (jK (jQ (bF l m))):=by
 have hlb:=hl.2
 have hmb:=hm.2
 let y1:=qH
 refine jI Tryz.func246 rfl cb246 rfl ?_
 show qJ _ _ _ _ ⟨[(0,(vl 45 4 jK l)),(1,(vl 45 4 jK m))],[]⟩
 refine jB<|kx [(4,(.ref 0 0))] [(0,some (bx (jK y1)))] (zN (uF 0 uG uQ)<|zZ) ?_
 refine jB<|kx [(5,(.ref 1 0))] [(1,some (bx (jK (jQ ((0:Int):Rat)))))] (zE (jX (f_whole 0 (by decide) (by decide)))<|zN (uF 1 uG uQ)<|zT (qK jT)<|zZ) ?_
 refine jB<|jB<|kx [(9,(vl 45 4 jK l)),(10,(jR l.length)),(11,(jR 0))] [] (zM<|zE (uE qY)<|zM<|zZ) ?_
 refine jH<|kB (α:=Nat × Rat) (fun (i,s)=>⟨[(1,(vl 45 4 jK m)),(4,(.ref 0 0)),(5,(.ref 1 0)),(9,(vl 45 4 jK l)),(10,(jR l.length)),(11,(jR i))],[(0,some (bx (jK y1))),(1,some (bx (jK (jQ s))))]⟩) (fun (i,s)=>i≤l.length∧s=eQ l m i) (fun (i,s)=>l.length-i) (0,0) wk ⟨Nat.zero_le _,rfl⟩ ?_
 rintro ⟨i,s⟩ ⟨hi,hs⟩
 have hql:QL s 134217800:=hs▸dot_ql1 hl hm (by omega)
 refine jB<|kx [(12,(vb (decide (((i:Nat):Int)<((l.length:Nat):Int)))))] [] (zE xG<|zZ) ?_
 refine jB<|jF rfl (fun h1=>?_) (fun h1=>?_)
 ·replace h1:=uW h1
  refine jD<|jB<|jH<|jB<|kx [(6,(jR i)),(7,(.ref 2 0))] [(2,some (bx (jK (l.getD i y1))))] (zM<|zE (xJ qY i y1)<|zE (nR jT)<|zN (uF 2 uG uQ)<|zM<|zT (qK jT)<|zZ) ?_
  refine jB<|kx [(26,(vb (((gI (qM (l.getD i y1))) != 0)&&((gI (qM (m.getD i y1))) != 0))))] [] ?_ ?_
  ·refine zR (kM jT)<|zE (jX (f_sign (l.getD i y1) (qM (l.getD i y1)) (jV (vM hl.1 (show i<l.length by omega)) (by decide))))<|zE mC<|zE (oV (vb ((gI (qM (l.getD i y1))) != 0)) (kR (by kernel_rfl)))<|?_
   rcases hb2:((gI (qM (l.getD i qH))) != 0) with _ | _
   ·replace hb2:=bne_eq_false_iff_eq.1 hb2
    exact zK<|zK<|zK<|zK<|zK<|zK<|zE xN<|zZ
   ·replace hb2:=bne_iff_ne.1 hb2
    exact zM<|zM<|zE (xJ qY i y1)<|zE (nR jT)<|zE (jX (f_sign (m.getD i y1) (qM (m.getD i y1)) (jV (vM hm.1 (show i<m.length by omega)) (by decide))))<|zE mC<|zE fM<|zZ
  refine jF rfl (fun h3=>?_) (fun h3=>?_)
  ·refine kd [] [(1,some (bx (jK (jQ (s+((qM (l.getD i y1))*(qM (m.getD i y1))))))))] mo (wR (kM jT)<|wR (kM jT)<|wM<|wM<|wE (xJ qY i y1)<|wE (nR jT)<|wE (jX (eN (l.getD i y1) (m.getD i y1) (qM (l.getD i y1)) (qM (m.getD i y1)) (jV (vM hl.1 (show i<l.length by omega)) (by decide)) (jV (vM hm.1 (show i<m.length by omega)) (by decide))))<|wE (jX (f_add (jQ s) (jQ ((qM (l.getD i y1))*(qM (m.getD i y1)))) s ((qM (l.getD i y1))*(qM (m.getD i y1))) (jV (kG hql) (by decide)) (jV (kG (qP (k:=2097152) (vM hl.1 (show i<l.length by omega)).ql (vM hm.1 (show i<m.length by omega)).ql (by decide))) (by decide))))<|wT (qK jT)<|wZ) ?_
   refine kx [(11,(jR (i+1)))] [] (zE (vT (i+1))<|zM<|zZ) ?_
   exact ⟨(i+1,s+(qM (l.getD i qH))*(qM (m.getD i qH))),wk,⟨by omega,by rw[hs];rfl⟩,(by first|omega|(dsimp only;omega))⟩
  ·refine jD<|kx [(11,(jR (i+1)))] [] (zE (vT (i+1))<|zM<|zZ) ?_
   exact ⟨(i+1,s),wk,⟨by omega,hs.trans (dotT_skip (dot_sk h3))⟩,(by first|omega|(dsimp only;omega))⟩
 ·replace h1:=uX h1
  refine kC<|jB<|kx [] [(0,some (bx (jK (jQ s))))] (zR (kM jT)<|zT (qK jT)<|zZ) ?_
  refine jE ⟨_,(kN (cs:=(bx (jK (jQ s)))) (d:=(jK (jQ s))) rfl rfl jT rfl rfl .nil),?_⟩
  obtain rfl:i=l.length:=by omega
  rw[hs];rfl
theorem m_Dot(l:List jN)(hl:uJ 1048576 l)(m:List jN)(hm:uJ 134217800 m)(hlm:l.length=m.length)(hl4:l.length≤64):jP Tryz.prog 132 [(.sl 45 4 (List.map jK l)),(.sl 45 4 (List.map jK m))] (.tup [(jK (jQ (bF l m))),(.val (.int .i64 (((0:Nat):Int))))]):=by
 have hlb:=hl.2
 have hmb:=hm.2
 let y1:=qH
 refine jI Tryz.func132 rfl cb132 rfl ?_
 show qJ _ _ _ _ ⟨[(0,(vl 45 4 jK l)),(1,(vl 45 4 jK m))],[]⟩
 refine jB<|kx [(4,(.ref 0 0))] [(0,some (bx (jK y1)))] (zN (uF 0 uG uQ)<|zM<|zZ) ?_
 refine jB<|jB<|kx [(13,(vb false))] [] (zM<|zE (uE qY)<|zM<|zE (uE qY)<|zE (vZ false mC (by exact bne_eq_false_iff_eq.2 (congrArg (fun z:Nat=>(z:Int)) hlm)))<|zZ) ?_
 refine kS ?_
 refine jD<|jB<|kx [(6,(.ref 1 0))] [(1,some (bx (jK (jQ ((0:Int):Rat)))))] (zE (jX (f_whole 0 (by decide) (by decide)))<|zN (uF 1 uG uQ)<|zT (qK jT)<|zZ) ?_
 refine jB<|jB<|kx [(16,(vl 45 4 jK l)),(17,(jR l.length)),(18,(jR 0))] [] (zM<|zE (uE qY)<|zM<|zZ) ?_
 refine jH<|kB (α:=Nat × Rat) (fun (i,s)=>⟨[(1,(vl 45 4 jK m)),(4,(.ref 0 0)),(6,(.ref 1 0)),(16,(vl 45 4 jK l)),(17,(jR l.length)),(18,(jR i))],[(0,some (bx (jK y1))),(1,some (bx (jK (jQ s))))]⟩) (fun (i,s)=>i≤l.length∧s=eQ l m i) (fun (i,s)=>l.length-i) (0,0) wk ⟨Nat.zero_le _,rfl⟩ ?_
 rintro ⟨i,s⟩ ⟨hi,hs⟩
 have hql:QL s 8800000000:=hs▸dot_ql2 hl hm (by omega)
 refine jB<|kx [(19,(vb (decide (((i:Nat):Int)<((l.length:Nat):Int)))))] [] (zE xG<|zZ) ?_
 refine jB<|jF rfl (fun h1=>?_) (fun h1=>?_)
 ·replace h1:=uW h1
  refine jD<|jB<|jH<|jB<|kx [(7,(jR i)),(8,(.ref 2 0))] [(2,some (bx (jK (l.getD i y1))))] (zM<|zE (xJ qY i y1)<|zE (nR jT)<|zN (uF 2 uG uQ)<|zM<|zT (qK jT)<|zZ) ?_
  refine kd [] [(1,some (bx (jK (jQ (s+((qM (l.getD i y1))*(qM (m.getD i y1))))))))] mo (wR (kM jT)<|wR (kM jT)<|wM<|wM<|wE (xJ qY i y1)<|wE (nR jT)<|wE (jX (eN (l.getD i y1) (m.getD i y1) (qM (l.getD i y1)) (qM (m.getD i y1)) (jV (vM hl.1 (show i<l.length by omega)) (by decide)) (jV (vM hm.1 (show i<m.length by omega)) (by decide))))<|wE (jX (f_add (jQ s) (jQ ((qM (l.getD i y1))*(qM (m.getD i y1)))) s ((qM (l.getD i y1))*(qM (m.getD i y1))) (jV (kG hql) (by decide)) (jV (kG (qP (k:=135266376) (vM hl.1 (show i<l.length by omega)).ql (vM hm.1 (show i<m.length by omega)).ql (by decide))) (by decide))))<|wT (qK jT)<|wZ) ?_
  refine kx [(18,(jR (i+1)))] [] (zE (vT (i+1))<|zM<|zZ) ?_
  exact ⟨(i+1,s+(qM (l.getD i qH))*(qM (m.getD i qH))),wk,⟨by omega,by rw[hs];rfl⟩,(by first|omega|(dsimp only;omega))⟩
 ·replace h1:=uX h1
  refine kC<|jB<|kx [(5,(jR 0))] [(0,some (bx (jK (jQ s))))] (zR (kM jT)<|zT (qK jT)<|zM<|zZ) ?_
  refine jE ⟨_,(kN (cs:=(bx (jK (jQ s)))) (d:=(jK (jQ s))) rfl rfl jT rfl rfl (.tmp (d:=(.val (.int .i64 (0)))) rfl .nil)),?_⟩
  obtain rfl:i=l.length:=by omega
  rw[hs];rfl
theorem m_app(m:List (List jN))(hm:qS 1048576 m)(v:List jN)(hv:uJ 1048576 v)(hc:∀ r∈m,r.length=v.length)(hv4:v.length≤64)(hm6:m.length≤64):jP Tryz.prog 213 [(.sl 24 1 (List.map jG m)),(.sl 45 4 (List.map jK v))] (.sl 45 4 (List.map jK (mE m v))):=by
 have hmb:=hm.2
 have hvb:=hv.2
 refine jI Tryz.func213 rfl cb213 rfl ?_
 show qJ _ _ _ _ ⟨[(0,(vl 24 1 jG m)),(1,(vl 45 4 jK v))],[]⟩
 refine jB<|kx [] [] (zE (cT 45 4)<|zZ) ?_
 refine jB<|kx [(5,(.own 0 45 4 0))] [(0,some (nD jK []))] (zO 0 45 4<|zZ) ?_
 refine jB<|jB<|kx [(8,(vl 24 1 jG m)),(9,(jR m.length)),(10,(jR 0))] [] (zM<|zE (uE uV)<|zM<|zZ) ?_
 refine jH<|kB (α:=Nat × List jN) (fun (i,o)=>⟨[(1,(vl 45 4 jK v)),(5,(.own 0 45 4 o.length)),(8,(vl 24 1 jG m)),(9,(jR m.length)),(10,(jR i))],[(0,some (nD jK o))]⟩) (fun (i,o)=>i≤m.length∧o=(m.take i).map (fun r=>jQ (bF r v))) (fun (i,o)=>m.length-i) (0,[]) wk ⟨Nat.zero_le _,by simp⟩ ?_
 rintro ⟨i,o⟩ ⟨hi,ho⟩
 have hol:o.length=i:=by rw[ho,List.length_map,List.length_take];omega
 refine jB<|kx [(11,(vb (decide (((i:Nat):Int)<((m.length:Nat):Int)))))] [] (zE xG<|zZ) ?_
 refine jB<|jF rfl (fun h1=>?_) (fun h1=>?_)
 ·replace h1:=uW h1
  have hcl:=mcol_at hc (show i<m.length by omega)
  refine jD<|jB<|jH<|jB<|kx [(7,(vl 45 4 jK (m.getD i [])))] [] (zE (xJ uV i ([]:List (jN)))<|zE (xO gB)<|zM<|zZ) ?_
  refine kf [(5,(.own 0 45 4 ((o++[(jQ (bF (m.getD i []) v))]).length)))] [(0,some (nD jK (o++[(jQ (bF (m.getD i []) v))])))] (zM<|zM<|zM<|zE (jX (m_dot (m.getD i []) (uL (d:=[]) hm (show i<m.length by omega)) v hv (by omega) (by omega)))<|zE (eC qY uG uQ)<|zAS jK o [(jQ (bF (m.getD i []) v))] rfl qY uG by45<|zM<|zF) ?_
  refine kx [(10,(jR (i+1)))] [] (zE (vT (i+1))<|zM<|zZ) ?_
  exact ⟨(i+1,o++[jQ (bF (m.getD i []) v)]),wk,⟨by omega,by rw[ho];exact appR_step (by omega)⟩,(by first|omega|(dsimp only;omega))⟩
 ·replace h1:=uX h1
  refine kC<|jB<|kx [(4,(.own 0 45 4 o.length))] [] (zM<|zM<|zZ) ?_
  refine kV (vN (t:=4) (k:=0) (es:=List.map jK o) rfl rfl (nL _ _ (fun _=>rfl)) (uT _ _ rfl) (mT jK o (fun _=>rfl) rfl)) ?_
  refine jE ⟨_,(.tmp (d:=(.sl 45 4 (List.map jK o))) rfl .nil),?_⟩
  rw[ho,show i=m.length by omega,List.take_length];rfl
theorem cb75:callB Tryz.prog 75=true:=by kernel_rfl
theorem cb131:callB Tryz.prog 131=true:=by kernel_rfl
theorem cb211:callB Tryz.prog 211=true:=by kernel_rfl
theorem cb212:callB Tryz.prog 212=true:=by kernel_rfl
theorem m_apl1(m:List (List jN))(hm:qS 1048576 m)(h0:0<m.length):jP Tryz.prog 212 [(.cptr 1000000 (jS.cells (.sl 24 1 (List.map jG m))) 0)] (.val (.int .i64 (((((m).getD 0 []).length:Nat):Int)))):=by
 have hmb:=hm.2
 have hrb:=(uL (d:=[]) hm h0).2
 refine jI Tryz.func212 rfl cb212 rfl ?_
 show qJ _ _ _ _ ⟨[(0,(.d (.cptr 1000000 (jS.cells (.sl 24 1 (List.map jG m))) 0)))],[]⟩
 refine jB<|kx [] [] (zM<|zZ) ?_
 refine jB<|kx [(1,(jR ((m.getD 0 []).length)))] [] (zE (xO sh34)<|zE (xJ uV 0 ([]:List (jN)))<|zE (xO gB)<|zE (uE qY (L:=(m.getD 0 [])))<|zM<|zZ) ?_
 refine jE ⟨_,(.tmp (d:=(.val (.int .i64 ((((m.getD 0 []).length:Nat):Int))))) rfl .nil),?_⟩
 rfl
theorem m_list(m:List (List jN))(hm:qS 1048576 m)(v:List jN)(hv:uJ 1048576 v)(q:List (List jN))(hq:qS 1048576 q)(hr:yI m m.length v.length)(hvv:yA v=true)(hq0:(q.getD 0 []).length=v.length)(hqm:0<q.length):jP Tryz.prog 211 [(.sl 24 1 (List.map jG m)),(.sl 45 4 (List.map jK v)),(.clo 212 [(.cptr 1000000 (jS.cells (.sl 24 1 (List.map jG q))) 0)])] (.val (.int .i64 (((0:Nat):Int)))):=by
 have hvb:=hv.2
 have hc0:=rect_chk hr
 have hmb:=hr.r64
 refine jI Tryz.func211 rfl cb211 rfl ?_
 show qJ _ _ _ _ ⟨[(0,(vl 24 1 jG m)),(1,(vl 45 4 jK v)),(2,(.d (.clo 212 [(.cptr 1000000 (jS.cells (.sl 24 1 (List.map jG q))) 0)])))],[]⟩
 refine jB<|kx [] [] (zM<|zZ) ?_
 refine jB<|jB<|kx [(7,(jR (yF m)))] [] (zM<|zE (jX (m_chk m hm))<|zM<|zZ) ?_
 refine jB<|kx [(11,(vb false))] [] (zM<|zE (vZ false mC (by exact bne_eq_false_iff_eq.2 (by rw[show (yF m)=0 from hc0]<;>rfl)))<|zZ) ?_
 refine kS ?_
 refine jD<|jB<|jB<|kx [(15,(vb false))] [] (zM<|zE (vZ true (jX (m_can v hv (by assumption))) (by exact hvv))<|zE nY<|zZ) ?_
 refine kS ?_
 refine jD<|jB<|jB<|kx [(20,(vb false))] [] (zM<|zE (uE qY)<|zM<|zE (oCd (ds:=[]) (caps:=[(.cptr 1000000 (jS.cells (.sl 24 1 (List.map jG q))) 0)]) (m_apl1 q hq hqm))<|zE (vZ false mC (by exact bne_eq_false_iff_eq.2 (congrArg (fun z:Nat=>(z:Int)) hq0.symm)))<|zZ) ?_
 refine kS ?_
 refine jD<|jB<|kx [(6,(jR 0))] [] (zM<|zZ) ?_
 refine jE ⟨_,(.tmp (d:=(.val (.int .i64 (((0:Nat):Int))))) rfl .nil),?_⟩
 rfl
theorem m_aply(m:List (List jN))(hm:qS 1048576 m)(v:List jN)(hv:uJ 1048576 v)(hr:yI m m.length v.length)(hvv:yA v=true):jP Tryz.prog 131 [(.sl 24 1 (List.map jG m)),(.sl 45 4 (List.map jK v))] (.tup [(.sl 45 4 (List.map jK (mE m v))),(.val (.int .i64 (((0:Nat):Int))))]):=by
 have hvb:=hv.2
 have hmb:=hr.r64
 have hm1:=hr.r1
 have hv64:=hr.c64
 have hq0:=(hr.at (i:=0) hm1).1
 refine jI Tryz.func131 rfl cb131 rfl ?_
 show qJ _ _ _ _ ⟨[(0,(vl 24 1 jG m)),(1,(vl 45 4 jK v))],[]⟩
 refine jB<|kx [(2,(.ref 0 0))] [(0,some (bx (.sl 24 1 (List.map jG m))))] (zN (vW 0)<|zE (cT 45 4)<|zM<|zZ) ?_
 refine jB<|jB<|kx [(6,(jR 0))] [] (zR (uN sh34)<|zM<|zE (oMf [0])<|zC (oCg [(0,(jS.cells (.sl 24 1 (List.map jG m))))] [(vl 24 1 jG m),(vl 45 4 jK v),(.clo 212 [0])] (m_list m hm v hv m hm hr hvv (by assumption) (by omega)) (.d (.d (.c (css:=[(jS.cells (.sl 24 1 (List.map jG m)))]) (.cons (.head _) .nil) .nil))) (.val _))<|zM<|zZ) ?_
 refine jB<|kx [(12,(vb false))] [] (zM<|zE (vZ false mC)<|zZ) ?_
 refine kS ?_
 refine jD<|jB<|kx [(4,(vl 45 4 jK (mE m v))),(5,(jR 0))] [] (zR (uN sh34)<|zM<|zE (jX (m_app m hm v hv (fun r h=>(hr.hc r h).1) (by omega) (by omega)))<|zM<|zM<|zZ) ?_
 refine jE ⟨_,(.tmp (d:=(.sl 45 4 (List.map jK (mE m v)))) rfl (.tmp (d:=(.val (.int .i64 (((0:Nat):Int))))) rfl .nil)),?_⟩
 rfl
theorem m_cov(m:List (List jN))(hm:qS 1048576 m)(a:List jN)(ha:uJ 1048576 a)(v:List jN)(hv:uJ 1048576 v)(hr:yI m m.length v.length)(hvv:yA v=true)(hal:a.length=m.length)(hvl:v.length=m.length):jP Tryz.prog 75 [(.sl 24 1 (List.map jG m)),(.sl 45 4 (List.map jK a)),(.sl 45 4 (List.map jK v))] (jK (jQ (dT m a v))):=by
 have hab:=ha.2
 have hvb:=hv.2
 have hmb:=hr.r64
 have hm1:=hr.r1
 have hv64:=hr.c64
 have hpl:=appR_len m v
 refine jI Tryz.func75 rfl cb75 rfl ?_
 show qJ _ _ _ _ ⟨[(0,(vl 24 1 jG m)),(1,(vl 45 4 jK a)),(2,(vl 45 4 jK v))],[]⟩
 refine jB<|kx [(6,(.ref 0 0))] [(0,some (bx (jK qH)))] (zN (uF 0 uG uQ)<|zZ) ?_
 refine jB<|kx [(7,(vl 45 4 jK (mE m v)))] [] (zM<|zM<|zE (jX (m_aply m hm v hv hr hvv))<|zM<|zE xD<|zE xD<|zM<|zM<|zZ) ?_
 refine jB<|kx [(9,(.ref 1 0))] [(1,some (bx (jK (jQ (bF a (mE m v))))))] (zM<|zM<|zE (jX (m_Dot a ha (mE m v) (appR_ok hm hv (mcol_le (fun r h=>(hr.hc r h).1) hr.c64)) (hal.trans hpl.symm) (by omega)))<|zM<|zE xD<|zE xD<|zN (uF 1 uG uQ)<|zT (qK jT)<|zM<|zZ) ?_
 refine jB<|kx [] [(0,some (bx (jK (jQ (bF a (mE m v))))))] (zR (kM jT)<|zT (qK jT)<|zZ) ?_
 refine jE ⟨_,(kN (cs:=(bx (jK (jQ (bF a (mE m v)))))) (d:=(jK (jQ (bF a (mE m v))))) rfl rfl jT rfl rfl .nil),?_⟩
 rfl
end Go.Proofs.YtnajallgoaiahaaGreatDoor
