/- Part 31 of a proof: rules, plain facts, and functions walked. -/
import Derived.Test.YtihgdjljnaekmaaGreatM29
import Derived.Test.YtihgdjljnaekmaaGreatM30
import Derived.Test.YtihgdjljnaekmaaGreatM22
namespace Go.Proofs.YtihgdjljnaekmaaGreat
open Go.Fid
set_option maxRecDepth 4000
set_option linter.unusedVariables false
set_option linter.unusedSimpArgs false
theorem cb101 : callB Tryz.prog 101 = true := by kernel_rfl
theorem el101 : uR Tryz.prog 101 = some (4, 1) := by kernel_rfl
theorem sh34 : kV Tryz.prog 34 = some (false, 1) := by kernel_rfl
theorem sh60 : kV Tryz.prog 60 = some (false, 1) := by kernel_rfl
theorem sh101 : kV Tryz.prog 101 = some (false, 1) := by kernel_rfl
theorem sh145 : kV Tryz.prog 145 = some (false, 1) := by kernel_rfl
theorem e_flwS (node : Nat) (kn : List Bool) (es : List jC) (out : List jB) (n f : Nat) (heo : vS n es) (hn : n ≤ 64) (hl2 : es.length ≤ 256) (hpr0 : FwPre n es (f + 1) node kn out) (ih : ∀ (node : Nat) (kn : List Bool) (out : List jB), FwPre n es f node kn out → aG Tryz.prog 101 [(jQ node), (.ref 0 0), (.ref 2 0), (.ref 3 0), (.ref 4 0), (.ref 6 0)] [(0, some [(.own 1 4 1 n)]), (1, some (bm uF kn)), (2, some (bx (.sl 3 1 (List.map jP (jO n es))))), (3, some (bx (.sl 56 6 (List.map jK es)))), (4, some [(.own 5 28 4 n)]), (5, some (xY jE out)), (6, some [(.clo 101 [0, 2, 3, 4, 6])])] (.d (.val (.int .i64 ((((yU es (jO n es) f node kn out).1 : Nat) : Int))))) [(0, some [(.own 1 4 1 n)]), (1, some (bm uF ((yU es (jO n es) f node kn out).2.1))), (2, some (bx (.sl 3 1 (List.map jP (jO n es))))), (3, some (bx (.sl 56 6 (List.map jK es)))), (4, some [(.own 5 28 4 n)]), (5, some (xY jE ((yU es (jO n es) f node kn out).2.2))), (6, some [(.clo 101 [0, 2, 3, 4, 6])])]) : aG Tryz.prog 101 [(jQ node), (.ref 0 0), (.ref 2 0), (.ref 3 0), (.ref 4 0), (.ref 6 0)] [(0, some [(.own 1 4 1 n)]), (1, some (bm uF kn)), (2, some (bx (.sl 3 1 (List.map jP (jO n es))))), (3, some (bx (.sl 56 6 (List.map jK es)))), (4, some [(.own 5 28 4 n)]), (5, some (xY jE out)), (6, some [(.clo 101 [0, 2, 3, 4, 6])])] (.d (.val (.int .i64 ((((yU es (jO n es) (f + 1) node kn out).1 : Nat) : Int))))) [(0, some [(.own 1 4 1 n)]), (1, some (bm uF ((yU es (jO n es) (f + 1) node kn out).2.1))), (2, some (bx (.sl 3 1 (List.map jP (jO n es))))), (3, some (bx (.sl 56 6 (List.map jK es)))), (4, some [(.own 5 28 4 n)]), (5, some (xY jE ((yU es (jO n es) (f + 1) node kn out).2.2))), (6, some [(.clo 101 [0, 2, 3, 4, 6])])] := by
 have h0 := FwIn_0 hpr0
 have hkl0 : kn.length = n := hpr0.fi.1
 have hnn : node < n := hpr0.nd
 have htl : (jO n es).length ≤ es.length := tTak_len _ _ _ _
 let y2 := (bx (.sl 56 6 (List.map jK es)))
 let y1 := (bx (.sl 3 1 (List.map jP (jO n es))))
 refine fn_introS Tryz.func101 rfl cb101 rfl ?_
 show qS _ _ _ _ ⟨[(0, (jQ node)), (1, (.ref 0 0)), (2, (.ref 2 0)), (3, (.ref 3 0)), (4, (.ref 4 0)), (5, (.ref 6 0))], [(0, some [(.own 1 4 1 n)]), (1, some (bm uF kn)), (2, some y1), (3, some y2), (4, some [(.own 5 28 4 n)]), (5, some (xY jE out)), (6, some [(.clo 101 [0, 2, 3, 4, 6])])]⟩
 refine jA <| kx [] [] (zM <| zZ) ?_
 refine jA <| kx [] [(1, some (bm uF (kn.set node true)))] (zR (kM sh101) <| zM <| zE (dT el101 node) <| zT (oSp cZ node true) <| zZ) ?_
 refine jA <| jA <| kx [(17, (vl 3 1 jP (jO n es))), (18, (jQ ((jO n es).length))), (19, (jQ 0))] [] (zR (kM sh60) <| zE (xA uT (L := (jO n es))) <| zM <| zZ) ?_
 refine jH <| kH (α := Nat × List Bool × List jB) (fun (k, kk, oo) => ⟨[(0, (jQ node)), (1, (.ref 0 0)), (2, (.ref 2 0)), (3, (.ref 3 0)), (4, (.ref 4 0)), (5, (.ref 6 0)), (17, (vl 3 1 jP (jO n es))), (18, (jQ ((jO n es).length))), (19, (jQ k))], [(0, some [(.own 1 4 1 n)]), (1, some (bm uF kk)), (2, some y1), (3, some y2), (4, some [(.own 5 28 4 n)]), (5, some (xY jE oo)), (6, some [(.clo 101 [0, 2, 3, 4, 6])])]⟩) (fun (k, kk, oo) => k ≤ (jO n es).length ∧ gP es (jO n es) (yU es (jO n es) f) node (kn.set node true) out k = (0, kk, oo) ∧ FwIn n es f node (kn.set node true) kk oo) (fun (k, kk, oo) => (jO n es).length - k) (0, (kn.set node true), out) wk ⟨Nat.zero_le _, rfl, h0⟩ ?_
 rintro ⟨k, kk, oo⟩ ⟨hk, hf, hi⟩
 have hkl : kk.length = n := hi.fi.1
 have hol : oo.length = n := hi.fi.2.1.1
 have hon := (hi.fi.2.1.at heo hnn (hi.fi.2.2 node hnn hi.nd)).1
 refine jA <| kx [(20, (vb (decide (((k : Nat) : Int) < (((jO n es).length : Nat) : Int)))))] [] (zE uP <| zZ) ?_
 refine jA <| jG rfl (fun h1 => ?_) (fun h1 => ?_)
 ·replace h1 := of_decide_eq_true h1
  obtain ⟨i_, hil, htm, him⟩ := tre_at (n := n) (es := es) (k := k) (by omega)
  have hix : i_ = ((jO n es).getD k 0).toNat := by rw [htm]; rfl
  subst hix
  have hei : EOkE n (es.getD ((jO n es).getD k 0).toNat (jC.mk 0 0 (jB.mk 0 0 0 0))) := mY heo hil
  obtain ⟨hei1, hei2, hei3, hei4, hei5, hei6⟩ := id hei
  refine jF <| jA <| jH <| jA <| kx [(9, (vi ((jO n es).getD k 0)))] [] (zE (yO uT k (0 : Int) (L := (jO n es))) <| zE (nB qA) <| zM <| zZ) ?_
  refine jA <| kx [(10, (.ref 7 0))] [(7, some (bx (jK (es.getD ((((jO n es).getD k 0)).toNat) (jC.mk 0 0 (jB.mk 0 0 0 0))))))] (zR (kM sh39) <| zM <| zE (yO gQ ((((jO n es).getD k 0)).toNat) (jC.mk 0 0 (jB.mk 0 0 0 0))) <| zE (eN hP) <| zH (uQ 7 fK zo56) <| zT (kZ hP) <| zZ) ?_
  refine jA <| kd [(11, (.ref 8 0)), (12, (vi ((es.getD ((((jO n es).getD k 0)).toNat) (jC.mk 0 0 (jB.mk 0 0 0 0))).fr))), (13, (jQ 0))] [(8, some (bx (jE ((es.getD ((((jO n es).getD k 0)).toNat) (jC.mk 0 0 (jB.mk 0 0 0 0))).turn))))] mo (wE (kQ fo56_2) <| wR (kT kK) <| wE (kQ vY) <| wR (kM qA) <| wH (hc := by kernel_rfl) (uQ 8 uY uZ) <| wT (kZ kK) <| wM <| wM <| wZ) ?_
  refine jA <| jA <| kx [(31, (jQ node))] [] (zM <| zZ) ?_
  refine jH <| jA <| kx [(32, (vb (((node : Nat) : Int) == (es.getD ((((jO n es).getD k 0)).toNat) (jC.mk 0 0 (jB.mk 0 0 0 0))).fr)))] [] (zE (kQ vY) <| zR (kM qA) <| zE gF <| zM <| zZ) ?_
  refine jG rfl (fun h2 => ?_) (fun h2 => ?_)
  ·replace h2 := eq_of_beq h2
   refine jA <| kx [(12, (vi ((es.getD ((((jO n es).getD k 0)).toNat) (jC.mk 0 0 (jB.mk 0 0 0 0))).to_)))] [] (zE (kQ xD) <| zR (kM qA) <| zM <| zZ) ?_
   refine kx [(13, (jQ (qC (uD ((es.getD ((((jO n es).getD k 0)).toNat) (jC.mk 0 0 (jB.mk 0 0 0 0))).turn)))))] [(8, some (bx (jE (qV (uD ((es.getD ((((jO n es).getD k 0)).toNat) (jC.mk 0 0 (jB.mk 0 0 0 0))).turn))))))] (zE (kQ fo56_2) <| zR (kT kK) <| zE (kD (l_conj ((es.getD ((((jO n es).getD k 0)).toNat) (jC.mk 0 0 (jB.mk 0 0 0 0))).turn) hei6)) <| zM <| zE qG <| zE qG <| zT (kZ kK) <| zM <| zZ) ?_
   refine jA <| jA <| kx [(51, (vb (kk.getD (((es.getD ((((jO n es).getD k 0)).toNat) (jC.mk 0 0 (jB.mk 0 0 0 0))).to_).toNat) false)))] [] (zR (kM sh101) <| zM <| zE (dT el101 (((es.getD ((((jO n es).getD k 0)).toNat) (jC.mk 0 0 (jB.mk 0 0 0 0))).to_).toNat)) <| zR (oLp cZ (((es.getD ((((jO n es).getD k 0)).toNat) (jC.mk 0 0 (jB.mk 0 0 0 0))).to_).toNat) (false : Bool)) <| zZ) ?_
   refine jG rfl (fun h3 => ?_) (fun h3 => ?_)
   ·refine jW <| kx [(19, (jQ (k + 1)))] [] (zE (qQ (k + 1)) <| zM <| zZ) ?_
    exact ⟨(k + 1, kk, oo), wk, ⟨by omega, (fP hf).trans (st_fk h2 h3), hi⟩, (by first | omega | (dsimp only; omega))⟩
   ·refine jF <| jA <| jA <| kx [(53, (vb true))] [] (zM <| zE (xH true gF (by exact beq_iff_eq.2 (by rw [show (qC (uD ((es.getD ((((jO n es).getD k 0)).toNat) (jC.mk 0 0 (jB.mk 0 0 0 0))).turn))) = 0 from (gL hei6)]; rfl))) <| zZ) ?_
    refine qM ?_
    refine kd [(13, (jQ (qC (kB (oo.getD node (jB.mk 0 0 0 0)) (qV (uD ((es.getD ((((jO n es).getD k 0)).toNat) (jC.mk 0 0 (jB.mk 0 0 0 0))).turn)))))))] [(5, some (xY jE (oo.set (((es.getD ((((jO n es).getD k 0)).toNat) (jC.mk 0 0 (jB.mk 0 0 0 0))).to_).toNat) (qV (kB (oo.getD node (jB.mk 0 0 0 0)) (qV (uD ((es.getD ((((jO n es).getD k 0)).toNat) (jC.mk 0 0 (jB.mk 0 0 0 0))).turn))))))))] mo (wR (kM sh34) <| wM <| wR (kM sh34) <| wM <| wE (oXO gH node) <| wR (oLA kK node (jB.mk 0 0 0 0)) <| wR (kT kK) <| wE (kD (l_mul (oo.getD node (jB.mk 0 0 0 0)) (qV (uD ((es.getD ((((jO n es).getD k 0)).toNat) (jC.mk 0 0 (jB.mk 0 0 0 0))).turn))) hon (gU (xK hei6.1) (gL hei6)))) <| wM <| wE qG <| wE qG <| wE (oXO gH (((es.getD ((((jO n es).getD k 0)).toNat) (jC.mk 0 0 (jB.mk 0 0 0 0))).to_).toNat)) <| wT (oSA kK (((es.getD ((((jO n es).getD k 0)).toNat) (jC.mk 0 0 (jB.mk 0 0 0 0))).to_).toNat) (qV (kB (oo.getD node (jB.mk 0 0 0 0)) (qV (uD ((es.getD ((((jO n es).getD k 0)).toNat) (jC.mk 0 0 (jB.mk 0 0 0 0))).turn)))))) <| wM <| wZ) ?_
    refine jA <| jA <| kx [(67, (vb ((((qC (kB (oo.getD node (jB.mk 0 0 0 0)) (qV (uD ((es.getD ((((jO n es).getD k 0)).toNat) (jC.mk 0 0 (jB.mk 0 0 0 0))).turn))))) : Nat) : Int) == ((0 : Nat) : Int))))] [] (zM <| zE gF <| zZ) ?_
    refine jG rfl (fun h4 => ?_) (fun h4 => ?_)
    ·replace h4 := eq_of_beq h4
     obtain ⟨hg1, hg2⟩ := hi.fi.put heo (nx := (es.getD ((jO n es).getD k 0).toNat (jC.mk 0 0 (jB.mk 0 0 0 0))).to_.toNat) (by omega) h3 (fwd_u heo hnn hi him hil h2) (show qC (kB (oo.getD node (jB.mk 0 0 0 0)) (qV (uD (es.getD ((jO n es).getD k 0).toNat (jC.mk 0 0 (jB.mk 0 0 0 0))).turn))) = 0 by omega)
     have hpr : FwPre n es f (es.getD ((jO n es).getD k 0).toNat (jC.mk 0 0 (jB.mk 0 0 0 0))).to_.toNat kk (oo.set (es.getD ((jO n es).getD k 0).toNat (jC.mk 0 0 (jB.mk 0 0 0 0))).to_.toNat (qV (kB (oo.getD node (jB.mk 0 0 0 0)) (qV (uD (es.getD ((jO n es).getD k 0).toNat (jC.mk 0 0 (jB.mk 0 0 0 0))).turn))))) := ⟨hg1, by omega, h3, hg2, hi.fuel⟩
     refine kf [(13, (jQ ((yU es (jO n es) f (((es.getD ((((jO n es).getD k 0)).toNat) (jC.mk 0 0 (jB.mk 0 0 0 0))).to_).toNat) kk (oo.set (((es.getD ((((jO n es).getD k 0)).toNat) (jC.mk 0 0 (jB.mk 0 0 0 0))).to_).toNat) (qV (kB (oo.getD node (jB.mk 0 0 0 0)) (qV (uD ((es.getD ((((jO n es).getD k 0)).toNat) (jC.mk 0 0 (jB.mk 0 0 0 0))).turn))))))).1)))] [(0, some [(.own 1 4 1 n)]), (1, some (bm uF ((yU es (jO n es) f (((es.getD ((((jO n es).getD k 0)).toNat) (jC.mk 0 0 (jB.mk 0 0 0 0))).to_).toNat) kk (oo.set (((es.getD ((((jO n es).getD k 0)).toNat) (jC.mk 0 0 (jB.mk 0 0 0 0))).to_).toNat) (qV (kB (oo.getD node (jB.mk 0 0 0 0)) (qV (uD ((es.getD ((((jO n es).getD k 0)).toNat) (jC.mk 0 0 (jB.mk 0 0 0 0))).turn))))))).2.1))), (2, some y1), (3, some y2), (4, some [(.own 5 28 4 n)]), (5, some (xY jE ((yU es (jO n es) f (((es.getD ((((jO n es).getD k 0)).toNat) (jC.mk 0 0 (jB.mk 0 0 0 0))).to_).toNat) kk (oo.set (((es.getD ((((jO n es).getD k 0)).toNat) (jC.mk 0 0 (jB.mk 0 0 0 0))).to_).toNat) (qV (kB (oo.getD node (jB.mk 0 0 0 0)) (qV (uD ((es.getD ((((jO n es).getD k 0)).toNat) (jC.mk 0 0 (jB.mk 0 0 0 0))).turn))))))).2.2))), (6, some [(.clo 101 [0, 2, 3, 4, 6])])] (zR (kM sh145) <| zE (oQd (.val (.int .i64 ((es.getD ((((jO n es).getD k 0)).toNat) (jC.mk 0 0 (jB.mk 0 0 0 0))).to_))) (.val (.int .i64 (((((es.getD ((((jO n es).getD k 0)).toNat) (jC.mk 0 0 (jB.mk 0 0 0 0))).to_).toNat : Nat) : Int)))) (oV (vi ((es.getD ((((jO n es).getD k 0)).toNat) (jC.mk 0 0 (jB.mk 0 0 0 0))).to_)) (kP (by kernel_rfl))) (by exact (congrArg (fun z => kE.val (.int .i64 z)) (by omega)))) <| zS (B2 := [(0, some [(.own 1 4 1 n)]), (1, some (bm uF kk)), (2, some y1), (3, some y2), (4, some [(.own 5 28 4 n)]), (5, some (xY jE (oo.set (((es.getD ((((jO n es).getD k 0)).toNat) (jC.mk 0 0 (jB.mk 0 0 0 0))).to_).toNat) (qV (kB (oo.getD node (jB.mk 0 0 0 0)) (qV (uD ((es.getD ((((jO n es).getD k 0)).toNat) (jC.mk 0 0 (jB.mk 0 0 0 0))).turn)))))))), (6, some [(.clo 101 [0, 2, 3, 4, 6])])]) (B2' := [(0, some [(.own 1 4 1 n)]), (1, some (bm uF ((yU es (jO n es) f (((es.getD ((((jO n es).getD k 0)).toNat) (jC.mk 0 0 (jB.mk 0 0 0 0))).to_).toNat) kk (oo.set (((es.getD ((((jO n es).getD k 0)).toNat) (jC.mk 0 0 (jB.mk 0 0 0 0))).to_).toNat) (qV (kB (oo.getD node (jB.mk 0 0 0 0)) (qV (uD ((es.getD ((((jO n es).getD k 0)).toNat) (jC.mk 0 0 (jB.mk 0 0 0 0))).turn))))))).2.1))), (2, some y1), (3, some y2), (4, some [(.own 5 28 4 n)]), (5, some (xY jE ((yU es (jO n es) f (((es.getD ((((jO n es).getD k 0)).toNat) (jC.mk 0 0 (jB.mk 0 0 0 0))).to_).toNat) kk (oo.set (((es.getD ((((jO n es).getD k 0)).toNat) (jC.mk 0 0 (jB.mk 0 0 0 0))).to_).toNat) (qV (kB (oo.getD node (jB.mk 0 0 0 0)) (qV (uD ((es.getD ((((jO n es).getD k 0)).toNat) (jC.mk 0 0 (jB.mk 0 0 0 0))).turn))))))).2.2))), (6, some [(.clo 101 [0, 2, 3, 4, 6])])]) (M := 1000000) [0, 1, 2, 3, 4, 5, 6] [0, 2, 3, 4, 6] (ih (((es.getD ((((jO n es).getD k 0)).toNat) (jC.mk 0 0 (jB.mk 0 0 0 0))).to_).toNat) kk (oo.set (((es.getD ((((jO n es).getD k 0)).toNat) (jC.mk 0 0 (jB.mk 0 0 0 0))).to_).toNat) (qV (kB (oo.getD node (jB.mk 0 0 0 0)) (qV (uD ((es.getD ((((jO n es).getD k 0)).toNat) (jC.mk 0 0 (jB.mk 0 0 0 0))).turn)))))) hpr) (.cons (by exact rfl) (by kernel_rfl) (.cons (by exact rfl) (ren_map _ _ _) (.cons (by exact rfl) (xJ _ _) (.cons (by exact rfl) (xJ _ _) (.cons (by exact rfl) (by kernel_rfl) (.cons (by exact rfl) (xJ _ _) (.cons (by exact rfl) (by kernel_rfl) .nil))))))) (.cons (by exact rfl) (by kernel_rfl) (.cons (by exact rfl) (ren_map _ _ _) (.cons (by exact rfl) (xJ _ _) (.cons (by exact rfl) (xJ _ _) (.cons (by exact rfl) (by kernel_rfl) (.cons (by exact rfl) (xJ _ _) (.cons (by exact rfl) (by kernel_rfl) .nil))))))) (by repeat first | exact .nil | refine .hid rfl ?_ | refine .map rfl ?_ | refine .dat rfl ?_ | refine .none rfl ?_ | refine .cells rfl rfl ?_) (ex := [.ref 0 0, .ref 2 0, .ref 3 0, .ref 4 0, .ref 6 0]) (hy := .clo (kk := [0, 2, 3, 4, 6]) (by kernel_rfl) (by kernel_rfl)) <| zM <| zF) ?_
     refine jA <| kx [(72, (vb ((((yU es (jO n es) f (((es.getD ((((jO n es).getD k 0)).toNat) (jC.mk 0 0 (jB.mk 0 0 0 0))).to_).toNat) kk (oo.set (((es.getD ((((jO n es).getD k 0)).toNat) (jC.mk 0 0 (jB.mk 0 0 0 0))).to_).toNat) (qV (kB (oo.getD node (jB.mk 0 0 0 0)) (qV (uD ((es.getD ((((jO n es).getD k 0)).toNat) (jC.mk 0 0 (jB.mk 0 0 0 0))).turn))))))).1 : Nat) : Int) != ((0 : Nat) : Int))))] [] (zM <| zE cG <| zZ) ?_
     refine jG rfl (fun h5 => ?_) (fun h5 => ?_)
     ·replace h5 := bne_iff_ne.1 h5
      refine jA <| kY (wk (l := [(0, (jQ node)), (1, (.ref 0 0)), (2, (.ref 2 0)), (3, (.ref 3 0)), (4, (.ref 4 0)), (5, (.ref 6 0)), (13, (jQ ((yU es (jO n es) f (((es.getD ((((jO n es).getD k 0)).toNat) (jC.mk 0 0 (jB.mk 0 0 0 0))).to_).toNat) kk (oo.set (((es.getD ((((jO n es).getD k 0)).toNat) (jC.mk 0 0 (jB.mk 0 0 0 0))).to_).toNat) (qV (kB (oo.getD node (jB.mk 0 0 0 0)) (qV (uD ((es.getD ((((jO n es).getD k 0)).toNat) (jC.mk 0 0 (jB.mk 0 0 0 0))).turn))))))).1))), (17, (vl 3 1 jP (jO n es))), (18, (jQ ((jO n es).length))), (19, (jQ k)), (72, (vb ((((yU es (jO n es) f (((es.getD ((((jO n es).getD k 0)).toNat) (jC.mk 0 0 (jB.mk 0 0 0 0))).to_).toNat) kk (oo.set (((es.getD ((((jO n es).getD k 0)).toNat) (jC.mk 0 0 (jB.mk 0 0 0 0))).to_).toNat) (qV (kB (oo.getD node (jB.mk 0 0 0 0)) (qV (uD ((es.getD ((((jO n es).getD k 0)).toNat) (jC.mk 0 0 (jB.mk 0 0 0 0))).turn))))))).1 : Nat) : Int) != ((0 : Nat) : Int))))]) (b := [(0, some [(.own 1 4 1 n)]), (1, some (bm uF ((yU es (jO n es) f (((es.getD ((((jO n es).getD k 0)).toNat) (jC.mk 0 0 (jB.mk 0 0 0 0))).to_).toNat) kk (oo.set (((es.getD ((((jO n es).getD k 0)).toNat) (jC.mk 0 0 (jB.mk 0 0 0 0))).to_).toNat) (qV (kB (oo.getD node (jB.mk 0 0 0 0)) (qV (uD ((es.getD ((((jO n es).getD k 0)).toNat) (jC.mk 0 0 (jB.mk 0 0 0 0))).turn))))))).2.1))), (2, some y1), (3, some y2), (4, some [(.own 5 28 4 n)]), (5, some (xY jE ((yU es (jO n es) f (((es.getD ((((jO n es).getD k 0)).toNat) (jC.mk 0 0 (jB.mk 0 0 0 0))).to_).toNat) kk (oo.set (((es.getD ((((jO n es).getD k 0)).toNat) (jC.mk 0 0 (jB.mk 0 0 0 0))).to_).toNat) (qV (kB (oo.getD node (jB.mk 0 0 0 0)) (qV (uD ((es.getD ((((jO n es).getD k 0)).toNat) (jC.mk 0 0 (jB.mk 0 0 0 0))).turn))))))).2.2))), (6, some [(.clo 101 [0, 2, 3, 4, 6])])])) ?_
      refine kx [(7, (jQ ((yU es (jO n es) f (((es.getD ((((jO n es).getD k 0)).toNat) (jC.mk 0 0 (jB.mk 0 0 0 0))).to_).toNat) kk (oo.set (((es.getD ((((jO n es).getD k 0)).toNat) (jC.mk 0 0 (jB.mk 0 0 0 0))).to_).toNat) (qV (kB (oo.getD node (jB.mk 0 0 0 0)) (qV (uD ((es.getD ((((jO n es).getD k 0)).toNat) (jC.mk 0 0 (jB.mk 0 0 0 0))).turn))))))).1)))] [] (zM <| zM <| zZ) ?_
      have hR : yU es (jO n es) (f + 1) node kn out = (yU es (jO n es) f (es.getD ((jO n es).getD k 0).toNat (jC.mk 0 0 (jB.mk 0 0 0 0))).to_.toNat kk (oo.set (es.getD ((jO n es).getD k 0).toNat (jC.mk 0 0 (jB.mk 0 0 0 0))).to_.toNat (qV (kB (oo.getD node (jB.mk 0 0 0 0)) (qV (uD (es.getD ((jO n es).getD k 0).toNat (jC.mk 0 0 (jB.mk 0 0 0 0))).turn)))))) := fwAt_end (k := k) (by omega) ((fP hf).trans ((st_f h2 h3).trans (if_pos (show qC (kB (oo.getD node (jB.mk 0 0 0 0)) (qV (uD (es.getD ((jO n es).getD k 0).toNat (jC.mk 0 0 (jB.mk 0 0 0 0))).turn))) = 0 by omega)))) (show _ ≠ 0 by first | omega | (dsimp only; omega))
      rw [hR]
      refine jI ⟨dE (by kernel_rfl), aF (by kernel_rfl), .inl ⟨_, (.tmp (d := (.val (.int .i64 ((((yU es (jO n es) f (((es.getD ((((jO n es).getD k 0)).toNat) (jC.mk 0 0 (jB.mk 0 0 0 0))).to_).toNat) kk (oo.set (((es.getD ((((jO n es).getD k 0)).toNat) (jC.mk 0 0 (jB.mk 0 0 0 0))).to_).toNat) (qV (kB (oo.getD node (jB.mk 0 0 0 0)) (qV (uD ((es.getD ((((jO n es).getD k 0)).toNat) (jC.mk 0 0 (jB.mk 0 0 0 0))).turn))))))).1 : Nat) : Int))))) rfl .nil), ?_⟩⟩
      rfl
     ·replace h5 := bne_eq_false_iff_eq.1 h5
      refine jF <| kY (wk (l := [(0, (jQ node)), (1, (.ref 0 0)), (2, (.ref 2 0)), (3, (.ref 3 0)), (4, (.ref 4 0)), (5, (.ref 6 0)), (13, (jQ ((yU es (jO n es) f (((es.getD ((((jO n es).getD k 0)).toNat) (jC.mk 0 0 (jB.mk 0 0 0 0))).to_).toNat) kk (oo.set (((es.getD ((((jO n es).getD k 0)).toNat) (jC.mk 0 0 (jB.mk 0 0 0 0))).to_).toNat) (qV (kB (oo.getD node (jB.mk 0 0 0 0)) (qV (uD ((es.getD ((((jO n es).getD k 0)).toNat) (jC.mk 0 0 (jB.mk 0 0 0 0))).turn))))))).1))), (17, (vl 3 1 jP (jO n es))), (18, (jQ ((jO n es).length))), (19, (jQ k)), (72, (vb ((((yU es (jO n es) f (((es.getD ((((jO n es).getD k 0)).toNat) (jC.mk 0 0 (jB.mk 0 0 0 0))).to_).toNat) kk (oo.set (((es.getD ((((jO n es).getD k 0)).toNat) (jC.mk 0 0 (jB.mk 0 0 0 0))).to_).toNat) (qV (kB (oo.getD node (jB.mk 0 0 0 0)) (qV (uD ((es.getD ((((jO n es).getD k 0)).toNat) (jC.mk 0 0 (jB.mk 0 0 0 0))).turn))))))).1 : Nat) : Int) != ((0 : Nat) : Int))))]) (b := [(0, some [(.own 1 4 1 n)]), (1, some (bm uF ((yU es (jO n es) f (((es.getD ((((jO n es).getD k 0)).toNat) (jC.mk 0 0 (jB.mk 0 0 0 0))).to_).toNat) kk (oo.set (((es.getD ((((jO n es).getD k 0)).toNat) (jC.mk 0 0 (jB.mk 0 0 0 0))).to_).toNat) (qV (kB (oo.getD node (jB.mk 0 0 0 0)) (qV (uD ((es.getD ((((jO n es).getD k 0)).toNat) (jC.mk 0 0 (jB.mk 0 0 0 0))).turn))))))).2.1))), (2, some y1), (3, some y2), (4, some [(.own 5 28 4 n)]), (5, some (xY jE ((yU es (jO n es) f (((es.getD ((((jO n es).getD k 0)).toNat) (jC.mk 0 0 (jB.mk 0 0 0 0))).to_).toNat) kk (oo.set (((es.getD ((((jO n es).getD k 0)).toNat) (jC.mk 0 0 (jB.mk 0 0 0 0))).to_).toNat) (qV (kB (oo.getD node (jB.mk 0 0 0 0)) (qV (uD ((es.getD ((((jO n es).getD k 0)).toNat) (jC.mk 0 0 (jB.mk 0 0 0 0))).turn))))))).2.2))), (6, some [(.clo 101 [0, 2, 3, 4, 6])])])) ?_
      refine kx [(19, (jQ (k + 1)))] [] (zE (qQ (k + 1)) <| zM <| zZ) ?_
      exact ⟨(k + 1, (yU es (jO n es) f (es.getD ((jO n es).getD k 0).toNat (jC.mk 0 0 (jB.mk 0 0 0 0))).to_.toNat kk (oo.set (es.getD ((jO n es).getD k 0).toNat (jC.mk 0 0 (jB.mk 0 0 0 0))).to_.toNat (qV (kB (oo.getD node (jB.mk 0 0 0 0)) (qV (uD (es.getD ((jO n es).getD k 0).toNat (jC.mk 0 0 (jB.mk 0 0 0 0))).turn)))))).2.1, (yU es (jO n es) f (es.getD ((jO n es).getD k 0).toNat (jC.mk 0 0 (jB.mk 0 0 0 0))).to_.toNat kk (oo.set (es.getD ((jO n es).getD k 0).toNat (jC.mk 0 0 (jB.mk 0 0 0 0))).to_.toNat (qV (kB (oo.getD node (jB.mk 0 0 0 0)) (qV (uD (es.getD ((jO n es).getD k 0).toNat (jC.mk 0 0 (jB.mk 0 0 0 0))).turn)))))).2.2), wk, ⟨by omega, (fP hf).trans ((st_f h2 h3).trans ((if_pos (show qC (kB (oo.getD node (jB.mk 0 0 0 0)) (qV (uD (es.getD ((jO n es).getD k 0).toNat (jC.mk 0 0 (jB.mk 0 0 0 0))).turn))) = 0 by omega)).trans (Prod.ext (show (yU es (jO n es) f (es.getD ((jO n es).getD k 0).toNat (jC.mk 0 0 (jB.mk 0 0 0 0))).to_.toNat kk (oo.set (es.getD ((jO n es).getD k 0).toNat (jC.mk 0 0 (jB.mk 0 0 0 0))).to_.toNat (qV (kB (oo.getD node (jB.mk 0 0 0 0)) (qV (uD (es.getD ((jO n es).getD k 0).toNat (jC.mk 0 0 (jB.mk 0 0 0 0))).turn)))))).1 = 0 by omega) rfl))), hi.next ((flw_ok heo f _ _ _ hpr).1 (show (yU es (jO n es) f (es.getD ((jO n es).getD k 0).toNat (jC.mk 0 0 (jB.mk 0 0 0 0))).to_.toNat kk (oo.set (es.getD ((jO n es).getD k 0).toNat (jC.mk 0 0 (jB.mk 0 0 0 0))).to_.toNat (qV (kB (oo.getD node (jB.mk 0 0 0 0)) (qV (uD (es.getD ((jO n es).getD k 0).toNat (jC.mk 0 0 (jB.mk 0 0 0 0))).turn)))))).1 = 0 by omega))⟩, (by first | omega | (dsimp only; omega))⟩
    ·replace h4 := ne_of_beq_false h4
     refine jF <| jA <| kx [(72, (vb true))] [] (zM <| zE (xH true cG (by exact bne_iff_ne.2 h4)) <| zZ) ?_
     refine qM ?_
     refine jA <| kx [(7, (jQ (qC (kB (oo.getD node (jB.mk 0 0 0 0)) (qV (uD ((es.getD ((((jO n es).getD k 0)).toNat) (jC.mk 0 0 (jB.mk 0 0 0 0))).turn)))))))] [] (zM <| zM <| zZ) ?_
     have hR : yU es (jO n es) (f + 1) node kn out = (qC (kB (oo.getD node (jB.mk 0 0 0 0)) (qV (uD (es.getD ((jO n es).getD k 0).toNat (jC.mk 0 0 (jB.mk 0 0 0 0))).turn))), kk, oo.set (es.getD ((jO n es).getD k 0).toNat (jC.mk 0 0 (jB.mk 0 0 0 0))).to_.toNat (qV (kB (oo.getD node (jB.mk 0 0 0 0)) (qV (uD (es.getD ((jO n es).getD k 0).toNat (jC.mk 0 0 (jB.mk 0 0 0 0))).turn))))) := fwAt_end (k := k) (by omega) ((fP hf).trans ((st_f h2 h3).trans (if_neg (show ¬ qC (kB (oo.getD node (jB.mk 0 0 0 0)) (qV (uD (es.getD ((jO n es).getD k 0).toNat (jC.mk 0 0 (jB.mk 0 0 0 0))).turn))) = 0 by omega)))) (show _ ≠ 0 by first | omega | (dsimp only; omega))
     rw [hR]
     refine jI ⟨dE (by kernel_rfl), aF (by kernel_rfl), .inl ⟨_, (.tmp (d := (.val (.int .i64 ((((qC (kB (oo.getD node (jB.mk 0 0 0 0)) (qV (uD ((es.getD ((((jO n es).getD k 0)).toNat) (jC.mk 0 0 (jB.mk 0 0 0 0))).turn))))) : Nat) : Int))))) rfl .nil), ?_⟩⟩
     rfl
  ·replace h2 := ne_of_beq_false h2
   refine jA <| kx [(44, (vb (((node : Nat) : Int) == (es.getD ((((jO n es).getD k 0)).toNat) (jC.mk 0 0 (jB.mk 0 0 0 0))).to_)))] [] (zE (kQ xD) <| zR (kM qA) <| zE gF <| zM <| zZ) ?_
   refine jG rfl (fun h6 => ?_) (fun h6 => ?_)
   ·replace h6 := eq_of_beq h6
    refine jF <| jA <| jA <| kx [(51, (vb (kk.getD (((es.getD ((((jO n es).getD k 0)).toNat) (jC.mk 0 0 (jB.mk 0 0 0 0))).fr).toNat) false)))] [] (zR (kM sh101) <| zM <| zE (dT el101 (((es.getD ((((jO n es).getD k 0)).toNat) (jC.mk 0 0 (jB.mk 0 0 0 0))).fr).toNat)) <| zR (oLp cZ (((es.getD ((((jO n es).getD k 0)).toNat) (jC.mk 0 0 (jB.mk 0 0 0 0))).fr).toNat) (false : Bool)) <| zZ) ?_
    refine jG rfl (fun h7 => ?_) (fun h7 => ?_)
    ·refine jW <| kx [(19, (jQ (k + 1)))] [] (zE (qQ (k + 1)) <| zM <| zZ) ?_
     exact ⟨(k + 1, kk, oo), wk, ⟨by omega, (fP hf).trans (st_bk h2 h6 h7), hi⟩, (by first | omega | (dsimp only; omega))⟩
    ·refine jF <| jA <| jA <| kx [(53, (vb true))] [] (zM <| zE (xH true gF) <| zZ) ?_
     refine qM ?_
     refine kd [(13, (jQ (qC (kB (oo.getD node (jB.mk 0 0 0 0)) ((es.getD ((((jO n es).getD k 0)).toNat) (jC.mk 0 0 (jB.mk 0 0 0 0))).turn)))))] [(5, some (xY jE (oo.set (((es.getD ((((jO n es).getD k 0)).toNat) (jC.mk 0 0 (jB.mk 0 0 0 0))).fr).toNat) (qV (kB (oo.getD node (jB.mk 0 0 0 0)) ((es.getD ((((jO n es).getD k 0)).toNat) (jC.mk 0 0 (jB.mk 0 0 0 0))).turn))))))] mo (wR (kM sh34) <| wM <| wR (kM sh34) <| wM <| wE (oXO gH node) <| wR (oLA kK node (jB.mk 0 0 0 0)) <| wR (kT kK) <| wE (kD (l_mul (oo.getD node (jB.mk 0 0 0 0)) ((es.getD ((((jO n es).getD k 0)).toNat) (jC.mk 0 0 (jB.mk 0 0 0 0))).turn) hon hei6)) <| wM <| wE qG <| wE qG <| wE (oXO gH (((es.getD ((((jO n es).getD k 0)).toNat) (jC.mk 0 0 (jB.mk 0 0 0 0))).fr).toNat)) <| wT (oSA kK (((es.getD ((((jO n es).getD k 0)).toNat) (jC.mk 0 0 (jB.mk 0 0 0 0))).fr).toNat) (qV (kB (oo.getD node (jB.mk 0 0 0 0)) ((es.getD ((((jO n es).getD k 0)).toNat) (jC.mk 0 0 (jB.mk 0 0 0 0))).turn)))) <| wM <| wZ) ?_
     refine jA <| jA <| kx [(67, (vb ((((qC (kB (oo.getD node (jB.mk 0 0 0 0)) ((es.getD ((((jO n es).getD k 0)).toNat) (jC.mk 0 0 (jB.mk 0 0 0 0))).turn))) : Nat) : Int) == ((0 : Nat) : Int))))] [] (zM <| zE gF <| zZ) ?_
     refine jG rfl (fun h8 => ?_) (fun h8 => ?_)
     ·replace h8 := eq_of_beq h8
      obtain ⟨hg1, hg2⟩ := hi.fi.put heo (nx := (es.getD ((jO n es).getD k 0).toNat (jC.mk 0 0 (jB.mk 0 0 0 0))).fr.toNat) (by omega) h7 (bwd_u heo hnn hi him hil h6) (show qC (kB (oo.getD node (jB.mk 0 0 0 0)) (es.getD ((jO n es).getD k 0).toNat (jC.mk 0 0 (jB.mk 0 0 0 0))).turn) = 0 by omega)
      have hpr : FwPre n es f (es.getD ((jO n es).getD k 0).toNat (jC.mk 0 0 (jB.mk 0 0 0 0))).fr.toNat kk (oo.set (es.getD ((jO n es).getD k 0).toNat (jC.mk 0 0 (jB.mk 0 0 0 0))).fr.toNat (qV (kB (oo.getD node (jB.mk 0 0 0 0)) (es.getD ((jO n es).getD k 0).toNat (jC.mk 0 0 (jB.mk 0 0 0 0))).turn))) := ⟨hg1, by omega, h7, hg2, hi.fuel⟩
      refine kf [(13, (jQ ((yU es (jO n es) f (((es.getD ((((jO n es).getD k 0)).toNat) (jC.mk 0 0 (jB.mk 0 0 0 0))).fr).toNat) kk (oo.set (((es.getD ((((jO n es).getD k 0)).toNat) (jC.mk 0 0 (jB.mk 0 0 0 0))).fr).toNat) (qV (kB (oo.getD node (jB.mk 0 0 0 0)) ((es.getD ((((jO n es).getD k 0)).toNat) (jC.mk 0 0 (jB.mk 0 0 0 0))).turn))))).1)))] [(0, some [(.own 1 4 1 n)]), (1, some (bm uF ((yU es (jO n es) f (((es.getD ((((jO n es).getD k 0)).toNat) (jC.mk 0 0 (jB.mk 0 0 0 0))).fr).toNat) kk (oo.set (((es.getD ((((jO n es).getD k 0)).toNat) (jC.mk 0 0 (jB.mk 0 0 0 0))).fr).toNat) (qV (kB (oo.getD node (jB.mk 0 0 0 0)) ((es.getD ((((jO n es).getD k 0)).toNat) (jC.mk 0 0 (jB.mk 0 0 0 0))).turn))))).2.1))), (2, some y1), (3, some y2), (4, some [(.own 5 28 4 n)]), (5, some (xY jE ((yU es (jO n es) f (((es.getD ((((jO n es).getD k 0)).toNat) (jC.mk 0 0 (jB.mk 0 0 0 0))).fr).toNat) kk (oo.set (((es.getD ((((jO n es).getD k 0)).toNat) (jC.mk 0 0 (jB.mk 0 0 0 0))).fr).toNat) (qV (kB (oo.getD node (jB.mk 0 0 0 0)) ((es.getD ((((jO n es).getD k 0)).toNat) (jC.mk 0 0 (jB.mk 0 0 0 0))).turn))))).2.2))), (6, some [(.clo 101 [0, 2, 3, 4, 6])])] (zR (kM sh145) <| zE (oQd (.val (.int .i64 ((es.getD ((((jO n es).getD k 0)).toNat) (jC.mk 0 0 (jB.mk 0 0 0 0))).fr))) (.val (.int .i64 (((((es.getD ((((jO n es).getD k 0)).toNat) (jC.mk 0 0 (jB.mk 0 0 0 0))).fr).toNat : Nat) : Int)))) (oV (vi ((es.getD ((((jO n es).getD k 0)).toNat) (jC.mk 0 0 (jB.mk 0 0 0 0))).fr)) (kP (by kernel_rfl))) (by exact (congrArg (fun z => kE.val (.int .i64 z)) (by omega)))) <| zS (B2 := [(0, some [(.own 1 4 1 n)]), (1, some (bm uF kk)), (2, some y1), (3, some y2), (4, some [(.own 5 28 4 n)]), (5, some (xY jE (oo.set (((es.getD ((((jO n es).getD k 0)).toNat) (jC.mk 0 0 (jB.mk 0 0 0 0))).fr).toNat) (qV (kB (oo.getD node (jB.mk 0 0 0 0)) ((es.getD ((((jO n es).getD k 0)).toNat) (jC.mk 0 0 (jB.mk 0 0 0 0))).turn)))))), (6, some [(.clo 101 [0, 2, 3, 4, 6])])]) (B2' := [(0, some [(.own 1 4 1 n)]), (1, some (bm uF ((yU es (jO n es) f (((es.getD ((((jO n es).getD k 0)).toNat) (jC.mk 0 0 (jB.mk 0 0 0 0))).fr).toNat) kk (oo.set (((es.getD ((((jO n es).getD k 0)).toNat) (jC.mk 0 0 (jB.mk 0 0 0 0))).fr).toNat) (qV (kB (oo.getD node (jB.mk 0 0 0 0)) ((es.getD ((((jO n es).getD k 0)).toNat) (jC.mk 0 0 (jB.mk 0 0 0 0))).turn))))).2.1))), (2, some y1), (3, some y2), (4, some [(.own 5 28 4 n)]), (5, some (xY jE ((yU es (jO n es) f (((es.getD ((((jO n es).getD k 0)).toNat) (jC.mk 0 0 (jB.mk 0 0 0 0))).fr).toNat) kk (oo.set (((es.getD ((((jO n es).getD k 0)).toNat) (jC.mk 0 0 (jB.mk 0 0 0 0))).fr).toNat) (qV (kB (oo.getD node (jB.mk 0 0 0 0)) ((es.getD ((((jO n es).getD k 0)).toNat) (jC.mk 0 0 (jB.mk 0 0 0 0))).turn))))).2.2))), (6, some [(.clo 101 [0, 2, 3, 4, 6])])]) (M := 1000000) [0, 1, 2, 3, 4, 5, 6] [0, 2, 3, 4, 6] (ih (((es.getD ((((jO n es).getD k 0)).toNat) (jC.mk 0 0 (jB.mk 0 0 0 0))).fr).toNat) kk (oo.set (((es.getD ((((jO n es).getD k 0)).toNat) (jC.mk 0 0 (jB.mk 0 0 0 0))).fr).toNat) (qV (kB (oo.getD node (jB.mk 0 0 0 0)) ((es.getD ((((jO n es).getD k 0)).toNat) (jC.mk 0 0 (jB.mk 0 0 0 0))).turn)))) hpr) (.cons (by exact rfl) (by kernel_rfl) (.cons (by exact rfl) (ren_map _ _ _) (.cons (by exact rfl) (xJ _ _) (.cons (by exact rfl) (xJ _ _) (.cons (by exact rfl) (by kernel_rfl) (.cons (by exact rfl) (xJ _ _) (.cons (by exact rfl) (by kernel_rfl) .nil))))))) (.cons (by exact rfl) (by kernel_rfl) (.cons (by exact rfl) (ren_map _ _ _) (.cons (by exact rfl) (xJ _ _) (.cons (by exact rfl) (xJ _ _) (.cons (by exact rfl) (by kernel_rfl) (.cons (by exact rfl) (xJ _ _) (.cons (by exact rfl) (by kernel_rfl) .nil))))))) (by repeat first | exact .nil | refine .hid rfl ?_ | refine .map rfl ?_ | refine .dat rfl ?_ | refine .none rfl ?_ | refine .cells rfl rfl ?_) (ex := [.ref 0 0, .ref 2 0, .ref 3 0, .ref 4 0, .ref 6 0]) (hy := .clo (kk := [0, 2, 3, 4, 6]) (by kernel_rfl) (by kernel_rfl)) <| zM <| zF) ?_
      refine jA <| kx [(72, (vb ((((yU es (jO n es) f (((es.getD ((((jO n es).getD k 0)).toNat) (jC.mk 0 0 (jB.mk 0 0 0 0))).fr).toNat) kk (oo.set (((es.getD ((((jO n es).getD k 0)).toNat) (jC.mk 0 0 (jB.mk 0 0 0 0))).fr).toNat) (qV (kB (oo.getD node (jB.mk 0 0 0 0)) ((es.getD ((((jO n es).getD k 0)).toNat) (jC.mk 0 0 (jB.mk 0 0 0 0))).turn))))).1 : Nat) : Int) != ((0 : Nat) : Int))))] [] (zM <| zE cG <| zZ) ?_
      refine jG rfl (fun h9 => ?_) (fun h9 => ?_)
      ·replace h9 := bne_iff_ne.1 h9
       refine jA <| kx [(7, (jQ ((yU es (jO n es) f (((es.getD ((((jO n es).getD k 0)).toNat) (jC.mk 0 0 (jB.mk 0 0 0 0))).fr).toNat) kk (oo.set (((es.getD ((((jO n es).getD k 0)).toNat) (jC.mk 0 0 (jB.mk 0 0 0 0))).fr).toNat) (qV (kB (oo.getD node (jB.mk 0 0 0 0)) ((es.getD ((((jO n es).getD k 0)).toNat) (jC.mk 0 0 (jB.mk 0 0 0 0))).turn))))).1)))] [] (zM <| zM <| zZ) ?_
       have hR : yU es (jO n es) (f + 1) node kn out = (yU es (jO n es) f (es.getD ((jO n es).getD k 0).toNat (jC.mk 0 0 (jB.mk 0 0 0 0))).fr.toNat kk (oo.set (es.getD ((jO n es).getD k 0).toNat (jC.mk 0 0 (jB.mk 0 0 0 0))).fr.toNat (qV (kB (oo.getD node (jB.mk 0 0 0 0)) (es.getD ((jO n es).getD k 0).toNat (jC.mk 0 0 (jB.mk 0 0 0 0))).turn)))) := fwAt_end (k := k) (by omega) ((fP hf).trans ((st_b h2 h6 h7).trans (if_pos (show qC (kB (oo.getD node (jB.mk 0 0 0 0)) (es.getD ((jO n es).getD k 0).toNat (jC.mk 0 0 (jB.mk 0 0 0 0))).turn) = 0 by omega)))) (show _ ≠ 0 by first | omega | (dsimp only; omega))
       rw [hR]
       refine jI ⟨dE (by kernel_rfl), aF (by kernel_rfl), .inl ⟨_, (.tmp (d := (.val (.int .i64 ((((yU es (jO n es) f (((es.getD ((((jO n es).getD k 0)).toNat) (jC.mk 0 0 (jB.mk 0 0 0 0))).fr).toNat) kk (oo.set (((es.getD ((((jO n es).getD k 0)).toNat) (jC.mk 0 0 (jB.mk 0 0 0 0))).fr).toNat) (qV (kB (oo.getD node (jB.mk 0 0 0 0)) ((es.getD ((((jO n es).getD k 0)).toNat) (jC.mk 0 0 (jB.mk 0 0 0 0))).turn))))).1 : Nat) : Int))))) rfl .nil), ?_⟩⟩
       rfl
      ·replace h9 := bne_eq_false_iff_eq.1 h9
       refine jF <| kx [(19, (jQ (k + 1)))] [] (zE (qQ (k + 1)) <| zM <| zZ) ?_
       exact ⟨(k + 1, (yU es (jO n es) f (es.getD ((jO n es).getD k 0).toNat (jC.mk 0 0 (jB.mk 0 0 0 0))).fr.toNat kk (oo.set (es.getD ((jO n es).getD k 0).toNat (jC.mk 0 0 (jB.mk 0 0 0 0))).fr.toNat (qV (kB (oo.getD node (jB.mk 0 0 0 0)) (es.getD ((jO n es).getD k 0).toNat (jC.mk 0 0 (jB.mk 0 0 0 0))).turn)))).2.1, (yU es (jO n es) f (es.getD ((jO n es).getD k 0).toNat (jC.mk 0 0 (jB.mk 0 0 0 0))).fr.toNat kk (oo.set (es.getD ((jO n es).getD k 0).toNat (jC.mk 0 0 (jB.mk 0 0 0 0))).fr.toNat (qV (kB (oo.getD node (jB.mk 0 0 0 0)) (es.getD ((jO n es).getD k 0).toNat (jC.mk 0 0 (jB.mk 0 0 0 0))).turn)))).2.2), wk, ⟨by omega, (fP hf).trans ((st_b h2 h6 h7).trans ((if_pos (show qC (kB (oo.getD node (jB.mk 0 0 0 0)) (es.getD ((jO n es).getD k 0).toNat (jC.mk 0 0 (jB.mk 0 0 0 0))).turn) = 0 by omega)).trans (Prod.ext (show (yU es (jO n es) f (es.getD ((jO n es).getD k 0).toNat (jC.mk 0 0 (jB.mk 0 0 0 0))).fr.toNat kk (oo.set (es.getD ((jO n es).getD k 0).toNat (jC.mk 0 0 (jB.mk 0 0 0 0))).fr.toNat (qV (kB (oo.getD node (jB.mk 0 0 0 0)) (es.getD ((jO n es).getD k 0).toNat (jC.mk 0 0 (jB.mk 0 0 0 0))).turn)))).1 = 0 by omega) rfl))), hi.next ((flw_ok heo f _ _ _ hpr).1 (show (yU es (jO n es) f (es.getD ((jO n es).getD k 0).toNat (jC.mk 0 0 (jB.mk 0 0 0 0))).fr.toNat kk (oo.set (es.getD ((jO n es).getD k 0).toNat (jC.mk 0 0 (jB.mk 0 0 0 0))).fr.toNat (qV (kB (oo.getD node (jB.mk 0 0 0 0)) (es.getD ((jO n es).getD k 0).toNat (jC.mk 0 0 (jB.mk 0 0 0 0))).turn)))).1 = 0 by omega))⟩, (by first | omega | (dsimp only; omega))⟩
     ·replace h8 := ne_of_beq_false h8
      refine jF <| jA <| kx [(72, (vb true))] [] (zM <| zE (xH true cG (by exact bne_iff_ne.2 h8)) <| zZ) ?_
      refine qM ?_
      refine jA <| kx [(7, (jQ (qC (kB (oo.getD node (jB.mk 0 0 0 0)) ((es.getD ((((jO n es).getD k 0)).toNat) (jC.mk 0 0 (jB.mk 0 0 0 0))).turn)))))] [] (zM <| zM <| zZ) ?_
      have hR : yU es (jO n es) (f + 1) node kn out = (qC (kB (oo.getD node (jB.mk 0 0 0 0)) (es.getD ((jO n es).getD k 0).toNat (jC.mk 0 0 (jB.mk 0 0 0 0))).turn), kk, oo.set (es.getD ((jO n es).getD k 0).toNat (jC.mk 0 0 (jB.mk 0 0 0 0))).fr.toNat (qV (kB (oo.getD node (jB.mk 0 0 0 0)) (es.getD ((jO n es).getD k 0).toNat (jC.mk 0 0 (jB.mk 0 0 0 0))).turn))) := fwAt_end (k := k) (by omega) ((fP hf).trans ((st_b h2 h6 h7).trans (if_neg (show ¬ qC (kB (oo.getD node (jB.mk 0 0 0 0)) (es.getD ((jO n es).getD k 0).toNat (jC.mk 0 0 (jB.mk 0 0 0 0))).turn) = 0 by omega)))) (show _ ≠ 0 by first | omega | (dsimp only; omega))
      rw [hR]
      refine jI ⟨dE (by kernel_rfl), aF (by kernel_rfl), .inl ⟨_, (.tmp (d := (.val (.int .i64 ((((qC (kB (oo.getD node (jB.mk 0 0 0 0)) ((es.getD ((((jO n es).getD k 0)).toNat) (jC.mk 0 0 (jB.mk 0 0 0 0))).turn))) : Nat) : Int))))) rfl .nil), ?_⟩⟩
      rfl
   ·replace h6 := ne_of_beq_false h6
    refine jW <| kx [(19, (jQ (k + 1)))] [] (zE (qQ (k + 1)) <| zM <| zZ) ?_
    exact ⟨(k + 1, kk, oo), wk, ⟨by omega, (fP hf).trans (st_none h2 h6), hi⟩, (by first | omega | (dsimp only; omega))⟩
 ·replace h1 := of_decide_eq_false h1
  refine jW <| jA <| kx [(7, (jQ 0))] [] (zM <| zZ) ?_
  have hR : yU es (jO n es) (f + 1) node kn out = (0, kk, oo) := by show gP _ _ _ _ _ _ _ = _; rw [← show k = (jO n es).length by omega]; exact hf
  rw [hR]
  refine jI ⟨dE (by kernel_rfl), aF (by kernel_rfl), .inl ⟨_, (.tmp (d := (.val (.int .i64 (((0 : Nat) : Int))))) rfl .nil), ?_⟩⟩
  rfl
theorem e_flwA (n : Nat) (es : List jC) (heo : vS n es) (hn : n ≤ 64) (hl2 : es.length ≤ 256) : ∀ (f node : Nat) (kn : List Bool) (out : List jB), FwPre n es f node kn out → aG Tryz.prog 101 [(jQ node), (.ref 0 0), (.ref 2 0), (.ref 3 0), (.ref 4 0), (.ref 6 0)] [(0, some [(.own 1 4 1 n)]), (1, some (bm uF kn)), (2, some (bx (.sl 3 1 (List.map jP (jO n es))))), (3, some (bx (.sl 56 6 (List.map jK es)))), (4, some [(.own 5 28 4 n)]), (5, some (xY jE out)), (6, some [(.clo 101 [0, 2, 3, 4, 6])])] (.d (.val (.int .i64 ((((yU es (jO n es) f node kn out).1 : Nat) : Int))))) [(0, some [(.own 1 4 1 n)]), (1, some (bm uF ((yU es (jO n es) f node kn out).2.1))), (2, some (bx (.sl 3 1 (List.map jP (jO n es))))), (3, some (bx (.sl 56 6 (List.map jK es)))), (4, some [(.own 5 28 4 n)]), (5, some (xY jE ((yU es (jO n es) f node kn out).2.2))), (6, some [(.clo 101 [0, 2, 3, 4, 6])])]
 | 0, node, kn, out, h => by
  exfalso
  have hl : node < kn.length := by rw [h.fi.1]; exact h.nd
  have := uk_set hl h.un
  have := h.fuel
  omega
 | f + 1, node, kn, out, h => e_flwS node kn es out n f heo hn hl2 h (fun nd k o hp => e_flwA n es heo hn hl2 f nd k o hp)
theorem e_flw (node : Nat) (kn : List Bool) (es : List jC) (out : List jB) (n f : Nat) (heo : vS n es) (hn : n ≤ 64) (hl2 : es.length ≤ 256) (hpr : FwPre n es f node kn out) : aG Tryz.prog 101 [(jQ node), (.ref 0 0), (.ref 2 0), (.ref 3 0), (.ref 4 0), (.ref 6 0)] [(0, some [(.own 1 4 1 n)]), (1, some (bm uF kn)), (2, some (bx (.sl 3 1 (List.map jP (jO n es))))), (3, some (bx (.sl 56 6 (List.map jK es)))), (4, some [(.own 5 28 4 n)]), (5, some (xY jE out)), (6, some [(.clo 101 [0, 2, 3, 4, 6])])] (.d (.val (.int .i64 ((((yU es (jO n es) f node kn out).1 : Nat) : Int))))) [(0, some [(.own 1 4 1 n)]), (1, some (bm uF ((yU es (jO n es) f node kn out).2.1))), (2, some (bx (.sl 3 1 (List.map jP (jO n es))))), (3, some (bx (.sl 56 6 (List.map jK es)))), (4, some [(.own 5 28 4 n)]), (5, some (xY jE ((yU es (jO n es) f node kn out).2.2))), (6, some [(.clo 101 [0, 2, 3, 4, 6])])] := e_flwA n es heo hn hl2 f node kn out hpr
end Go.Proofs.YtihgdjljnaekmaaGreat
set_option linter.unusedVariables false
set_option linter.unusedSimpArgs false
namespace Go.Fid
section
variable {P : Program} {o : Oper}
theorem t_stc {S : Nat → SV} {T : TypeId} {x y : Operand} {k : Nat} {u z : SV} (ho : o.op = .store T x y) (hx : ev S x = .ref k 0) (hy : ev S y = z) (h1 : z.ptr = true) (hs : kV P T = some (false, 1)) : TOk P o S k [u] [z] :=
  fun a w D β Q hop hb hD => by
    have hp := hop x (by simp [ho, Op.operands])
    have hq := hop y (by simp [ho, Op.operands])
    rw [hx] at hp
    rw [hy] at hq
    obtain ⟨b, hb1, hv⟩ := hp
    have fO : (a.eval y).oneCell' = true ∧ (a.eval y).cells = #[a.eval y] := by
      cases z with
      | ref j o' => obtain ⟨b, _, h2⟩ := hq; rw [h2]; exact ⟨rfl, rfl⟩
      | clo f ks => obtain ⟨vs, h2, _⟩ := hq; rw [h2]; exact ⟨rfl, rfl⟩
      | d x => cases h1
      | own => cases h1
      | emp => cases h1
      | view => cases h1
      | hob => cases h1
      | pr => cases h1
      | junk => cases h1
    rcases hb with ⟨hb2, _⟩ | ⟨b', vs, T', hb2, h2, h3, h4, h5⟩
    · rw [hb1] at hb2; cases hb2
    · obtain rfl : b' = b := by rw [hb1] at hb2; injection hb2 with h; exact h.symm
      obtain ⟨d, i, s1, s2, s3, s4⟩ := shape_of hs
      simp only [List.length_singleton] at h3
      have hst := run_storeCells_at P b' 0 T' [a.eval y] 0 vs w h2 (by simp; omega) (by intro v hv; rcases List.mem_singleton.1 hv with rfl; exact fO.1)
      have hrun : (execOp a.eval o).run P w = .ok .skip (w.setRow b' (patch vs.toList 0 [a.eval y]).toArray) := by
        have hsz : (#[a.eval y] : Array Value).size = i.size := by simp; omega
        simp only [execOp, ho, hv, Instr.storeAt, Instr.sureAddr, storeVar, fO.2, Sem.run_bind, Sem.run_pure, Result.andThen_ok, uJ s2, ne_eq, hsz, not_true_eq_false, if_false]
        simp [patch] at hst ⊢
        rw [hst]; rfl
      have hw := fU w b' (patch vs.toList 0 [a.eval y]).toArray (fun vs' T f h => by
        rw [h2] at h
        injection h with h
        injection h with h
        subst h
        have := zG (l := vs.toList) (off := 0) (new := [a.eval y]) (by simp; omega)
        simpa using this)
      refine wp_skip_ hrun ⟨rfl, b', hb1, hw, h5, ?_⟩
      refine .inr ⟨b', _, T', hb1, setRow_heap w b' vs _ T' _ h2, ?_, fun j x hx => ?_, h5⟩
      · have p1 := zG (l := vs.toList) (off := 0) (new := [a.eval y]) (by simp; omega)
        simp only [List.size_toArray, List.length_singleton]
        simp only [Array.length_toList] at p1
        omega
      · cases j with
        | zero =>
          simp only [List.getElem?_cons_zero, Option.some.injEq] at hx
          subst hx
          exact ⟨a.eval y, by simp [patch], fO.1, hw.repS h5 hq⟩
        | succ j => simp at hx
theorem oSc {S : SL} {B : BS} {T : TypeId} {x y : Operand} {k : Nat} {u z : SV} (hs : kV P T = some (false, 1)) (ho : o.op = .store T x y := by exact rfl) (hx : ev (kA S) x = .ref k 0 := by exact rfl) (hy : ev (kA S) y = z := by exact rfl) (h1 : z.ptr = true := by kernel_rfl) (hb : kI B k = some [u] := by exact rfl) : TK P o S B k [z] := ⟨_, t_stc ho hx hy h1 hs, hb⟩
end
end Go.Fid
namespace Go.Proofs.YtihgdjljnaekmaaGreat
open Go.Fid
set_option maxRecDepth 4000
set_option linter.unusedVariables false
set_option linter.unusedSimpArgs false
theorem by4 : yD Tryz.prog 4 = some 1 := by kernel_rfl
theorem cb57 : callB Tryz.prog 57 = true := by kernel_rfl
theorem ze34 : vF Tryz.prog 34 = some [.slice none 0 0] := by kernel_rfl
theorem ze60 : vF Tryz.prog 60 = some [.slice none 0 0] := by kernel_rfl
theorem ze101 : vF Tryz.prog 101 = some [.slice none 0 0] := by kernel_rfl
theorem ze145 : vF Tryz.prog 145 = some [.nilFunc] := by kernel_rfl
theorem zo34 : mV [.slice none 0 0] [.sl 28 4 []] := by simp [mV, Value.oneCell']
theorem zo60 : mV [.slice none 0 0] [.sl 3 1 []] := by simp [mV, Value.oneCell']
theorem zo101 : mV [.slice none 0 0] [.sl 4 1 []] := by simp [mV, Value.oneCell']
theorem zo145 : mV [.nilFunc] [.val .nilFunc] := by simp [mV, Value.oneCell']
theorem l_abs (n : Nat) (es : List jC) (heo : vS n es) (hn : n ≤ 64) (hl2 : es.length ≤ 256) : jZ Tryz.prog 57 [(.val (.int .i64 (((n : Nat) : Int)))), (.sl 56 6 (List.map jK es))] (.tup [(.sl 28 4 (List.map jE (uL n es))), (.val (.int .i64 ((((yH n es) : Nat) : Int))))]) := by
 let y1 := (bx (.sl 3 1 (List.map jP (jO n es))))
 refine jL Tryz.func57 rfl cb57 rfl ?_
 show qS _ _ _ _ ⟨[(0, (jQ n)), (1, (vl 56 6 jK es))], []⟩
 refine jA <| kx [(3, (.ref 0 0))] [(0, some (bx (.sl 56 6 (List.map jK es))))] (zN (zL 0) <| zE (oNl 28 4) <| zM <| zZ) ?_
 refine jA <| kx [(6, (.ref 2 0))] [(1, some (xY jE (List.replicate n (jB.mk 0 0 0 0)))), (2, some [(.own 1 28 4 n)])] (zM <| zN (oMkS 1 jE (jB.mk 0 0 0 0) n n gH uY uZ by28) <| zH (uQ 2 ze34 zo34) <| zT (oSo sh34) <| zZ) ?_
 refine jA <| kx [(7, (.ref 4 0))] [(3, some (bm uF (List.replicate n false))), (4, some [(.own 3 4 1 n)])] (zM <| zH (oMk 3 uF (false : Bool) n n el101 ze4 zo4 by4) <| zH (uQ 4 ze101 zo101) <| zT (oSo sh101) <| zZ) ?_
 refine jA <| kx [(8, (.ref 5 0))] [(5, some y1)] (zM <| zR (kM sh39) <| zE (kD (l_tree n es heo hn hl2)) <| zH (uQ 5 ze60 zo60) <| zT (kZ sh60) <| zZ) ?_
 refine jA <| kx [(9, (.ref 6 0))] [(6, some (bx (.val .nilFunc)))] (zH (uQ 6 ze145 zo145) <| zZ) ?_
 refine jA <| kx [] [(6, some [(.clo 101 [4, 5, 0, 2, 6])])] (zE (oMf [4, 5, 0, 2, 6]) <| zT (oSc sh145) <| zZ) ?_
 refine jA <| jA <| kx [(20, (jQ n)), (21, (jQ 0))] [] (zM <| zM <| zZ) ?_
 refine jH <| kH (α := Nat × List Bool × List jB) (fun (i, kn, ou) => ⟨[(6, (.ref 2 0)), (7, (.ref 4 0)), (9, (.ref 6 0)), (20, (jQ n)), (21, (jQ i))], [(0, some (bx (.sl 56 6 (List.map jK es)))), (1, some (xY jE ou)), (2, some [(.own 1 28 4 n)]), (3, some (bm uF kn)), (4, some [(.own 3 4 1 n)]), (5, some y1), (6, some [(.clo 101 [4, 5, 0, 2, 6])])]⟩) (fun (i, kn, ou) => i ≤ n ∧ AlI n es i kn ou) (fun (i, kn, ou) => n - i) (0, List.replicate n false, List.replicate n (jB.mk 0 0 0 0)) wk ⟨Nat.zero_le _, AlI_0⟩ ?_
 rintro ⟨i, kn, ou⟩ ⟨hi, ha⟩
 have hkl : kn.length = n := ha.fi.1
 have hol : ou.length = n := ha.fi.2.1.1
 refine jA <| kx [(22, (vb (decide (((i : Nat) : Int) < ((n : Nat) : Int)))))] [] (zE uP <| zZ) ?_
 refine jA <| jG rfl (fun h1 => ?_) (fun h1 => ?_)
 ·replace h1 := of_decide_eq_true h1
  refine jF <| jA <| jH <| jA <| kx [(10, (jQ i))] [] (zM <| zM <| zZ) ?_
  refine jA <| jA <| kx [(27, (vb (kn.getD i false)))] [] (zR (kM sh101) <| zM <| zE (dT el101 i) <| zR (oLp cZ i (false : Bool)) <| zZ) ?_
  refine jG (b := (kn.getD i false)) rfl (fun h2 => ?_) (fun h2 => ?_)
  ·refine jW <| kx [(21, (jQ (i + 1)))] [] (zE (qQ (i + 1)) <| zM <| zZ) ?_
   exact ⟨(i + 1, kn, ou), wk, ⟨by omega, ha.skip h2⟩, (by first | omega | (dsimp only; omega))⟩
  ·have hpr := ha.pre heo (i := i) (by omega) h2
   refine jF <| jA <| kd [] [(1, some (xY jE (ou.set i q1)))] mo (wR (kM sh34) <| wM <| wE (kD l_one) <| wE (oXO gH i) <| wT (oSA kK i q1) <| wZ) ?_
   refine jA <| kf [(11, (jQ ((yU es (jO n es) n i kn (ou.set i q1)).1)))] [(0, some (bx (.sl 56 6 (List.map jK es)))), (1, some (xY jE ((yU es (jO n es) n i kn (ou.set i q1)).2.2))), (2, some [(.own 1 28 4 n)]), (3, some (bm uF ((yU es (jO n es) n i kn (ou.set i q1)).2.1))), (4, some [(.own 3 4 1 n)]), (5, some y1), (6, some [(.clo 101 [4, 5, 0, 2, 6])])] (zR (kM sh145) <| zM <| zS (B2 := [(4, some [(.own 3 4 1 n)]), (3, some (bm uF kn)), (5, some y1), (0, some (bx (.sl 56 6 (List.map jK es)))), (2, some [(.own 1 28 4 n)]), (1, some (xY jE (ou.set i q1))), (6, some [(.clo 101 [4, 5, 0, 2, 6])])]) (B2' := [(4, some [(.own 3 4 1 n)]), (3, some (bm uF ((yU es (jO n es) n i kn (ou.set i q1)).2.1))), (5, some y1), (0, some (bx (.sl 56 6 (List.map jK es)))), (2, some [(.own 1 28 4 n)]), (1, some (xY jE ((yU es (jO n es) n i kn (ou.set i q1)).2.2))), (6, some [(.clo 101 [4, 5, 0, 2, 6])])]) (M := 1000000) [4, 3, 5, 0, 2, 1, 6] [4, 5, 0, 2, 6] (e_flw i kn es (ou.set i q1) n n heo hn hl2 hpr) (.cons (by exact rfl) (by kernel_rfl) (.cons (by exact rfl) (ren_map _ _ _) (.cons (by exact rfl) (xJ _ _) (.cons (by exact rfl) (xJ _ _) (.cons (by exact rfl) (by kernel_rfl) (.cons (by exact rfl) (xJ _ _) (.cons (by exact rfl) (by kernel_rfl) .nil))))))) (.cons (by exact rfl) (by kernel_rfl) (.cons (by exact rfl) (ren_map _ _ _) (.cons (by exact rfl) (xJ _ _) (.cons (by exact rfl) (xJ _ _) (.cons (by exact rfl) (by kernel_rfl) (.cons (by exact rfl) (xJ _ _) (.cons (by exact rfl) (by kernel_rfl) .nil))))))) (by repeat first | exact .nil | refine .hid rfl ?_ | refine .map rfl ?_ | refine .dat rfl ?_ | refine .none rfl ?_ | refine .cells rfl rfl ?_) (ex := [.ref 4 0, .ref 5 0, .ref 0 0, .ref 2 0, .ref 6 0]) (hy := .clo (kk := [4, 5, 0, 2, 6]) (by kernel_rfl) (by kernel_rfl)) <| zM <| zF) ?_
   refine jA <| kx [(36, (vb ((((yU es (jO n es) n i kn (ou.set i q1)).1 : Nat) : Int) != ((0 : Nat) : Int))))] [] (zM <| zE cG <| zZ) ?_
   refine jG rfl (fun h3 => ?_) (fun h3 => ?_)
   ·replace h3 := bne_iff_ne.1 h3
    refine jA <| kx [(4, (vl 28 4 jE [])), (5, (jQ ((yU es (jO n es) n i kn (ou.set i q1)).1)))] [] (zM <| zE (oNl 28 4) <| zM <| zZ) ?_
    refine jI ⟨_, (.tmp (d := (.sl 28 4 (List.map jE []))) rfl (.tmp (d := (.val (.int .i64 ((((yU es (jO n es) n i kn (ou.set i q1)).1 : Nat) : Int))))) rfl .nil)), ?_⟩
    obtain ⟨q1, q2, q3⟩ := (flw_ok heo n _ _ _ hpr).2 (show (yU es (jO n es) n i kn (ou.set i q1)).1 ≠ 0 by omega)
    rw [q1, q2]; show _ = _; rw [q3]; rfl
   ·replace h3 := bne_eq_false_iff_eq.1 h3
    refine jF <| kx [(21, (jQ (i + 1)))] [] (zE (qQ (i + 1)) <| zM <| zZ) ?_
    exact ⟨(i + 1, (yU es (jO n es) n i kn (ou.set i q1)).2.1, (yU es (jO n es) n i kn (ou.set i q1)).2.2), wk, ⟨by omega, ha.next ((flw_ok heo n _ _ _ hpr).1 (show (yU es (jO n es) n i kn (ou.set i q1)).1 = 0 by omega))⟩, (by first | omega | (dsimp only; omega))⟩
 ·replace h1 := of_decide_eq_false h1
  refine jW <| jA <| kY (publishB (j := 2) (k := 1) (es := List.map jE ou) rfl rfl rfl (yX _ _ (fun _ => rfl)) (uS _ _ hol) (mH jE ou (fun _ => rfl) hol)) ?_
  refine kx [(4, (vl 28 4 jE ou)), (5, (jQ 0))] [] (zR (kM sh34) <| zM <| zM <| zZ) ?_
  refine jI ⟨_, (.tmp (d := (.sl 28 4 (List.map jE ou))) rfl (.tmp (d := (.val (.int .i64 (((0 : Nat) : Int))))) rfl .nil)), ?_⟩
  obtain ⟨q1, q2⟩ := ha.end_ heo (by omega)
  rw [← q1, q2]; rfl
end Go.Proofs.YtihgdjljnaekmaaGreat
