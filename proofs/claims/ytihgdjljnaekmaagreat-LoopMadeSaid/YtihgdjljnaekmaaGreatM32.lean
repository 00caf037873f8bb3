/- Part 32 of a proof: rules, plain facts, and functions walked. -/
import Derived.Test.YtihgdjljnaekmaaGreatM31
import Derived.Test.YtihgdjljnaekmaaGreatM30
namespace Go.Proofs.YtihgdjljnaekmaaGreat
open Go.Fid
set_option maxRecDepth 4000
set_option linter.unusedVariables false
set_option linter.unusedSimpArgs false
theorem cb26 : callB Tryz.prog 26 = true := by kernel_rfl
theorem l8_tree (n : Nat) (es : List REdge) (heo : EsOk n es) (hn : n ≤ 64) (hl2 : es.length ≤ 256) : Takes Tryz.prog 26 [(.val (.int .i64 (((n : Nat) : Int)))), (.sl 56 6 (List.map encEdge es))] (.tup [(.sl 3 1 (List.map enc_i64 (treL n es))), (.sl 3 1 (List.map enc_i64 (parL n es)))]) := by
  refine fn_intro Tryz.func26 rfl cb26 rfl ?_
  show PWp _ _ _ _ ⟨[(0, (vin n)), (1, (vl 56 6 encEdge es))], []⟩
  refine pwp_seq <| kx [(4, (.own 0 3 1 0)), (5, (.own 1 3 1 0))] [(0, some (bm enc_i64 [])), (1, some (bm enc_i64 []))] (zO 0 3 1 <| zO 1 3 1 <| zZ) ?_
  refine pwp_seq <| pwp_seq <| kx [(12, (vin n)), (13, (vin 0))] [] (zM <| zM <| zZ) ?_
  refine pwp_block <| pwp_loop (α := Nat × List Int) (fun (i, pt) => ⟨[(1, (vl 56 6 encEdge es)), (4, (.own 0 3 1 0)), (5, (.own 1 3 1 pt.length)), (12, (vin n)), (13, (vin i))], [(0, some (bm enc_i64 [])), (1, some (bm enc_i64 pt))]⟩) (fun (i, pt) => i ≤ n ∧ pt = ini i) (fun (i, pt) => n - i) (0, []) wk ⟨Nat.zero_le _, rfl⟩ ?_
  rintro ⟨i, pt⟩ ⟨hi, hp⟩
  have hpl : pt.length ≤ 64 := by rw [hp, ini_len]; omega
  refine pwp_seq <| kx [(14, (vb (decide (((i : Nat) : Int) < ((n : Nat) : Int)))))] [] (zE oLt <| zZ) ?_
  refine pwp_seq <| pwp_cond rfl (fun h1 => ?_) (fun h1 => ?_)
  · replace h1 := of_decide_eq_true h1
    refine pwp_skip <| pwp_seq <| pwp_block <| pwp_seq <| kx [(6, (vin i))] [] (zM <| zM <| zZ) ?_
    refine kf [(5, (.own 1 3 1 ((pt ++ [((i : Nat) : Int)]).length)))] [(1, some (bm enc_i64 (pt ++ [((i : Nat) : Int)])))] (zM <| zM <| zE (oBs el60 ze3 zo3) <| zA enc_i64 pt [((i : Nat) : Int)] rfl el60 ze3 by3 <| zM <| zF) ?_
    refine kx [(13, (vin (i + 1)))] [] (zE (oAd (i + 1)) <| zM <| zZ) ?_
    exact ⟨(i + 1, pt ++ [((i : Nat) : Int)]), wk, ⟨by omega, by rw [hp, ini_s]⟩, (by first | omega | (dsimp only; omega))⟩
  · replace h1 := of_decide_eq_false h1
    have hpn : pt.length = n := by rw [hp, ini_len]; omega
    rw [hpn]
    refine pwp_exit <| pwp_seq <| pwp_seq <| kx [(21, (vl 56 6 encEdge es)), (22, (vin es.length)), (23, (vin 0))] [] (zM <| zE (oLm el39) <| zM <| zZ) ?_
    refine pwp_block <| pwp_loop (α := Nat × List Int × List Int) (fun (k, tk, pt) => ⟨[(4, (.own 0 3 1 tk.length)), (5, (.own 1 3 1 n)), (21, (vl 56 6 encEdge es)), (22, (vin es.length)), (23, (vin k))], [(0, some (bm enc_i64 tk)), (1, some (bm enc_i64 pt))]⟩) (fun (k, tk, pt) => k ≤ es.length ∧ tk = tTak true n es k ∧ pt = tPar true n es k) (fun (k, tk, pt) => es.length - k) (0, [], pt) wk ⟨Nat.zero_le _, rfl, by rw [hp, show i = n by omega]; rfl⟩ ?_
    rintro ⟨k, tk, pt⟩ ⟨hk, htk, hpt⟩
    have hpl : pt.length = n := by rw [hpt, tPar_len]
    have htl : tk.length ≤ k := by rw [htk]; exact tTak_len _ _ _ _
    refine pwp_seq <| kx [(24, (vb (decide (((k : Nat) : Int) < ((es.length : Nat) : Int)))))] [] (zE oLt <| zZ) ?_
    refine pwp_seq <| pwp_cond rfl (fun h2 => ?_) (fun h2 => ?_)
    · replace h2 := of_decide_eq_true h2
      have hek : EOkE n (es.getD k (REdge.mk 0 0 (RQuat.mk 0 0 0 0))) := eget heo (k := k) (by omega)
      obtain ⟨hek1, hek2, hek3, hek4, hek5, _⟩ := id hek
      refine pwp_skip <| pwp_seq <| pwp_block <| pwp_seq <| kx [(7, (vin k)), (8, (.ref 2 0))] [(2, some (bx (encEdge (es.getD k (REdge.mk 0 0 (RQuat.mk 0 0 0 0))))))] (zM <| zE (oXl el39 k (REdge.mk 0 0 (RQuat.mk 0 0 0 0))) <| zE (oCa sh56) <| zH (oAl 2 ze56 zo56) <| zM <| zT (oSt sh56) <| zZ) ?_
      refine pwp_seq <| kd [(9, (vi (pt.getD (((es.getD k (REdge.mk 0 0 (RQuat.mk 0 0 0 0))).fr).toNat) 0))), (10, (vi (pt.getD (((es.getD k (REdge.mk 0 0 (RQuat.mk 0 0 0 0))).to_).toNat) 0)))] [] mo (wM <| wE (oFr fo56_0) <| wR (oL1 sh3) <| wE (oXo el60 (((es.getD k (REdge.mk 0 0 (RQuat.mk 0 0 0 0))).fr).toNat)) <| wR (oLp sh3 (((es.getD k (REdge.mk 0 0 (RQuat.mk 0 0 0 0))).fr).toNat) (0 : Int)) <| wM <| wE (oFr fo56_1) <| wR (oL1 sh3) <| wE (oXo el60 (((es.getD k (REdge.mk 0 0 (RQuat.mk 0 0 0 0))).to_).toNat)) <| wR (oLp sh3 (((es.getD k (REdge.mk 0 0 (RQuat.mk 0 0 0 0))).to_).toNat) (0 : Int)) <| wM <| wM <| wZ) ?_
      refine pwp_seq <| pwp_seq <| kx [(40, (vb ((pt.getD (((es.getD k (REdge.mk 0 0 (RQuat.mk 0 0 0 0))).fr).toNat) 0) == (pt.getD (((es.getD k (REdge.mk 0 0 (RQuat.mk 0 0 0 0))).to_).toNat) 0))))] [] (zM <| zM <| zE oEq <| zZ) ?_
      refine pwp_cond rfl (fun h3 => ?_) (fun h3 => ?_)
      · replace h3 := eq_of_beq h3
        refine pwp_exit <| kx [(23, (vin (k + 1)))] [] (zE (oAd (k + 1)) <| zM <| zZ) ?_
        exact ⟨(k + 1, tk, pt), wk, ⟨by omega, by rw [(tPar_y (by rw [← hpt]; exact h3)).2]; exact htk, by rw [(tPar_y (by rw [← hpt]; exact h3)).1]; exact hpt⟩, (by first | omega | (dsimp only; omega))⟩
      · replace h3 := ne_of_beq_false h3
        refine pwp_skip <| pwp_seq <| kf [(4, (.own 0 3 1 ((tk ++ [((k : Nat) : Int)]).length)))] [(0, some (bm enc_i64 (tk ++ [((k : Nat) : Int)])))] (zM <| zM <| zE (oBs el60 ze3 zo3) <| zA enc_i64 tk [((k : Nat) : Int)] rfl el60 ze3 by3 <| zM <| zF) ?_
        refine pwp_seq <| kx [(46, (vin n)), (47, (vin 0))] [] (zM <| zE (oLo el60) <| zM <| zZ) ?_
        refine pwp_block <| pwp_loop (α := Nat × List Int) (fun (m, q) => ⟨[(4, (.own 0 3 1 ((tk ++ [((k : Nat) : Int)]).length))), (5, (.own 1 3 1 n)), (9, (vi (pt.getD (((es.getD k (REdge.mk 0 0 (RQuat.mk 0 0 0 0))).fr).toNat) 0))), (10, (vi (pt.getD (((es.getD k (REdge.mk 0 0 (RQuat.mk 0 0 0 0))).to_).toNat) 0))), (21, (vl 56 6 encEdge es)), (22, (vin es.length)), (23, (vin k)), (46, (vin n)), (47, (vin m))], [(0, some (bm enc_i64 (tk ++ [((k : Nat) : Int)]))), (1, some (bm enc_i64 q))]⟩) (fun (m, q) => m ≤ n ∧ RlUp (min (pt.getD (es.getD k (REdge.mk 0 0 (RQuat.mk 0 0 0 0))).fr.toNat 0) (pt.getD (es.getD k (REdge.mk 0 0 (RQuat.mk 0 0 0 0))).to_.toNat 0)) (max (pt.getD (es.getD k (REdge.mk 0 0 (RQuat.mk 0 0 0 0))).fr.toNat 0) (pt.getD (es.getD k (REdge.mk 0 0 (RQuat.mk 0 0 0 0))).to_.toNat 0)) pt (List.range m) q) (fun (m, q) => n - m) (0, pt) wk ⟨Nat.zero_le _, RlUp_0 _ _ _⟩ ?_
        rintro ⟨m, q⟩ ⟨hm, hq⟩
        have hql := hq.1
        refine pwp_seq <| kx [(48, (vb (decide (((m : Nat) : Int) < ((n : Nat) : Int)))))] [] (zE oLt <| zZ) ?_
        refine pwp_seq <| pwp_cond rfl (fun h4 => ?_) (fun h4 => ?_)
        · replace h4 := of_decide_eq_true h4
          refine pwp_skip <| pwp_seq <| pwp_block <| pwp_seq <| kx [(11, (vin m))] [] (zM <| zM <| zZ) ?_
          refine pwp_seq <| kx [(57, (vb ((q.getD m 0) == (max (pt.getD (((es.getD k (REdge.mk 0 0 (RQuat.mk 0 0 0 0))).fr).toNat) 0) (pt.getD (((es.getD k (REdge.mk 0 0 (RQuat.mk 0 0 0 0))).to_).toNat) 0)))))] [] (zM <| zM <| zE (oXo el60 m) <| zR (oLp sh3 m (0 : Int)) <| zM <| zM <| zE (zMx (max (pt.getD (((es.getD k (REdge.mk 0 0 (RQuat.mk 0 0 0 0))).fr).toNat) 0) (pt.getD (((es.getD k (REdge.mk 0 0 (RQuat.mk 0 0 0 0))).to_).toNat) 0)) (hr := by first | omega | (dsimp only; omega))) <| zE oEq <| zZ) ?_
          refine pwp_cond rfl (fun h5 => ?_) (fun h5 => ?_)
          · replace h5 := eq_of_beq h5
            refine kx [] [(1, some (bm enc_i64 (q.set m (min (pt.getD (((es.getD k (REdge.mk 0 0 (RQuat.mk 0 0 0 0))).fr).toNat) 0) (pt.getD (((es.getD k (REdge.mk 0 0 (RQuat.mk 0 0 0 0))).to_).toNat) 0)))))] (zM <| zM <| zM <| zM <| zE (zMn (min (pt.getD (((es.getD k (REdge.mk 0 0 (RQuat.mk 0 0 0 0))).fr).toNat) 0) (pt.getD (((es.getD k (REdge.mk 0 0 (RQuat.mk 0 0 0 0))).to_).toNat) 0)) (hr := by first | omega | (dsimp only; omega))) <| zE (oXo el60 m) <| zT (oSp sh3 m (min (pt.getD (((es.getD k (REdge.mk 0 0 (RQuat.mk 0 0 0 0))).fr).toNat) 0) (pt.getD (((es.getD k (REdge.mk 0 0 (RQuat.mk 0 0 0 0))).to_).toNat) 0))) <| zZ) ?_
            refine kx [(47, (vin (m + 1)))] [] (zE (oAd (m + 1)) <| zM <| zZ) ?_
            exact ⟨(m + 1, q.set m (min (pt.getD (es.getD k (REdge.mk 0 0 (RQuat.mk 0 0 0 0))).fr.toNat 0) (pt.getD (es.getD k (REdge.mk 0 0 (RQuat.mk 0 0 0 0))).to_.toNat 0))), wk, ⟨by omega, by rw [List.range_succ]; exact RlUp_y hq (by omega) (by simp) h5⟩, (by first | omega | (dsimp only; omega))⟩
          · replace h5 := ne_of_beq_false h5
            refine pwp_skip <| kx [(47, (vin (m + 1)))] [] (zE (oAd (m + 1)) <| zM <| zZ) ?_
            exact ⟨(m + 1, q), wk, ⟨by omega, by rw [List.range_succ]; exact RlUp_n hq (by omega) (by simp) h5⟩, (by first | omega | (dsimp only; omega))⟩
        · replace h4 := of_decide_eq_false h4
          refine pwp_exit <| kx [(23, (vin (k + 1)))] [] (zE (oAd (k + 1)) <| zM <| zZ) ?_
          exact ⟨(k + 1, tk ++ [((k : Nat) : Int)], q), wk, ⟨by omega, by rw [(tPar_n (by rw [← hpt]; exact h3)).2, htk], by rw [(tPar_n (by rw [← hpt]; exact h3)).1, ← hpt]; exact (RlUp_end hq (fun j hj => List.mem_range.2 (by have := hq.1; omega))).trans (by simp only [mrg, kp, dp, if_true, Bool.false_eq_true, if_false]; rfl)⟩, (by first | omega | (dsimp only; omega))⟩
    · replace h2 := of_decide_eq_false h2
      refine pwp_exit <| pwp_seq <| pwp_sim (publish (t := 4) (k := 0) (es := List.map enc_i64 tk) rfl rfl (pub_cells _ _ (fun _ => rfl)) (map_len _ _ rfl) (pub_take _ _ (fun _ => rfl) rfl)) ?_
      refine pwp_sim (publish (t := 5) (k := 1) (es := List.map enc_i64 pt) rfl rfl (pub_cells _ _ (fun _ => rfl)) (map_len _ _ hpl) (pub_take _ _ (fun _ => rfl) hpl)) ?_
      refine kx [(4, (vl 3 1 enc_i64 tk)), (5, (vl 3 1 enc_i64 pt))] [] (zM <| zM <| zM <| zM <| zZ) ?_
      refine pwp_ret ⟨_, (.tmp (d := (.sl 3 1 (List.map enc_i64 tk))) rfl (.tmp (d := (.sl 3 1 (List.map enc_i64 pt))) rfl .nil)), ?_⟩
      rw [htk, hpt, show k = es.length by omega]; rfl
end Go.Proofs.YtihgdjljnaekmaaGreat
namespace Go.Proofs.YtihgdjljnaekmaaGreat
open Go.Fid
set_option maxRecDepth 4000
set_option linter.unusedVariables false
set_option linter.unusedSimpArgs false
theorem by28 : bytesB Tryz.prog 28 = some 32 := by kernel_rfl
end Go.Proofs.YtihgdjljnaekmaaGreat
set_option linter.unusedVariables false
set_option linter.unusedSimpArgs false
namespace Go.Fid
abbrev FwR := Nat × List Bool × List RQuat
def nxN (x : REdge) (node : Nat) : Option Nat := if ((node : Nat) : Int) = x.fr then some x.to_.toNat else if ((node : Nat) : Int) = x.to_ then some x.fr.toNat else none
def nxU (x : REdge) (node : Nat) (out : List RQuat) : RQuat := if ((node : Nat) : Int) = x.fr then qmul (getQ out node) (qV (qcj x.turn)) else qmul (getQ out node) x.turn
def fwStep (es : List REdge) (rec : Nat → List Bool → List RQuat → FwR) (node i : Nat) (kn : List Bool) (out : List RQuat) : FwR :=
  match nxN (es.getD i e0) node with
  | none => (0, kn, out)
  | some nx => if kn.getD nx false = true then (0, kn, out) else if qC (nxU (es.getD i e0) node out) = 0 then rec nx kn (out.set nx (qV (nxU (es.getD i e0) node out))) else (qC (nxU (es.getD i e0) node out), kn, out.set nx (qV (nxU (es.getD i e0) node out)))
def fwAt (es : List REdge) (tk : List Int) (rec : Nat → List Bool → List RQuat → FwR) (node : Nat) (kn : List Bool) (out : List RQuat) : Nat → FwR
  | 0 => (0, kn, out)
  | k + 1 => if (fwAt es tk rec node kn out k).1 = 0 then fwStep es rec node (tk.getD k 0).toNat (fwAt es tk rec node kn out k).2.1 (fwAt es tk rec node kn out k).2.2 else fwAt es tk rec node kn out k
def flw (es : List REdge) (tk : List Int) : Nat → Nat → List Bool → List RQuat → FwR
  | 0 => fun _ kn out => (0, kn, out)
  | f + 1 => fun node kn out => fwAt es tk (flw es tk f) node (kn.set node true) out tk.length
section
variable {es : List REdge} {tk : List Int} {rec : Nat → List Bool → List RQuat → FwR} {node : Nat} {kn0 : List Bool} {out0 : List RQuat}
theorem fwAt_s {k : Nat} {kn : List Bool} {ou : List RQuat} (h : fwAt es tk rec node kn0 out0 k = (0, kn, ou)) : fwAt es tk rec node kn0 out0 (k + 1) = fwStep es rec node (tk.getD k 0).toNat kn ou := by
  show (if (fwAt es tk rec node kn0 out0 k).1 = 0 then _ else _) = _
  rw [h]; rfl
theorem fwAt_stop {k : Nat} (h : (fwAt es tk rec node kn0 out0 k).1 ≠ 0) : ∀ m, fwAt es tk rec node kn0 out0 (k + m) = fwAt es tk rec node kn0 out0 k
  | 0 => rfl
  | m + 1 => by
    have ih := fwAt_stop h m
    show (if (fwAt es tk rec node kn0 out0 (k + m)).1 = 0 then _ else _) = _
    rw [ih, if_neg h]; exact ih
theorem fwAt_end {k : Nat} {s : FwR} (hk : k < tk.length) (h : fwAt es tk rec node kn0 out0 (k + 1) = s) (hs : s.1 ≠ 0) : fwAt es tk rec node kn0 out0 tk.length = s := by
  have h1 := fwAt_stop (m := tk.length - (k + 1)) (es := es) (tk := tk) (rec := rec) (node := node) (kn0 := kn0) (out0 := out0) (k := k + 1) (by rw [h]; exact hs)
  rw [show k + 1 + (tk.length - (k + 1)) = tk.length by omega] at h1
  rw [h1, h]
theorem st_none {i : Nat} {kn : List Bool} {ou : List RQuat} (h1 : ((node : Nat) : Int) ≠ (es.getD i e0).fr) (h2 : ((node : Nat) : Int) ≠ (es.getD i e0).to_) : fwStep es rec node i kn ou = (0, kn, ou) := by
  unfold fwStep nxN; rw [if_neg h1, if_neg h2]
theorem st_fk {i : Nat} {kn : List Bool} {ou : List RQuat} (h1 : ((node : Nat) : Int) = (es.getD i e0).fr) (h2 : kn.getD (es.getD i e0).to_.toNat false = true) : fwStep es rec node i kn ou = (0, kn, ou) := by
  unfold fwStep nxN; rw [if_pos h1]; simp only [h2, if_true]
theorem st_bk {i : Nat} {kn : List Bool} {ou : List RQuat} (h0 : ((node : Nat) : Int) ≠ (es.getD i e0).fr) (h1 : ((node : Nat) : Int) = (es.getD i e0).to_) (h2 : kn.getD (es.getD i e0).fr.toNat false = true) : fwStep es rec node i kn ou = (0, kn, ou) := by
  unfold fwStep nxN; rw [if_neg h0, if_pos h1]; simp only [h2, if_true]
theorem st_f {i : Nat} {kn : List Bool} {ou : List RQuat} (h1 : ((node : Nat) : Int) = (es.getD i e0).fr) (h2 : kn.getD (es.getD i e0).to_.toNat false = false) :
    fwStep es rec node i kn ou = if qC (qmul (getQ ou node) (qV (qcj (es.getD i e0).turn))) = 0 then rec (es.getD i e0).to_.toNat kn (ou.set (es.getD i e0).to_.toNat (qV (qmul (getQ ou node) (qV (qcj (es.getD i e0).turn))))) else (qC (qmul (getQ ou node) (qV (qcj (es.getD i e0).turn))), kn, ou.set (es.getD i e0).to_.toNat (qV (qmul (getQ ou node) (qV (qcj (es.getD i e0).turn))))) := by
  unfold fwStep nxN nxU
  simp only [if_pos h1, h2, Bool.false_eq_true, if_false]
theorem st_b {i : Nat} {kn : List Bool} {ou : List RQuat} (h0 : ((node : Nat) : Int) ≠ (es.getD i e0).fr) (h1 : ((node : Nat) : Int) = (es.getD i e0).to_) (h2 : kn.getD (es.getD i e0).fr.toNat false = false) :
    fwStep es rec node i kn ou = if qC (qmul (getQ ou node) (es.getD i e0).turn) = 0 then rec (es.getD i e0).fr.toNat kn (ou.set (es.getD i e0).fr.toNat (qV (qmul (getQ ou node) (es.getD i e0).turn))) else (qC (qmul (getQ ou node) (es.getD i e0).turn), kn, ou.set (es.getD i e0).fr.toNat (qV (qmul (getQ ou node) (es.getD i e0).turn))) := by
  unfold fwStep nxN nxU
  simp only [if_neg h0, if_pos h1, h2, Bool.false_eq_true, if_false]
end
def uk (kn : List Bool) : Nat := kn.countP fun b => !b
def FI (n : Nat) (es : List REdge) (kn : List Bool) (out : List RQuat) : Prop := kn.length = n ∧ AbI n es out ∧ ∀ j, j < n → kn.getD j false = true → getQ out j ≠ zQ
def KLe (kn kn' : List Bool) : Prop := ∀ j, kn.getD j false = true → kn'.getD j false = true
theorem KLe.refl (kn : List Bool) : KLe kn kn := fun j h => h
theorem KLe.trans {a b c : List Bool} (h : KLe a b) (g : KLe b c) : KLe a c := fun j hj => g j (h j hj)
theorem kn_set {kn : List Bool} {i j : Nat} (hi : i < kn.length) : (kn.set i true).getD j false = if i = j then true else kn.getD j false := by
  by_cases e : i = j
  · subst e; rw [if_pos rfl, List.getD_eq_getElem?_getD, List.getElem?_set_self hi]; rfl
  · rw [if_neg e, List.getD_eq_getElem?_getD, List.getElem?_set_ne e, ← List.getD_eq_getElem?_getD]
theorem KLe_set {kn : List Bool} {i : Nat} (hi : i < kn.length) : KLe kn (kn.set i true) := fun j hj => by
  rw [kn_set hi]; split
  · rfl
  · exact hj
theorem uk_le : ∀ {kn kn' : List Bool}, kn.length = kn'.length → KLe kn kn' → uk kn' ≤ uk kn
  | [], [], _, _ => Nat.le_refl _
  | [], _ :: _, h, _ => by simp at h
  | _ :: _, [], h, _ => by simp at h
  | a :: l, b :: m, h, hk => by
    have ih := uk_le (kn := l) (kn' := m) (by simpa using h) (fun j hj => by have := hk (j + 1) (by simpa using hj); simpa using this)
    have h0 := hk 0
    simp only [List.getD_cons_zero] at h0
    unfold uk at *
    rw [List.countP_cons, List.countP_cons]
    cases a <;> cases b <;> simp_all <;> omega
theorem uk_set : ∀ {kn : List Bool} {i : Nat}, i < kn.length → kn.getD i false = false → uk (kn.set i true) + 1 = uk kn
  | [], i, h, _ => by simp at h
  | a :: l, 0, h, e => by
    simp only [List.getD_cons_zero] at e
    subst e
    unfold uk; rw [List.set_cons_zero, List.countP_cons, List.countP_cons]; simp
  | a :: l, i + 1, h, e => by
    simp only [List.getD_cons_succ] at e
    have ih := uk_set (kn := l) (i := i) (by simpa using h) e
    unfold uk at *
    rw [List.set_cons_succ, List.countP_cons, List.countP_cons]; omega
section
variable {n : Nat} {es : List REdge}
def nbK (n : Nat) (es : List REdge) (kn : List Bool) (j : Nat) : Prop := ∀ i : Nat, (i : Int) ∈ treL n es → ((es.getD i e0).fr.toNat = j → kn.getD (es.getD i e0).to_.toNat false = true) ∧ ((es.getD i e0).to_.toNat = j → kn.getD (es.getD i e0).fr.toNat false = true)
theorem nbK.mono {kn kn' : List Bool} {j : Nat} (h : nbK n es kn j) (hk : KLe kn kn') : nbK n es kn' j := fun i hi => ⟨fun e => hk _ ((h i hi).1 e), fun e => hk _ ((h i hi).2 e)⟩
structure FwPre (n : Nat) (es : List REdge) (f node : Nat) (kn : List Bool) (out : List RQuat) : Prop where
  fi : FI n es kn out
  nd : node < n
  un : kn.getD node false = false
  nz : getQ out node ≠ zQ
  fuel : uk kn ≤ f
structure FwPost (n : Nat) (es : List REdge) (node : Nat) (kn : List Bool) (r : FwR) : Prop where
  fi : FI n es r.2.1 r.2.2
  le : KLe kn r.2.1
  nd : r.2.1.getD node false = true
  cl : ∀ j, r.2.1.getD j false = true → kn.getD j false = false → nbK n es r.2.1 j
theorem FI.known {kn : List Bool} {out : List RQuat} (h : FI n es kn out) {node : Nat} (hn : node < n) (hz : getQ out node ≠ zQ) : FI n es (kn.set node true) out :=
  ⟨by rw [List.length_set]; exact h.1, h.2.1, fun j hj hk => by
    rw [kn_set (by rw [h.1]; exact hn)] at hk
    split at hk
    · rename_i e; subst e; exact hz
    · exact h.2.2 j hj hk⟩
theorem FI.put (heo : EsOk n es) {kn : List Bool} {out : List RQuat} (h : FI n es kn out) {nx : Nat} (hx : nx < n) (hk : kn.getD nx false = false) {u : RQuat} (hu : Qnz u ∧ Qeq u (aV n es nx)) (hc : qC u = 0) : FI n es kn (out.set nx (qV u)) ∧ getQ (out.set nx (qV u)) nx ≠ zQ := by
  obtain ⟨g1, g2⟩ := ab_yes heo hu.1 hu.2 hc
  have hl : nx < out.length := by rw [h.2.1.1]; exact hx
  refine ⟨⟨h.1, h.2.1.set hx g1 g2, fun j hj hkj => ?_⟩, ?_⟩
  · rw [getQ_set hl]; split
    · rw [g2]; exact can_nzq heo nx
    · exact h.2.2 j hj hkj
  · rw [getQ_set hl, if_pos rfl, g2]; exact can_nzq heo nx
structure FwIn (n : Nat) (es : List REdge) (f node : Nat) (kn0 kn : List Bool) (out : List RQuat) : Prop where
  fi : FI n es kn out
  le : KLe kn0 kn
  nd : kn.getD node false = true
  fuel : uk kn ≤ f
theorem FwIn_0 {f node : Nat} {kn0 : List Bool} {out0 : List RQuat} (h : FwPre n es (f + 1) node kn0 out0) : FwIn n es f node (kn0.set node true) (kn0.set node true) out0 := by
  have hl : node < kn0.length := by rw [h.fi.1]; exact h.nd
  refine ⟨h.fi.known h.nd h.nz, KLe.refl _, by rw [kn_set hl, if_pos rfl], ?_⟩
  have := uk_set hl h.un
  have := h.fuel
  omega
theorem FwIn.next {f node : Nat} {kn0 kn : List Bool} {out : List RQuat} (hi : FwIn n es f node kn0 kn out) {nx : Nat} {r : FwR} (hr : FwPost n es nx kn r) : FwIn n es f node kn0 r.2.1 r.2.2 :=
  ⟨hr.fi, hi.le.trans hr.le, hr.le _ hi.nd, Nat.le_trans (uk_le (by rw [hi.fi.1, hr.fi.1]) hr.le) hi.fuel⟩
theorem fwd_u (heo : EsOk n es) {f node i : Nat} {kn0 kn : List Bool} {out : List RQuat} (hn : node < n) (hi : FwIn n es f node kn0 kn out) (hm : (i : Int) ∈ treL n es) (hl : i < es.length) (e : ((node : Nat) : Int) = (es.getD i e0).fr) :
    Qnz (qmul (getQ out node) (qV (qcj (es.getD i e0).turn))) ∧ Qeq (qmul (getQ out node) (qV (qcj (es.getD i e0).turn))) (aV n es (es.getD i e0).to_.toNat) := by
  have he : (es.getD i e0).fr.toNat = node := by omega
  have h := ab_fwd heo hi.fi.2.1 hm hl (by rw [he]; exact hi.fi.2.2 node hn hi.nd)
  rwa [he] at h
theorem bwd_u (heo : EsOk n es) {f node i : Nat} {kn0 kn : List Bool} {out : List RQuat} (hn : node < n) (hi : FwIn n es f node kn0 kn out) (hm : (i : Int) ∈ treL n es) (hl : i < es.length) (e : ((node : Nat) : Int) = (es.getD i e0).to_) :
    Qnz (qmul (getQ out node) (es.getD i e0).turn) ∧ Qeq (qmul (getQ out node) (es.getD i e0).turn) (aV n es (es.getD i e0).fr.toNat) := by
  have he : (es.getD i e0).to_.toNat = node := by omega
  have h := ab_bwd heo hi.fi.2.1 hm hl (by rw [he]; exact hi.fi.2.2 node hn hi.nd)
  rwa [he] at h
def Fails (n : Nat) (es : List REdge) (r : FwR) : Prop := absC n es = 3 ∧ absL n es = [] ∧ r.1 = 3
def edgeK (es : List REdge) (kn : List Bool) (node i : Nat) : Prop := (((node : Nat) : Int) = (es.getD i e0).fr → kn.getD (es.getD i e0).to_.toNat false = true) ∧ (((node : Nat) : Int) = (es.getD i e0).to_ → kn.getD (es.getD i e0).fr.toNat false = true)
theorem step_ok (heo : EsOk n es) {f node i : Nat} {kn0 kn : List Bool} {out : List RQuat} {rec : Nat → List Bool → List RQuat → FwR} (hrec : ∀ nx k o, FwPre n es f nx k o → ((rec nx k o).1 = 0 → FwPost n es nx k (rec nx k o)) ∧ ((rec nx k o).1 ≠ 0 → Fails n es (rec nx k o)))
    (hn : node < n) (hi : FwIn n es f node kn0 kn out) (hm : (i : Int) ∈ treL n es) (hl : i < es.length) :
    ((fwStep es rec node i kn out).1 = 0 → FwIn n es f node kn0 (fwStep es rec node i kn out).2.1 (fwStep es rec node i kn out).2.2 ∧ KLe kn (fwStep es rec node i kn out).2.1 ∧ edgeK es (fwStep es rec node i kn out).2.1 node i ∧ (∀ j, (fwStep es rec node i kn out).2.1.getD j false = true → kn.getD j false = false → nbK n es (fwStep es rec node i kn out).2.1 j)) ∧
    ((fwStep es rec node i kn out).1 ≠ 0 → Fails n es (fwStep es rec node i kn out)) := by
  have hx := eget heo hl
  have x0 := hx.f0; have x1 := hx.f1; have x2 := hx.t0; have x3 := hx.t1; have x4 := hx.ne
  by_cases e1 : ((node : Nat) : Int) = (es.getD i e0).fr
  · have e2 : ((node : Nat) : Int) ≠ (es.getD i e0).to_ := fun e => x4 (e1.symm.trans e)
    by_cases hk : kn.getD (es.getD i e0).to_.toNat false = true
    · rw [st_fk e1 hk]
      exact ⟨fun _ => ⟨hi, KLe.refl _, ⟨fun _ => hk, fun e => absurd e e2⟩, fun j h1 h2 => by rw [h1] at h2; cases h2⟩, fun h => absurd rfl h⟩
    · have hk : kn.getD (es.getD i e0).to_.toNat false = false := by simpa using hk
      have hu := fwd_u heo hn hi hm hl e1
      rw [st_f e1 hk]
      by_cases hc : qC (qmul (getQ out node) (qV (qcj (es.getD i e0).turn))) = 0
      · rw [if_pos hc]
        obtain ⟨g1, g2⟩ := hi.fi.put heo (by omega) hk hu hc
        obtain ⟨r1, r2⟩ := hrec _ _ _ ⟨g1, by omega, hk, g2, hi.fuel⟩
        exact ⟨fun h => ⟨hi.next (r1 h), (r1 h).le, ⟨fun _ => (r1 h).nd, fun e => absurd e e2⟩, (r1 h).cl⟩, r2⟩
      · rw [if_neg hc]
        obtain ⟨g1, g2, g3⟩ := ab_no heo (j := (es.getD i e0).to_.toNat) (by omega) hu.1 hu.2 hc
        exact ⟨fun h => absurd h hc, fun _ => ⟨g1, g2, g3⟩⟩
  · by_cases e2 : ((node : Nat) : Int) = (es.getD i e0).to_
    · by_cases hk : kn.getD (es.getD i e0).fr.toNat false = true
      · rw [st_bk e1 e2 hk]
        exact ⟨fun _ => ⟨hi, KLe.refl _, ⟨fun e => absurd e e1, fun _ => hk⟩, fun j h1 h2 => by rw [h1] at h2; cases h2⟩, fun h => absurd rfl h⟩
      · have hk : kn.getD (es.getD i e0).fr.toNat false = false := by simpa using hk
        have hu := bwd_u heo hn hi hm hl e2
        rw [st_b e1 e2 hk]
        by_cases hc : qC (qmul (getQ out node) (es.getD i e0).turn) = 0
        · rw [if_pos hc]
          obtain ⟨g1, g2⟩ := hi.fi.put heo (by omega) hk hu hc
          obtain ⟨r1, r2⟩ := hrec _ _ _ ⟨g1, by omega, hk, g2, hi.fuel⟩
          exact ⟨fun h => ⟨hi.next (r1 h), (r1 h).le, ⟨fun e => absurd e e1, fun _ => (r1 h).nd⟩, (r1 h).cl⟩, r2⟩
        · rw [if_neg hc]
          obtain ⟨g1, g2, g3⟩ := ab_no heo (j := (es.getD i e0).fr.toNat) (by omega) hu.1 hu.2 hc
          exact ⟨fun h => absurd h hc, fun _ => ⟨g1, g2, g3⟩⟩
    · rw [st_none e1 e2]
      exact ⟨fun _ => ⟨hi, KLe.refl _, ⟨fun e => absurd e e1, fun e => absurd e e2⟩, fun j h1 h2 => by rw [h1] at h2; cases h2⟩, fun h => absurd rfl h⟩
theorem edgeK.mono {kn kn' : List Bool} {node i : Nat} (h : edgeK es kn node i) (hk : KLe kn kn') : edgeK es kn' node i := ⟨fun e => hk _ (h.1 e), fun e => hk _ (h.2 e)⟩
theorem at_ok (heo : EsOk n es) {f node : Nat} {kn0 : List Bool} {out0 : List RQuat} {rec : Nat → List Bool → List RQuat → FwR} (hrec : ∀ nx k o, FwPre n es f nx k o → ((rec nx k o).1 = 0 → FwPost n es nx k (rec nx k o)) ∧ ((rec nx k o).1 ≠ 0 → Fails n es (rec nx k o)))
    (hn : node < n) (h0 : FwIn n es f node kn0 kn0 out0) : ∀ k, k ≤ (treL n es).length →
    ((fwAt es (treL n es) rec node kn0 out0 k).1 = 0 → FwIn n es f node kn0 (fwAt es (treL n es) rec node kn0 out0 k).2.1 (fwAt es (treL n es) rec node kn0 out0 k).2.2 ∧
      (∀ m, m < k → edgeK es (fwAt es (treL n es) rec node kn0 out0 k).2.1 node ((treL n es).getD m 0).toNat) ∧ (∀ j, (fwAt es (treL n es) rec node kn0 out0 k).2.1.getD j false = true → kn0.getD j false = false → nbK n es (fwAt es (treL n es) rec node kn0 out0 k).2.1 j)) ∧
    ((fwAt es (treL n es) rec node kn0 out0 k).1 ≠ 0 → Fails n es (fwAt es (treL n es) rec node kn0 out0 k))
  | 0, _ => ⟨fun _ => ⟨h0, fun m hm => by omega, fun j h1 h2 => by have h1 : kn0.getD j false = true := h1; rw [h1] at h2; cases h2⟩, fun h => absurd rfl h⟩
  | k + 1, hk => by
    obtain ⟨ih1, ih2⟩ := at_ok heo hrec hn h0 k (by omega)
    obtain ⟨i, hil, hit, him⟩ := tre_at (n := n) (es := es) (k := k) (by omega)
    have hiN : ((treL n es).getD k 0).toNat = i := by rw [hit]; rfl
    have hdef : fwAt es (treL n es) rec node kn0 out0 (k + 1) = if (fwAt es (treL n es) rec node kn0 out0 k).1 = 0 then fwStep es rec node ((treL n es).getD k 0).toNat (fwAt es (treL n es) rec node kn0 out0 k).2.1 (fwAt es (treL n es) rec node kn0 out0 k).2.2 else fwAt es (treL n es) rec node kn0 out0 k := rfl
    rw [hdef]
    by_cases hz : (fwAt es (treL n es) rec node kn0 out0 k).1 = 0
    · rw [if_pos hz]
      obtain ⟨a1, a2, a3⟩ := ih1 hz
      obtain ⟨s1, s2⟩ := step_ok heo hrec hn a1 him hil
      rw [hiN]
      refine ⟨fun h => ?_, s2⟩
      obtain ⟨b1, b2, b3, b4⟩ := s1 h
      refine ⟨b1, fun m hm => ?_, fun j h1 h2 => ?_⟩
      · by_cases e : m = k
        · subst e; rw [hiN]; exact b3
        · exact (a2 m (by omega)).mono b2
      · by_cases hkj : (fwAt es (treL n es) rec node kn0 out0 k).2.1.getD j false = true
        · exact (a3 j hkj h2).mono b2
        · exact b4 j h1 (by simpa using hkj)
    · rw [if_neg hz]
      exact ⟨fun h => absurd h hz, ih2⟩
theorem flw_ok (heo : EsOk n es) : ∀ (f node : Nat) (kn : List Bool) (out : List RQuat), FwPre n es f node kn out →
    ((flw es (treL n es) f node kn out).1 = 0 → FwPost n es node kn (flw es (treL n es) f node kn out)) ∧ ((flw es (treL n es) f node kn out).1 ≠ 0 → Fails n es (flw es (treL n es) f node kn out))
  | 0, node, kn, out, h => by
    exfalso
    have hl : node < kn.length := by rw [h.fi.1]; exact h.nd
    have := uk_set hl h.un
    have := h.fuel
    omega
  | f + 1, node, kn, out, h => by
    have hl : node < kn.length := by rw [h.fi.1]; exact h.nd
    have h0 := FwIn_0 h
    have ha := at_ok heo (rec := flw es (treL n es) f) (fun nx k o hp => flw_ok heo f nx k o hp) h.nd h0 (treL n es).length (Nat.le_refl _)
    show ((fwAt es (treL n es) (flw es (treL n es) f) node (kn.set node true) out (treL n es).length).1 = 0 → FwPost n es node kn (fwAt es (treL n es) (flw es (treL n es) f) node (kn.set node true) out (treL n es).length)) ∧ _
    refine ⟨fun hz => ?_, ha.2⟩
    obtain ⟨a1, a2, a3⟩ := ha.1 hz
    refine ⟨a1.fi, (KLe_set hl).trans a1.le, a1.nd, fun j h1 h2 => ?_⟩
    by_cases e : node = j
    · subst e
      intro i hi
      obtain ⟨m, hm, hmi⟩ := List.getElem_of_mem hi
      have h3 := a2 m hm
      rw [List.getD_eq_getElem?_getD, List.getElem?_eq_getElem hm, Option.getD_some, hmi] at h3
      have hx := eget heo (k := i) (by obtain ⟨q, hq, e⟩ := tTak_mem hi; omega)
      have x0 := hx.f0; have x2 := hx.t0
      exact ⟨fun e => h3.1 (by show ((node : Nat) : Int) = (es.getD i e0).fr; omega), fun e => h3.2 (by show ((node : Nat) : Int) = (es.getD i e0).to_; omega)⟩
    · exact a3 j h1 (by rw [kn_set hl, if_neg e]; exact h2)
structure AlI (n : Nat) (es : List REdge) (i : Nat) (kn : List Bool) (out : List RQuat) : Prop where
  fi : FI n es kn out
  up : ∀ j, j < i → kn.getD j false = true
  cl : ∀ j, kn.getD j false = true → nbK n es kn j
theorem AlI_0 : AlI n es 0 (List.replicate n false) (List.replicate n zQ) := by
  have hk : ∀ j, (List.replicate n false).getD j false = false := fun j => by
    rw [List.getD_eq_getElem?_getD, List.getElem?_replicate]; split <;> rfl
  refine ⟨⟨by simp, ⟨by simp, fun j hj => .inl ?_⟩, fun j hj h => by rw [hk] at h; cases h⟩, fun j hj => by omega, fun j h => by rw [hk] at h; cases h⟩
  unfold getQ; simp [List.getD_eq_getElem?_getD, hj]
theorem AlI.skip {i : Nat} {kn : List Bool} {out : List RQuat} (h : AlI n es i kn out) (hk : kn.getD i false = true) : AlI n es (i + 1) kn out :=
  ⟨h.fi, fun j hj => by
    by_cases e : j = i
    · subst e; exact hk
    · exact h.up j (by omega), h.cl⟩
theorem AlI.root (heo : EsOk n es) {i : Nat} {kn : List Bool} {out : List RQuat} (h : AlI n es i kn out) (hi : i < n) (hk : kn.getD i false = false) : aV n es i = q1 := by
  have rj := tPar_rng heo (Nat.le_refl es.length) hi
  refine tV_root heo (Nat.le_refl es.length) hi ?_
  apply Classical.byContradiction
  intro hne
  have hlt : ((tPar true n es es.length).getD i 0).toNat < i := by omega
  have hcl := tPar_closed heo (fun j => kn.getD j false = true) (Nat.le_refl es.length) (fun q hq => by
    exact ⟨fun e => (h.cl _ e q hq).1 rfl, fun e => (h.cl _ e q hq).2 rfl⟩) (i := ((tPar true n es es.length).getD i 0).toNat) (j := i) (by omega) hi (tPar_root heo (Nat.le_refl es.length) hi)
  have := hcl.1 (h.up _ hlt)
  rw [this] at hk; cases hk
theorem AlI.pre (heo : EsOk n es) {i : Nat} {kn : List Bool} {out : List RQuat} (h : AlI n es i kn out) (hi : i < n) (hk : kn.getD i false = false) : FwPre n es n i kn (out.set i q1) := by
  have hl : i < out.length := by rw [h.fi.2.1.1]; exact hi
  have hr := h.root heo hi hk
  refine ⟨⟨h.fi.1, h.fi.2.1.set hi (by rw [hr, q1_can]; exact q1_ok.2) (by rw [hr, q1_can]), fun j hj hkj => ?_⟩, hi, hk, by rw [getQ_set hl, if_pos rfl]; exact q1_nz, ?_⟩
  · rw [getQ_set hl]; split
    · exact q1_nz
    · exact h.fi.2.2 j hj hkj
  · unfold uk
    exact Nat.le_trans List.countP_le_length (by rw [h.fi.1]; exact Nat.le_refl _)
theorem AlI.next {i : Nat} {kn : List Bool} {out : List RQuat} (h : AlI n es i kn out) {r : FwR} (hr : FwPost n es i kn r) : AlI n es (i + 1) r.2.1 r.2.2 := by
  refine ⟨hr.fi, fun j hj => ?_, fun j hj => ?_⟩
  · by_cases e : j = i
    · subst e; exact hr.nd
    · exact hr.le _ (h.up j (by omega))
  · by_cases hk : kn.getD j false = true
    · exact (h.cl j hk).mono hr.le
    · exact hr.cl j hj (by simpa using hk)
theorem AlI.end_ (heo : EsOk n es) {i : Nat} {kn : List Bool} {out : List RQuat} (h : AlI n es i kn out) (hi : i = n) : out = absL n es ∧ absC n es = 0 := by
  subst hi
  have hall : ∀ j, j < i → getQ out j ≠ zQ := fun j hj => h.fi.2.2 j hj (h.up j hj)
  refine ab_all heo h.fi.2.1 (fun j hj _ => hall j hj) fun q hq => ?_
  obtain ⟨q', hq', e⟩ := tTak_mem hq
  have hx := eget heo (k := q) (by omega)
  have x0 := hx.f0; have x1 := hx.f1; have x2 := hx.t0; have x3 := hx.t1
  exact ⟨fun _ => hall _ (by omega), fun _ => hall _ (by omega)⟩
end
end Go.Fid
