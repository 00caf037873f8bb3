/- Part 30 of a proof: rules, plain facts, and functions walked. -/
import Derived.Test.YtihgdjljnaekmaaGreatM29
import Derived.Test.YtihgdjljnaekmaaGreatM22
namespace Go.Proofs.YtihgdjljnaekmaaGreat
open Go.Fid
set_option maxRecDepth 4000
set_option linter.unusedVariables false
set_option linter.unusedSimpArgs false
theorem cb31 : callB Tryz.prog 31 = true := by kernel_rfl
theorem l_arn (n : Int) (es : List REdge) (ws : List Int) (hb : es.length ≤ 1000000) (hbw : ws.length ≤ 1000000) : Takes Tryz.prog 31 [(.val (.int .i64 (n))), (.sl 56 6 (List.map encEdge es)), (.sl 3 1 (List.map enc_i64 ws))] (.tup [(encQuat (arnV n es ws)), (.val (.int .i64 ((((arnC n es ws) : Nat) : Int))))]) := by
  refine fn_intro Tryz.func31 rfl cb31 rfl ?_
  show PWp _ _ _ _ ⟨[(0, (vi n)), (1, (vl 56 6 encEdge es)), (2, (vl 3 1 enc_i64 ws))], []⟩
  refine pwp_seq <| kx [(6, (.ref 0 0))] [(0, some (bx (encQuat (RQuat.mk 0 0 0 0))))] (zN (oAl 0 ze28 zo28) <| zM <| zZ) ?_
  refine pwp_seq <| pwp_seq <| kx [(8, (vin (lopC n es)))] [] (zM <| zM <| zE (oCl (l_check n es hb)) <| zM <| zZ) ?_
  refine pwp_seq <| kx [(25, (vb ((((lopC n es) : Nat) : Int) != 0)))] [] (zM <| zE oNe <| zZ) ?_
  refine pwp_cond (b := ((((lopC n es) : Nat) : Int) != 0)) rfl (fun h1 => ?_) (fun h1 => ?_)
  · replace h1 := bne_iff_ne.1 h1
    refine pwp_seq <| kx [(7, (vin (lopC n es)))] [(0, some (bx (encQuat (RQuat.mk 0 0 0 0))))] (zE (oBd pl28 ze28 zo28) <| zM <| zT (oSt sh28) <| zM <| zZ) ?_
    refine pwp_ret ⟨_, (res_a (cs := (bx (encQuat (RQuat.mk 0 0 0 0)))) (d := (encQuat (RQuat.mk 0 0 0 0))) rfl rfl sh28 rfl rfl (.tmp (d := (.val (.int .i64 ((((lopC n es) : Nat) : Int))))) rfl .nil)), ?_⟩
    obtain ⟨q1, q2⟩ := arn_n (ws := ws) (rot_ne h1)
    rw [q1, q2]; rfl
  · replace h1 := bne_eq_false_iff_eq.1 h1
    have hc0 : lopC n es = 0 := by omega
    obtain ⟨_, _, hl2, heo⟩ := lopC_0 hc0
    have htk := heo.tok
    refine pwp_skip <| pwp_seq <| pwp_seq <| kx [(30, (vb (decide (256 < ((ws.length : Nat) : Int)))))] [] (zM <| zE (oLm el60) <| zE oGt <| zZ) ?_
    refine pwp_cond (b := decide (256 < ((ws.length : Nat) : Int))) rfl (fun h2 => ?_) (fun h2 => ?_)
    · replace h2 := of_decide_eq_true h2
      refine pwp_seq <| kx [(7, (vin 9))] [(0, some (bx (encQuat (RQuat.mk 0 0 0 0))))] (zE (oBd pl28 ze28 zo28) <| zT (oSt sh28) <| zM <| zZ) ?_
      refine pwp_ret ⟨_, (res_a (cs := (bx (encQuat (RQuat.mk 0 0 0 0)))) (d := (encQuat (RQuat.mk 0 0 0 0))) rfl rfl sh28 rfl rfl (.tmp (d := (.val (.int .i64 (9)))) rfl .nil)), ?_⟩
      obtain ⟨q1, q2⟩ := arn_0 (ws := ws) hc0
      obtain ⟨q3, q4⟩ := ard_9 (es := es) (ws := ws) (by omega)
      rw [q1, q2, q3, q4]; rfl
    · replace h2 := of_decide_eq_false h2
      refine pwp_skip <| pwp_seq <| pwp_seq <| kx [(32, (vl 3 1 enc_i64 ws)), (33, (vin ws.length)), (34, (vin 0))] [] (zM <| zE (oLm el60) <| zM <| zZ) ?_
      refine pwp_block <| pwp_loop (α := Nat) (fun m => ⟨[(1, (vl 56 6 encEdge es)), (2, (vl 3 1 enc_i64 ws)), (6, (.ref 0 0)), (32, (vl 3 1 enc_i64 ws)), (33, (vin ws.length)), (34, (vin m))], [(0, some (bx (encQuat (RQuat.mk 0 0 0 0))))]⟩) (fun m => m ≤ ws.length ∧ inUp es ws m) (fun m => ws.length - m) 0 wk ⟨Nat.zero_le _, fun i hi => by omega⟩ ?_
      rintro m ⟨hm, hvinUp⟩
      refine pwp_seq <| kx [(35, (vb (decide (((m : Nat) : Int) < ((ws.length : Nat) : Int)))))] [] (zE oLt <| zZ) ?_
      refine pwp_seq <| pwp_cond rfl (fun h3 => ?_) (fun h3 => ?_)
      · replace h3 := of_decide_eq_true h3
        refine pwp_skip <| pwp_seq <| pwp_block <| pwp_seq <| kx [(10, (vi (ws.getD m 0)))] [] (zE (oXl el60 m (0 : Int)) <| zE (oC1 sh3) <| zM <| zZ) ?_
        refine pwp_seq <| kx [(48, (vb (decide (((es.length : Nat) : Int) ≤ (ws.getD m 0)) || decide ((ws.getD m 0) < -((es.length : Nat) : Int)))))] [] ?_ ?_
        · refine zM <| zM <| zE (oLm el39) <| zE oGe <| zE (oV (vb (decide (((es.length : Nat) : Int) ≤ (ws.getD m 0)))) (mv_ok (by kernel_rfl))) <| ?_
          rcases hb4 : (decide (((es.length : Nat) : Int) ≤ (ws.getD m 0))) with _ | _
          · replace hb4 := of_decide_eq_false hb4
            exact zM <| zM <| zE (oLm el39) <| zE (oNg (-((es.length : Nat) : Int)) (hr := by exact (wAny (by first | omega | rfl | (dsimp only; omega)) (by simp only [kLo]; omega) (by simp only [kHi]; omega)))) <| zE oLt <| zE oPo <| zZ
          · replace hb4 := of_decide_eq_true hb4
            exact zK <| zK <| zK <| zK <| zK <| zE oPt <| zZ
        refine pwp_cond rfl (fun h5 => ?_) (fun h5 => ?_)
        · refine pwp_seq <| kx [(7, (vin 2))] [(0, some (bx (encQuat (RQuat.mk 0 0 0 0))))] (zE (oBd pl28 ze28 zo28) <| zT (oSt sh28) <| zM <| zZ) ?_
          refine pwp_ret ⟨_, (res_a (cs := (bx (encQuat (RQuat.mk 0 0 0 0)))) (d := (encQuat (RQuat.mk 0 0 0 0))) rfl rfl sh28 rfl rfl (.tmp (d := (.val (.int .i64 (2)))) rfl .nil)), ?_⟩
          obtain ⟨q1, q2⟩ := arn_0 (ws := ws) hc0
          obtain ⟨q3, q4⟩ := ard_2 (by omega) (inUp_no (k := m) (by omega) (exB_t h5))
          rw [q1, q2, q3, q4]; rfl
        · refine pwp_skip <| kx [(34, (vin (m + 1)))] [] (zE (oAd (m + 1)) <| zM <| zZ) ?_
          exact ⟨(m + 1), wk, ⟨by omega, inUp_s hvinUp (exB_f h5)⟩, (by omega)⟩
      · replace h3 := of_decide_eq_false h3
        have hw := inUp_end (by omega) hvinUp
        refine pwp_exit <| pwp_seq <| pwp_seq <| kx [(51, (vl 3 1 enc_i64 ws)), (52, (vin ws.length)), (53, (vin 0))] [] (zM <| zE (oLm el60) <| zM <| zZ) ?_
        refine pwp_block <| pwp_loop (α := Nat) (fun m => ⟨[(1, (vl 56 6 encEdge es)), (2, (vl 3 1 enc_i64 ws)), (6, (.ref 0 0)), (51, (vl 3 1 enc_i64 ws)), (52, (vin ws.length)), (53, (vin m))], [(0, some (bx (encQuat (RQuat.mk 0 0 0 0))))]⟩) (fun m => m ≤ ws.length ∧ cbUp es ws m) (fun m => ws.length - m) 0 wk ⟨Nat.zero_le _, fun i hi => by omega⟩ ?_
        rintro m ⟨hm, hvcbUp⟩
        refine pwp_seq <| kx [(54, (vb (decide (((m : Nat) : Int) < ((ws.length : Nat) : Int)))))] [] (zE oLt <| zZ) ?_
        refine pwp_seq <| pwp_cond rfl (fun h6 => ?_) (fun h6 => ?_)
        · replace h6 := of_decide_eq_true h6
          refine pwp_skip <| pwp_seq <| pwp_block <| pwp_seq <| kx [(11, (vin m)), (12, (vi (ws.getD m 0)))] [] (zM <| zE (oXl el60 m (0 : Int)) <| zE (oC1 sh3) <| zM <| zM <| zZ) ?_
          refine pwp_seq <| kx [(13, (vi (stF es (ws.getD m 0))))] [(1, none)] (zM <| zM <| zE (oCl (l_step es (ws.getD m 0) hb htk (wIn_at hw (by omega)))) <| zM <| zE oEx <| zE oEx <| zE oEx <| zE oEx <| zN (oAl 1 ze28 zo28) <| zM <| zM <| zT (oSt sh28) <| zM <| zZ) ?_
          refine pwp_seq <| kx [(18, (vi (stT es (ws.getD ((m + ws.length - 1) % ws.length) 0))))] [(2, none)] (zM <| zM <| zM <| zM <| zE (oLm el60) <| zE (oAd (m + ws.length)) <| zE (oSb (m + ws.length - 1)) <| zM <| zE (oLm el60) <| zE (oRe ((m + ws.length - 1) % ws.length)) <| zE (oXl el60 ((m + ws.length - 1) % ws.length) (0 : Int) (hj := by first | omega | exact Nat.mod_lt _ (by omega)) (h1 := by first | omega | exact Nat.mod_lt _ (by omega))) <| zE (oC1 sh3) <| zE (oCl (l_step es (ws.getD ((m + ws.length - 1) % ws.length) 0) hb htk (wIn_at hw (Nat.mod_lt _ (by omega))))) <| zM <| zE oEx <| zE oEx <| zE oEx <| zE oEx <| zN (oAl 2 ze28 zo28) <| zM <| zM <| zT (oSt sh28) <| zM <| zZ) ?_
          refine pwp_seq <| kx [(86, (vb ((stF es (ws.getD m 0)) != (stT es (ws.getD ((m + ws.length - 1) % ws.length) 0)))))] [] (zM <| zM <| zE oNe <| zZ) ?_
          refine pwp_cond rfl (fun h7 => ?_) (fun h7 => ?_)
          · replace h7 := bne_iff_ne.1 h7
            refine pwp_seq <| kx [(7, (vin 5))] [(0, some (bx (encQuat (RQuat.mk 0 0 0 0))))] (zE (oBd pl28 ze28 zo28) <| zT (oSt sh28) <| zM <| zZ) ?_
            refine pwp_ret ⟨_, (res_a (cs := (bx (encQuat (RQuat.mk 0 0 0 0)))) (d := (encQuat (RQuat.mk 0 0 0 0))) rfl rfl sh28 rfl rfl (.tmp (d := (.val (.int .i64 (5)))) rfl .nil)), ?_⟩
            obtain ⟨q1, q2⟩ := arn_0 (ws := ws) hc0
            obtain ⟨q3, q4⟩ := ard_5 (by omega) hw (cb_no (k := m) (by omega) h7)
            rw [q1, q2, q3, q4]; rfl
          · replace h7 := bne_eq_false_iff_eq.1 h7
            refine pwp_skip <| kx [(53, (vin (m + 1)))] [] (zE (oAd (m + 1)) <| zM <| zZ) ?_
            exact ⟨(m + 1), wk, ⟨by omega, up_s hvcbUp h7⟩, (by omega)⟩
        · replace h6 := of_decide_eq_false h6
          refine pwp_exit <| pwp_seq <| kx [(7, (vin (aroC es ws)))] [(0, some (bx (encQuat (aroV es ws))))] (zM <| zM <| zE (oCl (l_aro es 3 ws hb hbw htk hw)) <| zE oEx <| zE oEx <| zT (oSt sh28) <| zM <| zZ) ?_
          refine pwp_ret ⟨_, (res_a (cs := (bx (encQuat (aroV es ws)))) (d := (encQuat (aroV es ws))) rfl rfl sh28 rfl rfl (.tmp (d := (.val (.int .i64 ((((aroC es ws) : Nat) : Int))))) rfl .nil)), ?_⟩
          obtain ⟨q1, q2⟩ := arn_0 (ws := ws) hc0
          obtain ⟨q3, q4⟩ := ard_y (by omega) hw (clP_back.2 (fun i hi => hvcbUp i (by omega)))
          rw [q1, q2, q3, q4]; rfl
end Go.Proofs.YtihgdjljnaekmaaGreat
set_option linter.unusedVariables false
set_option linter.unusedSimpArgs false
namespace Go.Fid
def jnB (p q a b : Int) : Bool := ((p == a) && (q == b)) || ((p == b) && (q == a))
def hsB (p q a : Int) : Bool := (p == a) || (q == a)
def alI (p node k : Int) : Int := if p = node then k else -1 - k
def pTr (a b p q r s : Int) : Bool :=
  if jnB p q a b = true then false else if hsB p q b = true then jnB r s (a + b - b) (p + q - b) else if hsB p q a = true then jnB r s (a + b - a) (p + q - a) else false
def pWk (a b p q r s j k : Int) : Int × Int :=
  if hsB p q b = true then (alI p b j, alI r (p + q - b) k) else (alI r b k, alI p (p + q - a) j)
def trB (es : List REdge) (i j k : Nat) : Bool := pTr (es.getD i e0).fr (es.getD i e0).to_ (es.getD j e0).fr (es.getD j e0).to_ (es.getD k e0).fr (es.getD k e0).to_
def wkP (es : List REdge) (i j k : Nat) : Int × Int := pWk (es.getD i e0).fr (es.getD i e0).to_ (es.getD j e0).fr (es.getD j e0).to_ (es.getD k e0).fr (es.getD k e0).to_ ((j : Nat) : Int) ((k : Nat) : Int)
theorem bn_t {b : Bool} (h : (!b) = true) : b = false := by simpa using h
theorem bn_f {b : Bool} (h : (!b) = false) : b = true := by simpa using h
theorem t_push {α β : Type} {f : α → β} {L : List α} {out : List β} {x : α} {y : β} (h : out = List.map f L) (e : y = f x) : out ++ [y] = List.map f (L ++ [x]) := by rw [h, e, List.map_append]; rfl
abbrev T3 := Nat × Nat × Nat
def tIn (es : List REdge) (i j K : Nat) : List T3 := ((List.range K).filter fun m => decide (j < m) && trB es i j m).map fun m => (i, j, m)
def tMid (es : List REdge) (i J : Nat) : List T3 := (List.range J).flatMap fun m => if i < m then tIn es i m es.length else []
def tAll (es : List REdge) (I : Nat) : List T3 := (List.range I).flatMap fun m => tMid es m es.length
def tris (es : List REdge) : List T3 := tAll es es.length
theorem tIn_0 (es : List REdge) (i j : Nat) : tIn es i j (j + 1) = [] := by
  unfold tIn
  rw [List.map_eq_nil_iff, List.filter_eq_nil_iff]
  intro m hm
  simp at hm ⊢; intro h; omega
theorem tIn_y {es : List REdge} {i j K : Nat} (h : j < K) (hb : trB es i j K = true) : tIn es i j (K + 1) = tIn es i j K ++ [(i, j, K)] := by
  unfold tIn
  rw [List.range_succ, List.filter_append, List.map_append]
  simp [h, hb]
theorem tIn_n {es : List REdge} {i j K : Nat} (hb : trB es i j K = false) : tIn es i j (K + 1) = tIn es i j K := by
  unfold tIn
  rw [List.range_succ, List.filter_append, List.map_append]
  simp [hb]
theorem tIn_nil {es : List REdge} {i j K : Nat} (h : ∀ m, trB es i j m = false) : tIn es i j K = [] := by
  unfold tIn
  rw [List.map_eq_nil_iff, List.filter_eq_nil_iff]
  intro m hm; simp [h m]
theorem tMid_0 (es : List REdge) (i : Nat) : tMid es i (i + 1) = [] := by
  unfold tMid
  rw [List.flatMap_eq_nil_iff]
  intro m hm
  rw [if_neg]; simp at hm; omega
theorem tMid_s {es : List REdge} {i J : Nat} (h : i < J) : tMid es i (J + 1) = tMid es i J ++ tIn es i J es.length := by
  unfold tMid
  rw [List.range_succ, List.flatMap_append]
  simp [h]
theorem tAll_s (es : List REdge) (I : Nat) : tAll es (I + 1) = tAll es I ++ tMid es I es.length := by
  unfold tAll
  rw [List.range_succ, List.flatMap_append]; simp
theorem tIn_len (es : List REdge) (i j K : Nat) : (tIn es i j K).length ≤ K := by
  unfold tIn
  rw [List.length_map]
  exact Nat.le_trans (List.length_filter_le _ _) (by simp)
theorem tMid_len (es : List REdge) (i : Nat) : ∀ J, (tMid es i J).length ≤ J * es.length
  | 0 => by simp [tMid]
  | J + 1 => by
    have ih := tMid_len es i J
    have h1 := tIn_len es i J es.length
    unfold tMid at ih ⊢
    rw [List.range_succ, List.flatMap_append, List.length_append, Nat.add_mul]
    have : (if i < J then tIn es i J es.length else []).length ≤ es.length := by
      by_cases h : i < J
      · simp only [h, if_true]; exact h1
      · simp only [h, if_false]; simp
    simp only [List.flatMap_cons, List.flatMap_nil, List.append_nil]
    omega
theorem tAll_len (es : List REdge) : ∀ I, (tAll es I).length ≤ I * (es.length * es.length)
  | 0 => by simp [tAll]
  | I + 1 => by
    have ih := tAll_len es I
    have h1 := tMid_len es I es.length
    rw [tAll_s, List.length_append, Nat.add_mul]; omega
theorem t_room {es : List REdge} {i j k : Nat} (h : es.length ≤ 256) (hi : i ≤ es.length) (hj : j ≤ es.length) (hk : k ≤ es.length) : (tAll es i ++ tMid es i j ++ tIn es i j k).length ≤ 20000000 := by
  have h1 := tAll_len es i
  have h2 := tMid_len es i j
  have h3 := tIn_len es i j k
  have a1 : es.length * es.length ≤ 256 * 256 := Nat.mul_le_mul h h
  have a2 : i * (es.length * es.length) ≤ 256 * (256 * 256) := Nat.mul_le_mul (by omega) a1
  have a3 : j * es.length ≤ 256 * 256 := Nat.mul_le_mul (by omega) h
  simp only [List.length_append]
  omega
theorem trA {es : List REdge} {i j k : Nat} (h1 : jnB (es.getD j e0).fr (es.getD j e0).to_ (es.getD i e0).fr (es.getD i e0).to_ = false) (h2 : hsB (es.getD j e0).fr (es.getD j e0).to_ (es.getD i e0).to_ = true) :
    trB es i j k = jnB (es.getD k e0).fr (es.getD k e0).to_ ((es.getD i e0).fr + (es.getD i e0).to_ - (es.getD i e0).to_) ((es.getD j e0).fr + (es.getD j e0).to_ - (es.getD i e0).to_) ∧
      wkP es i j k = (alI (es.getD j e0).fr (es.getD i e0).to_ ((j : Nat) : Int), alI (es.getD k e0).fr ((es.getD j e0).fr + (es.getD j e0).to_ - (es.getD i e0).to_) ((k : Nat) : Int)) := by
  unfold trB pTr wkP pWk
  rw [h1, h2]; exact ⟨rfl, rfl⟩
theorem trC {es : List REdge} {i j k : Nat} (h1 : jnB (es.getD j e0).fr (es.getD j e0).to_ (es.getD i e0).fr (es.getD i e0).to_ = false) (h2 : hsB (es.getD j e0).fr (es.getD j e0).to_ (es.getD i e0).to_ = false) (h3 : hsB (es.getD j e0).fr (es.getD j e0).to_ (es.getD i e0).fr = true) :
    trB es i j k = jnB (es.getD k e0).fr (es.getD k e0).to_ ((es.getD i e0).fr + (es.getD i e0).to_ - (es.getD i e0).fr) ((es.getD j e0).fr + (es.getD j e0).to_ - (es.getD i e0).fr) ∧
      wkP es i j k = (alI (es.getD k e0).fr (es.getD i e0).to_ ((k : Nat) : Int), alI (es.getD j e0).fr ((es.getD j e0).fr + (es.getD j e0).to_ - (es.getD i e0).fr) ((j : Nat) : Int)) := by
  unfold trB pTr wkP pWk
  rw [h1, h2, h3]; exact ⟨rfl, rfl⟩
theorem trN1 {es : List REdge} {i j k : Nat} (h1 : jnB (es.getD j e0).fr (es.getD j e0).to_ (es.getD i e0).fr (es.getD i e0).to_ = true) : trB es i j k = false := by
  unfold trB pTr; rw [h1]; rfl
theorem trN2 {es : List REdge} {i j k : Nat} (h2 : hsB (es.getD j e0).fr (es.getD j e0).to_ (es.getD i e0).to_ = false) (h3 : hsB (es.getD j e0).fr (es.getD j e0).to_ (es.getD i e0).fr = false) : trB es i j k = false := by
  unfold trB pTr; rw [h2, h3]; split <;> rfl
end Go.Fid
set_option linter.unusedVariables false
set_option linter.unusedSimpArgs false
namespace Go.Fid
abbrev zQ : RQuat := ⟨0, 0, 0, 0⟩
def parL (n : Nat) (es : List REdge) : List Int := tPar true n es es.length
theorem q_nz {q : RQuat} (h : Qnz q) : q ≠ zQ := qnz_iff.1 h
section
variable {n : Nat} {es : List REdge}
theorem aV_nz (h : EsOk n es) (j : Nat) : Qnz (aV n es j) := tV_nz h (Nat.le_refl _) j
theorem aV_sat (h : EsOk n es) {i : Nat} (hi : (i : Int) ∈ treL n es) : Qeq (aV n es (es.getD i e0).fr.toNat) (qmul (aV n es (es.getD i e0).to_.toNat) (es.getD i e0).turn) := tV_sat h (Nat.le_refl _) hi
theorem aV_back (h : EsOk n es) {i : Nat} (hi : (i : Int) ∈ treL n es) (hl : i < es.length) : Qeq (qmul (aV n es (es.getD i e0).fr.toNat) (qcj (es.getD i e0).turn)) (aV n es (es.getD i e0).to_.toNat) := by
  have hx := eget h hl
  refine ((aV_sat h hi).mul (Qeq.refl _)).trans ?_
  rw [qmul_assoc, qmul_cj, qsc_mul_r, qmul_1]
  exact Qeq.sc (qnz_n.1 hx.q.1) _
theorem ab_yes (h : EsOk n es) {j : Nat} {u : RQuat} (hu : Qnz u) (he : Qeq u (aV n es j)) (hc : qC u = 0) : Qfit (qcan (aV n es j)) ∧ qV u = qcan (aV n es j) := by
  have e := (qcan_iff hu (aV_nz h j)).2 he
  have hf := qC_0.1 hc
  rw [e] at hf
  exact ⟨hf, by rw [qV_c0 hc, e]⟩
theorem ab_no (h : EsOk n es) {j : Nat} {u : RQuat} (hj : j < n) (hu : Qnz u) (he : Qeq u (aV n es j)) (hc : qC u ≠ 0) : absC n es = 3 ∧ absL n es = [] ∧ qC u = 3 := by
  have e := (qcan_iff hu (aV_nz h j)).2 he
  have hn : ¬ aFit n es := fun hf => hc (qC_0.2 (by rw [e]; exact hf j hj))
  exact ⟨if_neg hn, if_neg hn, (qC_01 u).resolve_left hc⟩
def getQ (out : List RQuat) (j : Nat) : RQuat := out.getD j zQ
def AbI (n : Nat) (es : List REdge) (out : List RQuat) : Prop := out.length = n ∧ ∀ j, j < n → getQ out j = zQ ∨ (Qfit (qcan (aV n es j)) ∧ getQ out j = qcan (aV n es j))
theorem AbI.at (h : EsOk n es) {out : List RQuat} (ho : AbI n es out) {j : Nat} (hj : j < n) (hz : getQ out j ≠ zQ) : Qok (getQ out j) ∧ getQ out j = qcan (aV n es j) := by
  rcases ho.2 j hj with e | ⟨e1, e2⟩
  · exact absurd e hz
  · rw [e2]; exact ⟨⟨qcan_nz (aV_nz h j), e1⟩, rfl⟩
theorem getQ_set {out : List RQuat} {i j : Nat} {v : RQuat} (hi : i < out.length) : getQ (out.set i v) j = if i = j then v else getQ out j := by
  unfold getQ
  by_cases e : i = j
  · subst e; rw [if_pos rfl, List.getD_eq_getElem?_getD, List.getElem?_set_self hi]; rfl
  · rw [if_neg e, List.getD_eq_getElem?_getD, List.getElem?_set_ne e, ← List.getD_eq_getElem?_getD]
theorem AbI.set {out : List RQuat} (ho : AbI n es out) {j : Nat} {v : RQuat} (hj : j < n) (h1 : Qfit (qcan (aV n es j))) (h2 : v = qcan (aV n es j)) : AbI n es (out.set j v) := by
  refine ⟨by rw [List.length_set]; exact ho.1, fun i hi => ?_⟩
  rw [getQ_set (by rw [ho.1]; exact hj)]
  split
  · rename_i e; subst e; exact .inr ⟨h1, h2⟩
  · exact ho.2 i hi
def zq (out : List RQuat) : Nat := out.countP fun q => decide (q = zQ)
theorem zq_set {out : List RQuat} {j : Nat} {v : RQuat} (hj : j < out.length) (h1 : getQ out j = zQ) (h2 : v ≠ zQ) : zq (out.set j v) < zq out := by
  unfold zq
  have hv : decide (v = zQ) = false := decide_eq_false h2
  have : ∀ (l : List RQuat) (j : Nat), j < l.length → l.getD j zQ = zQ → (l.set j v).countP (fun q => decide (q = zQ)) < l.countP fun q => decide (q = zQ) := by
    intro l
    induction l with
    | nil => intro j hj; simp at hj
    | cons x l ih =>
      intro j hj hx
      cases j with
      | zero =>
        simp only [List.getD_cons_zero] at hx
        subst hx
        rw [List.set_cons_zero, List.countP_cons, List.countP_cons, if_neg (by rw [hv]; simp), if_pos (by simp)]; omega
      | succ j =>
        simp only [List.getD_cons_succ] at hx
        rw [List.set_cons_succ, List.countP_cons, List.countP_cons]
        have := ih j (by simpa using hj) hx
        omega
  exact this out j hj h1
theorem ab_all (h : EsOk n es) {out : List RQuat} (ho : AbI n es out) (hr : ∀ j, j < n → (parL n es).getD j 0 = j → getQ out j ≠ zQ)
    (hc : ∀ i : Nat, (i : Int) ∈ treL n es → (getQ out (es.getD i e0).fr.toNat ≠ zQ ↔ getQ out (es.getD i e0).to_.toNat ≠ zQ)) : out = absL n es ∧ absC n es = 0 := by
  have hall : ∀ j, j < n → getQ out j ≠ zQ := fun j hj => by
    have rj := tPar_rng h (Nat.le_refl es.length) hj
    have e1 := tPar_root h (Nat.le_refl es.length) hj
    have hrn : ((tPar true n es es.length).getD j 0).toNat < n := by omega
    have h1 := hr _ hrn (by unfold parL; omega)
    exact (tPar_closed h (fun i => getQ out i ≠ zQ) (Nat.le_refl es.length) hc hrn hj e1).1 h1
  have hf : aFit n es := fun j hj => by
    rcases ho.2 j hj with e | ⟨e1, _⟩
    · exact absurd e (hall j hj)
    · exact e1
  refine ⟨?_, if_pos hf⟩
  unfold absL
  rw [if_pos hf]
  apply List.ext_getElem?
  intro j
  by_cases hj : j < n
  · have e := (ho.at h hj (hall j hj)).2
    unfold getQ at e
    rw [List.getD_eq_getElem?_getD, List.getElem?_eq_getElem (by rw [ho.1]; exact hj)] at e
    rw [List.getElem?_eq_getElem (by rw [ho.1]; exact hj), List.getElem?_map, List.getElem?_range hj]
    exact congrArg some e
  · rw [List.getElem?_eq_none (by rw [ho.1]; omega), List.getElem?_eq_none (by simp; omega)]
theorem ab_fwd (h : EsOk n es) {out : List RQuat} (ho : AbI n es out) {i : Nat} (hi : (i : Int) ∈ treL n es) (hl : i < es.length) (hz : getQ out (es.getD i e0).fr.toNat ≠ zQ) :
    Qnz (qmul (getQ out (es.getD i e0).fr.toNat) (qV (qcj (es.getD i e0).turn))) ∧ Qeq (qmul (getQ out (es.getD i e0).fr.toNat) (qV (qcj (es.getD i e0).turn))) (aV n es (es.getD i e0).to_.toNat) := by
  have hx := eget h hl
  have hf : (es.getD i e0).fr.toNat < n := by have := hx.f0; have := hx.f1; omega
  obtain ⟨g1, g2⟩ := ho.at h hf hz
  have e := qV_eq (qcj_nz hx.q.1) (qC_cj hx.q)
  refine ⟨qmul_nz g1.1 (e.symm.nz (qcj_nz hx.q.1)), ?_⟩
  refine Qeq.trans ?_ (aV_back h hi hl)
  rw [g2]
  exact (qcan_eq (aV_nz h _)).mul e
theorem ab_bwd (h : EsOk n es) {out : List RQuat} (ho : AbI n es out) {i : Nat} (hi : (i : Int) ∈ treL n es) (hl : i < es.length) (hz : getQ out (es.getD i e0).to_.toNat ≠ zQ) :
    Qnz (qmul (getQ out (es.getD i e0).to_.toNat) (es.getD i e0).turn) ∧ Qeq (qmul (getQ out (es.getD i e0).to_.toNat) (es.getD i e0).turn) (aV n es (es.getD i e0).fr.toNat) := by
  have hx := eget h hl
  have hf : (es.getD i e0).to_.toNat < n := by have := hx.t0; have := hx.t1; omega
  obtain ⟨g1, g2⟩ := ho.at h hf hz
  refine ⟨qmul_nz g1.1 hx.q.1, ?_⟩
  refine Qeq.trans ?_ (aV_sat h hi).symm
  rw [g2]
  exact (qcan_eq (aV_nz h _)).mul (Qeq.refl _)
end
def AbR (n : Nat) (es : List REdge) (out : List RQuat) : Prop := AbI n es out ∧ ∀ j, j < n → (parL n es).getD j 0 = j → getQ out j ≠ zQ
def clE (es : List REdge) (out : List RQuat) (i : Nat) : Prop := getQ out (es.getD i e0).fr.toNat ≠ zQ ↔ getQ out (es.getD i e0).to_.toNat ≠ zQ
def AbC (es : List REdge) (tk : List Int) (out : List RQuat) (m : Nat) : Prop := ∀ q, q < m → clE es out (tk.getD q 0).toNat
def AbW (n : Nat) (es : List REdge) (tk : List Int) (o0 out : List RQuat) (ag : Bool) (m : Nat) : Prop := AbR n es out ∧ (ag = true → zq out < zq o0) ∧ (ag = false → out = o0 ∧ AbC es tk out m)
section
variable {n : Nat} {es : List REdge} {tk : List Int} {o0 out : List RQuat} {ag : Bool} {m : Nat}
theorem AbW.skip (h : AbW n es tk o0 out ag m) (hc : clE es out (tk.getD m 0).toNat) : AbW n es tk o0 out ag (m + 1) := by
  refine ⟨h.1, h.2.1, fun e => ⟨(h.2.2 e).1, fun q hq => ?_⟩⟩
  by_cases hqm : q = m
  · subst hqm; exact hc
  · exact (h.2.2 e).2 q (by omega)
theorem AbW.zq_le (h : AbW n es tk o0 out ag m) : zq out ≤ zq o0 := by
  cases hag : ag with
  | true => exact Nat.le_of_lt (h.2.1 hag)
  | false => rw [(h.2.2 hag).1]; exact Nat.le_refl _
theorem AbW.put (h : AbW n es tk o0 out ag m) {j m' : Nat} {v : RQuat} (hj : j < n) (hz : getQ out j = zQ) (hv : v ≠ zQ) (h1 : Qfit (qcan (aV n es j))) (h2 : v = qcan (aV n es j)) : AbW n es tk o0 (out.set j v) true m' := by
  have hl : j < out.length := by rw [h.1.1.1]; exact hj
  refine ⟨⟨h.1.1.set hj h1 h2, fun i hi hr => ?_⟩, fun _ => Nat.lt_of_lt_of_le (zq_set hl hz hv) h.zq_le, fun e => by cases e⟩
  rw [getQ_set hl]
  split
  · exact hv
  · exact h.1.2 i hi hr
theorem tre_at {k : Nat} (hk : k < (treL n es).length) : ∃ i : Nat, i < es.length ∧ (treL n es).getD k 0 = i ∧ (i : Int) ∈ treL n es := by
  have hm : (treL n es).getD k 0 ∈ treL n es := by
    rw [List.getD_eq_getElem?_getD, List.getElem?_eq_getElem hk]; exact List.getElem_mem hk
  obtain ⟨i, h1, h2⟩ := tTak_mem hm
  exact ⟨i, h1, h2, h2 ▸ hm⟩
end
theorem parL_len (n : Nat) (es : List REdge) : (parL n es).length = n := tPar_len _ _ _ _
theorem q1_nz : q1 ≠ zQ := by decide
theorem can_nzq {n : Nat} {es : List REdge} (h : EsOk n es) (j : Nat) : qcan (aV n es j) ≠ zQ := q_nz (qcan_nz (aV_nz h j))
end Go.Fid
set_option linter.unusedVariables false
set_option linter.unusedSimpArgs false
namespace Go.Fid
def okL {α : Type} (c : Nat) (l : List α) : List α := if c = 0 then l else []
def okC (c d : Nat) : Nat := if c = 0 then d else c
theorem okL_0 {α : Type} {c : Nat} {l : List α} (h : c = 0) : okL c l = l := if_pos h
theorem okL_n {α : Type} {c : Nat} {l : List α} (h : c ≠ 0) : okL c l = [] := if_neg h
theorem okC_0 {c d : Nat} (h : c = 0) : okC c d = d := if_pos h
theorem okC_n {c d : Nat} (h : c ≠ 0) : okC c d = c := if_neg h
def ebt (ts : List RQuat) (x : REdge) : RQuat := qmul (qV (qcj (getQ ts x.to_.toNat))) (getQ ts x.fr.toNat)
def erX (ts : List RQuat) (x : REdge) : Rat := chQ x.turn (qV (ebt ts x))
def erOk (es : List REdge) (ts : List RQuat) : Prop := ∀ x ∈ es, qC (ebt ts x) = 0
instance (es : List REdge) (ts : List RQuat) : Decidable (erOk es ts) := List.decidableBAll _ _
def erL (es : List REdge) (ts : List RQuat) : List Rat := if erOk es ts then es.map (erX ts) else []
def erC (es : List REdge) (ts : List RQuat) : Nat := if erOk es ts then 0 else 3
def erUp (es : List REdge) (ts : List RQuat) (k : Nat) : Prop := ∀ i, i < k → qC (ebt ts (es.getD i e0)) = 0
def TsOk (n : Nat) (ts : List RQuat) : Prop := ts.length = n ∧ ∀ q ∈ ts, Qok q
section
variable {n : Nat} {es : List REdge} {ts : List RQuat}
theorem TsOk.at (h : TsOk n ts) {j : Nat} (hj : j < n) : Qok (getQ ts j) := by
  unfold getQ
  rw [List.getD_eq_getElem?_getD, List.getElem?_eq_getElem (by rw [h.1]; exact hj)]
  exact h.2 _ (List.getElem_mem _)
theorem ebt_nz (ht : TsOk n ts) (he : EsOk n es) {k : Nat} (hk : k < es.length) : Qnz (ebt ts (es.getD k e0)) := by
  have hx := eget he hk
  have x0 := hx.f0; have x1 := hx.f1; have x2 := hx.t0; have x3 := hx.t1
  have h1 := ht.at (j := (es.getD k e0).to_.toNat) (by omega)
  have h2 := ht.at (j := (es.getD k e0).fr.toNat) (by omega)
  exact qmul_nz (qV_ok (qcj_nz h1.1) (qC_cj h1)).1 h2.1
theorem erUp_0 (es : List REdge) (ts : List RQuat) : erUp es ts 0 := fun i hi => by omega
theorem erUp_s {k : Nat} (h : erUp es ts k) (h1 : qC (ebt ts (es.getD k e0)) = 0) : erUp es ts (k + 1) := fun i hi => by
  by_cases e : i = k
  · subst e; exact h1
  · exact h i (by omega)
theorem mem_getD {k : Nat} (hk : k < es.length) : es.getD k e0 ∈ es := by
  rw [List.getD_eq_getElem?_getD, List.getElem?_eq_getElem hk]; exact List.getElem_mem _
theorem er_no {k : Nat} (hk : k < es.length) (h : qC (ebt ts (es.getD k e0)) ≠ 0) : erL es ts = [] ∧ erC es ts = 3 ∧ qC (ebt ts (es.getD k e0)) = 3 := by
  have hn : ¬ erOk es ts := fun e => h (e _ (mem_getD hk))
  exact ⟨if_neg hn, if_neg hn, (qC_01 _).resolve_left h⟩
theorem er_yes {k : Nat} (hk : k = es.length) (h : erUp es ts k) : erL es ts = (es.take k).map (erX ts) ∧ erC es ts = 0 ∧ erOk es ts := by
  have hn : erOk es ts := fun x hx => by
    obtain ⟨i, hi, rfl⟩ := List.getElem_of_mem hx
    have := h i (by omega)
    rwa [List.getD_eq_getElem?_getD, List.getElem?_eq_getElem hi] at this
  subst hk
  exact ⟨by rw [List.take_length]; exact if_pos hn, if_pos hn, hn⟩
end
def rqC (q : RQuat) : Nat := rotC q.a q.b q.c q.d
def alS (es : List REdge) (ts : List RQuat) : Bool := es.all fun x => sameQ (qV (ebt ts x)) x.turn
def cnC (n : Nat) (es : List REdge) : Nat := okC (absC n es) (erC es (absL n es))
def cnV (n : Nat) (es : List REdge) : Bool := if cnC n es = 0 then alS es (absL n es) else false
def conC (z : Int) (es : List REdge) : Nat := okC (lopC z es) (cnC z.toNat es)
def conV (z : Int) (es : List REdge) : Bool := if lopC z es = 0 then cnV z.toNat es else false
theorem cn_1 {n : Nat} {es : List REdge} (h : absC n es ≠ 0) : cnC n es = absC n es ∧ cnV n es = false := by
  have e : cnC n es = absC n es := okC_n h
  exact ⟨e, if_neg (by rw [e]; exact h)⟩
theorem cn_2 {n : Nat} {es : List REdge} (h : absC n es = 0) (h2 : erC es (absL n es) ≠ 0) : cnC n es = erC es (absL n es) ∧ cnV n es = false := by
  have e : cnC n es = erC es (absL n es) := okC_0 h
  exact ⟨e, if_neg (by rw [e]; exact h2)⟩
theorem cn_3 {n : Nat} {es : List REdge} (h : absC n es = 0) (h2 : erC es (absL n es) = 0) : cnC n es = 0 ∧ cnV n es = alS es (absL n es) := by
  have e : cnC n es = 0 := (okC_0 h).trans h2
  exact ⟨e, if_pos e⟩
theorem con_n {z : Int} {es : List REdge} (h : lopC z es ≠ 0) : conC z es = lopC z es ∧ conV z es = false := ⟨okC_n h, if_neg h⟩
theorem con_0 {z : Int} {es : List REdge} (h : lopC z es = 0) : conC z es = cnC z.toNat es ∧ conV z es = cnV z.toNat es := ⟨okC_0 h, if_pos h⟩
theorem abs_ok {n : Nat} {es : List REdge} (h : EsOk n es) (hc : absC n es = 0) : TsOk n (absL n es) := by
  have hf : aFit n es := by
    unfold absC at hc
    split at hc
    · assumption
    · cases hc
  have he : absL n es = (List.range n).map fun j => qcan (aV n es j) := if_pos hf
  rw [he]
  refine ⟨by simp, fun q hq => ?_⟩
  obtain ⟨j, hj, rfl⟩ := List.mem_map.1 hq
  exact ⟨qcan_nz (aV_nz h j), hf j (List.mem_range.1 hj)⟩
theorem abs_n {n : Nat} {es : List REdge} (hc : absC n es ≠ 0) : absL n es = [] ∧ absC n es = 3 := by
  have hf : ¬ aFit n es := fun hf => hc (if_pos hf)
  exact ⟨if_neg hf, if_neg hf⟩
theorem alS_take {es : List REdge} {ts : List RQuat} {k : Nat} (hk : k < es.length) : alS (es.take (k + 1)) ts = (alS (es.take k) ts && sameQ (qV (ebt ts (es.getD k e0))) (es.getD k e0).turn) := by
  unfold alS
  rw [List.take_add_one, List.getElem?_eq_getElem hk, List.getD_eq_getElem?_getD, List.getElem?_eq_getElem hk, List.all_append]; simp
end Go.Fid
set_option linter.unusedVariables false
set_option linter.unusedSimpArgs false
namespace Go.Fid
def wt (es : List REdge) (t : T3) : List Int := [((t.1 : Nat) : Int), (wkP es t.1 t.2.1 t.2.2).1, (wkP es t.1 t.2.1 t.2.2).2]
abbrev z3 : T3 := (0, 0, 0)
def triIn (es : List REdge) (t : T3) : Prop := t.1 < t.2.1 ∧ t.2.1 < t.2.2 ∧ t.2.2 < es.length ∧ trB es t.1 t.2.1 t.2.2 = true
theorem tris_mem {es : List REdge} {t : T3} : t ∈ tris es ↔ triIn es t := by
  obtain ⟨i, j, k⟩ := t
  unfold tris tAll tMid tIn triIn
  simp only [List.mem_flatMap, List.mem_range]
  constructor
  · rintro ⟨a, ha, b, hb, h⟩
    split at h
    · rename_i hab
      obtain ⟨c, hc, e⟩ := List.mem_map.1 h
      rw [List.mem_filter, Bool.and_eq_true, decide_eq_true_eq, List.mem_range] at hc
      injection e with e1 e; injection e with e2 e3
      subst e1; subst e2; subst e3
      exact ⟨hab, hc.2.1, hc.1, hc.2.2⟩
    · cases h
  · rintro ⟨h1, h2, h3, h4⟩
    have h1 : i < j := h1
    have h2 : j < k := h2
    have h3 : k < es.length := h3
    have h4 : trB es i j k = true := h4
    refine ⟨i, by omega, j, by omega, ?_⟩
    rw [if_pos h1]
    exact List.mem_map.2 ⟨k, by rw [List.mem_filter, Bool.and_eq_true, decide_eq_true_eq, List.mem_range]; exact ⟨h3, h2, h4⟩, rfl⟩
theorem tris_at {es : List REdge} {m : Nat} (h : m < (tris es).length) : triIn es ((tris es).getD m z3) := by
  rw [List.getD_eq_getElem?_getD, List.getElem?_eq_getElem h]; exact tris_mem.1 (List.getElem_mem _)
theorem tris_len {es : List REdge} (h : es.length ≤ 256) : (tris es).length ≤ 16777216 := by
  refine Nat.le_trans (tAll_len es es.length) ?_
  exact Nat.mul_le_mul h (Nat.mul_le_mul h h)
theorem alI_or (p a k : Int) : alI p a k = k ∨ alI p a k = -1 - k := by
  unfold alI; split
  · exact .inl rfl
  · exact .inr rfl
theorem wk_cases {es : List REdge} {t : T3} : ∃ j k : Nat, (j = t.2.1 ∧ k = t.2.2 ∨ j = t.2.2 ∧ k = t.2.1) ∧ ((wkP es t.1 t.2.1 t.2.2).1 = ((j : Nat) : Int) ∨ (wkP es t.1 t.2.1 t.2.2).1 = -1 - ((j : Nat) : Int)) ∧ ((wkP es t.1 t.2.1 t.2.2).2 = ((k : Nat) : Int) ∨ (wkP es t.1 t.2.1 t.2.2).2 = -1 - ((k : Nat) : Int)) := by
  unfold wkP pWk
  split
  · exact ⟨t.2.1, t.2.2, .inl ⟨rfl, rfl⟩, alI_or _ _ _, alI_or _ _ _⟩
  · exact ⟨t.2.2, t.2.1, .inr ⟨rfl, rfl⟩, alI_or _ _ _, alI_or _ _ _⟩
theorem wt_in {es : List REdge} {t : T3} (h : triIn es t) : wIn es (wt es t) := by
  obtain ⟨h1, h2, h3, _⟩ := h
  obtain ⟨j, k, hjk, e1, e2⟩ := wk_cases (es := es) (t := t)
  intro x hx
  unfold wt at hx
  unfold inE
  simp only [List.mem_cons, List.not_mem_nil, or_false] at hx
  rcases hx with rfl | rfl | rfl
  · omega
  · rcases e1 with e | e <;> rw [e] <;> omega
  · rcases e2 with e | e <;> rw [e] <;> omega
theorem aro_ok {es : List REdge} {ws : List Int} (ht : Tok es) (hw : wIn es ws) (h : aroC es ws = 0) : Qok (aroV es ws) := by
  have hok : arOk es ws := by
    unfold aroC at h
    split at h
    · assumption
    · cases h
  unfold aroV
  rw [if_pos hok]
  exact arV_ok ht hw (Nat.le_refl _) hok
def gnS (p q : Rat) : Int := if 0 < cmpQ q p then -1 else 1
def gnT (p : Rat) (es : List REdge) (t : T3) : Int := gnS p (chQ q1 (aroV es (wt es t)))
def vA (v : List Int) (k : Nat) (g : Int) : List Int := v.set k (v.getD k 0 + g)
def vT (v : List Int) (t : T3) (g : Int) : List Int := vA (vA (vA v t.1 g) t.2.1 g) t.2.2 g
def vts (p : Rat) (es : List REdge) (l : List T3) : List Int := l.foldl (fun v t => vT v t (gnT p es t)) (List.replicate es.length 0)
def seOk (es : List REdge) : Prop := ∀ t ∈ tris es, aroC es (wt es t) = 0
instance (es : List REdge) : Decidable (seOk es) := List.decidableBAll _ _
def seC (es : List REdge) : Nat := if seOk es then 0 else 3
def VB (b : Int) (v : List Int) : Prop := ∀ j, -b ≤ v.getD j 0 ∧ v.getD j 0 ≤ b
theorem VB_0 (n : Nat) : VB 0 (List.replicate n 0) := fun j => by
  rw [List.getD_eq_getElem?_getD, List.getElem?_replicate]; split <;> simp
theorem gnS_01 (p q : Rat) : gnS p q = 1 ∨ gnS p q = -1 := by unfold gnS; split <;> simp
theorem VB_s {b : Int} {v : List Int} {g : Int} (h : VB b v) (hg : g = 1 ∨ g = -1) (k : Nat) : VB (b + 1) (v.set k (v.getD k 0 + g)) := fun j => by
  have h1 := h j; have h2 := h k
  by_cases e : k = j
  · subst e
    by_cases hk : k < v.length
    · rw [List.getD_eq_getElem?_getD, List.getElem?_set_self hk, Option.getD_some]; omega
    · rw [List.set_eq_of_length_le (by omega)]; omega
  · rw [List.getD_eq_getElem?_getD, List.getElem?_set_ne e, ← List.getD_eq_getElem?_getD]; omega
theorem VB_w {b : Int} {v : List Int} {g : Int} (h : VB b v) (hg : g = 1 ∨ g = -1) (hb : b ≤ 100000000) (k : Nat) : -9223372036854775808 ≤ v.getD k 0 + g ∧ v.getD k 0 + g ≤ 9223372036854775807 := by
  have := h k; omega
theorem vts_s {p : Rat} {es : List REdge} {m : Nat} (h : m < (tris es).length) : vts p es ((tris es).take (m + 1)) = vT (vts p es ((tris es).take m)) ((tris es).getD m z3) (gnT p es ((tris es).getD m z3)) := by
  unfold vts
  rw [List.take_succ_eq_append_getElem h, List.foldl_append, List.getD_eq_getElem?_getD, List.getElem?_eq_getElem h]; rfl
theorem vA_len (v : List Int) (k : Nat) (g : Int) : (vA v k g).length = v.length := by simp [vA]
theorem vts_len (p : Rat) (es : List REdge) (l : List T3) : (vts p es l).length = es.length := by
  unfold vts
  have : ∀ (l : List T3) (v : List Int), v.length = es.length → (l.foldl (fun v t => vT v t (gnT p es t)) v).length = es.length := by
    intro l
    induction l with
    | nil => intro v h; exact h
    | cons t l ih => intro v h; exact ih _ (by unfold vT; simp only [vA_len]; exact h)
  exact this l _ (by simp)
def seUp (es : List REdge) (m : Nat) : Prop := ∀ i, i < m → aroC es (wt es ((tris es).getD i z3)) = 0
theorem seUp_0 (es : List REdge) : seUp es 0 := fun i hi => by omega
theorem seUp_s {es : List REdge} {m : Nat} (h : seUp es m) (h1 : aroC es (wt es ((tris es).getD m z3)) = 0) : seUp es (m + 1) := fun i hi => by
  by_cases e : i = m
  · subst e; exact h1
  · exact h i (by omega)
theorem se_no {es : List REdge} {m : Nat} (hm : m < (tris es).length) (h : aroC es (wt es ((tris es).getD m z3)) ≠ 0) : seC es = 3 ∧ aroC es (wt es ((tris es).getD m z3)) = 3 := by
  have hn : ¬ seOk es := fun e => h (e _ (by rw [List.getD_eq_getElem?_getD, List.getElem?_eq_getElem hm]; exact List.getElem_mem _))
  refine ⟨if_neg hn, ?_⟩
  unfold aroC at h ⊢
  split
  · rename_i e; rw [if_pos e] at h; exact absurd rfl h
  · rfl
theorem se_yes {es : List REdge} {m : Nat} (hm : m = (tris es).length) (h : seUp es m) : seC es = 0 := by
  refine if_pos fun t ht => ?_
  obtain ⟨i, hi, rfl⟩ := List.getElem_of_mem ht
  have := h i (by omega)
  rwa [List.getD_eq_getElem?_getD, List.getElem?_eq_getElem hi, Option.getD_some] at this
def selU (v : List Int) (k : Nat) : List Int := ((List.range k).filter fun i => decide (0 ≤ v.getD i 0)).map fun i => ((i : Nat) : Int)
def selL (v : List Int) : List Int := selU v v.length
theorem selU_y {v : List Int} {k : Nat} (h : 0 ≤ v.getD k 0) : selU v (k + 1) = selU v k ++ [((k : Nat) : Int)] := by
  unfold selU; rw [List.range_succ, List.filter_append, List.map_append]; simp only [List.filter_cons, List.filter_nil, decide_eq_true h, if_true]; rfl
theorem selU_n {v : List Int} {k : Nat} (h : ¬ 0 ≤ v.getD k 0) : selU v (k + 1) = selU v k := by
  unfold selU; rw [List.range_succ, List.filter_append, List.map_append]; simp only [List.filter_cons, List.filter_nil, decide_eq_false h, Bool.false_eq_true, if_false, List.map_nil, List.append_nil]
theorem selU_len (v : List Int) (k : Nat) : (selU v k).length ≤ k := by
  unfold selU; rw [List.length_map]; exact Nat.le_trans (List.length_filter_le _ _) (by simp)
def slB (p : Rat) : Bool := decide (signQ p < 0) || decide (0 < cmpQ p ((1 : Int) : Rat))
def sldC (es : List REdge) (x : RRat) (p : Rat) : Nat := if validR x = true then (if slB p = true then 2 else seC es) else 1
def sldV (es : List REdge) (x : RRat) (p : Rat) : List Int := okL (sldC es x p) (selL (vts p es (tris es)))
def slC (z : Int) (es : List REdge) (x : RRat) (p : Rat) : Nat := okC (lopC z es) (sldC es x p)
def slV (z : Int) (es : List REdge) (x : RRat) (p : Rat) : List Int := okL (lopC z es) (sldV es x p)
theorem sld_1 {es : List REdge} {x : RRat} {p : Rat} (h : validR x = false) : sldC es x p = 1 ∧ sldV es x p = [] := by
  have e : sldC es x p = 1 := if_neg (by rw [h]; decide)
  exact ⟨e, okL_n (by rw [e]; decide)⟩
theorem sld_2 {es : List REdge} {x : RRat} {p : Rat} (h : validR x = true) (h2 : slB p = true) : sldC es x p = 2 ∧ sldV es x p = [] := by
  have e : sldC es x p = 2 := (if_pos h).trans (if_pos h2)
  exact ⟨e, okL_n (by rw [e]; decide)⟩
theorem sld_3 {es : List REdge} {x : RRat} {p : Rat} (h : validR x = true) (h2 : slB p = false) (h3 : seC es = 3) : sldC es x p = 3 ∧ sldV es x p = [] := by
  have e : sldC es x p = 3 := (if_pos h).trans ((if_neg (by rw [h2]; decide)).trans h3)
  exact ⟨e, okL_n (by rw [e]; decide)⟩
theorem sld_0 {es : List REdge} {x : RRat} {p : Rat} (h : validR x = true) (h2 : slB p = false) (h3 : seC es = 0) : sldC es x p = 0 ∧ sldV es x p = selL (vts p es (tris es)) := by
  have e : sldC es x p = 0 := (if_pos h).trans ((if_neg (by rw [h2]; decide)).trans h3)
  exact ⟨e, okL_0 e⟩
end Go.Fid
namespace Go.Proofs.YtihgdjljnaekmaaGreat
open Go.Fid
set_option maxRecDepth 4000
set_option linter.unusedVariables false
set_option linter.unusedSimpArgs false
theorem ar70 : arrB Tryz.prog 70 = some (3, 3, 1) := by kernel_rfl
theorem cb124 : callB Tryz.prog 124 = true := by kernel_rfl
theorem cb125 : callB Tryz.prog 125 = true := by kernel_rfl
theorem cb126 : callB Tryz.prog 126 = true := by kernel_rfl
theorem cb127 : callB Tryz.prog 127 = true := by kernel_rfl
def t3 (t : T3) : A3 (Int) := A3.mk ((t.1 : Nat) : Int) ((t.2.1 : Nat) : Int) ((t.2.2 : Nat) : Int)
def w3 (es : List REdge) (t : T3) : A3 (Int) := A3.mk ((t.1 : Nat) : Int) (wkP es t.1 t.2.1 t.2.2).1 (wkP es t.1 t.2.1 t.2.2).2
theorem l_joins (x : REdge) (a : Int) (b : Int) : Takes Tryz.prog 124 [(encEdge x), (.val (.int .i64 (a))), (.val (.int .i64 (b)))] (.val (.bool ((jnB x.fr x.to_ a b)))) := by
  refine fn_intro Tryz.func124 rfl cb124 rfl ?_
  show PWp _ _ _ _ ⟨[(0, (.d (encEdge x))), (1, (vi a)), (2, (vi b))], []⟩
  refine pwp_seq <| kx [(3, (.ref 0 0))] [(0, some (bx (encEdge x)))] (zN (oBx 0) <| zM <| zZ) ?_
  refine pwp_seq <| kx [(6, (vb (((x.fr == a) && (x.to_ == b)) || ((x.fr == b) && (x.to_ == a)))))] [] ?_ ?_
  · refine zE (oFr fo56_0) <| zR (oL1 sh3) <| zM <| zE oEq <| zE (oV (vb (x.fr == a)) (mv_ok (by kernel_rfl))) <| ?_
    rcases hb1 : (x.fr == a) with _ | _
    · replace hb1 := ne_of_beq_false hb1
      refine zK <| zK <| zK <| zK <| zE oPf <| zM <| zE (oFr fo56_0) <| zR (oL1 sh3) <| zM <| zE oEq <| zE (oV (vb (x.fr == b)) (mv_ok (by kernel_rfl))) <| ?_
      rcases hb2 : (x.fr == b) with _ | _
      · replace hb2 := ne_of_beq_false hb2
        exact zK <| zK <| zK <| zK <| zE oPf <| zE oPf <| zM <| zZ
      · replace hb2 := eq_of_beq hb2
        exact zE (oFr fo56_1) <| zR (oL1 sh3) <| zM <| zE oEq <| zE oPa <| zE oPo <| zM <| zZ
    · replace hb1 := eq_of_beq hb1
      refine zE (oFr fo56_1) <| zR (oL1 sh3) <| zM <| zE oEq <| zE oPa <| zE (oV (vb (true && (x.to_ == b))) (mv_ok (by kernel_rfl))) <| ?_
      rcases hb3 : (true && (x.to_ == b)) with _ | _
      · refine zE (oFr fo56_0) <| zR (oL1 sh3) <| zM <| zE oEq <| zE (oV (vb (x.fr == b)) (mv_ok (by kernel_rfl))) <| ?_
        rcases hb4 : (x.fr == b) with _ | _
        · replace hb4 := ne_of_beq_false hb4
          exact zK <| zK <| zK <| zK <| zE oPf <| zE oPf <| zM <| zZ
        · replace hb4 := eq_of_beq hb4
          exact zE (oFr fo56_1) <| zR (oL1 sh3) <| zM <| zE oEq <| zE oPa <| zE oPo <| zM <| zZ
      · exact zK <| zK <| zK <| zK <| zK <| zK <| zK <| zK <| zK <| zK <| zE oPt <| zM <| zZ
  refine pwp_ret ⟨_, (.tmp (d := (.val (.bool ((((x.fr == a) && (x.to_ == b)) || ((x.fr == b) && (x.to_ == a))))))) rfl .nil), ?_⟩
  rfl
theorem l_has (x : REdge) (a : Int) : Takes Tryz.prog 125 [(encEdge x), (.val (.int .i64 (a)))] (.val (.bool ((hsB x.fr x.to_ a)))) := by
  refine fn_intro Tryz.func125 rfl cb125 rfl ?_
  show PWp _ _ _ _ ⟨[(0, (.d (encEdge x))), (1, (vi a))], []⟩
  refine pwp_seq <| kx [(2, (.ref 0 0))] [(0, some (bx (encEdge x)))] (zN (oBx 0) <| zM <| zZ) ?_
  refine pwp_seq <| kx [(4, (vb ((x.fr == a) || (x.to_ == a))))] [] ?_ ?_
  · refine zE (oFr fo56_0) <| zR (oL1 sh3) <| zM <| zE oEq <| zE (oV (vb (x.fr == a)) (mv_ok (by kernel_rfl))) <| ?_
    rcases hb1 : (x.fr == a) with _ | _
    · replace hb1 := ne_of_beq_false hb1
      exact zE (oFr fo56_1) <| zR (oL1 sh3) <| zM <| zE oEq <| zE oPo <| zM <| zZ
    · replace hb1 := eq_of_beq hb1
      exact zK <| zK <| zK <| zK <| zE oPt <| zM <| zZ
  refine pwp_ret ⟨_, (.tmp (d := (.val (.bool (((x.fr == a) || (x.to_ == a)))))) rfl .nil), ?_⟩
  rfl
theorem l_other (x : REdge) (a : Int) (h1 : -1000 ≤ x.fr ∧ x.fr ≤ 1000) (h2 : -1000 ≤ x.to_ ∧ x.to_ ≤ 1000) (h3 : -1000 ≤ a ∧ a ≤ 1000) : Takes Tryz.prog 126 [(encEdge x), (.val (.int .i64 (a)))] (.val (.int .i64 ((x.fr + x.to_ - a)))) := by
  refine fn_intro Tryz.func126 rfl cb126 rfl ?_
  show PWp _ _ _ _ ⟨[(0, (.d (encEdge x))), (1, (vi a))], []⟩
  refine pwp_seq <| kx [(2, (.ref 0 0))] [(0, some (bx (encEdge x)))] (zN (oBx 0) <| zM <| zZ) ?_
  refine pwp_seq <| kx [(4, (vi ((x.fr + x.to_) - a)))] [] (zE (oFr fo56_0) <| zR (oL1 sh3) <| zE (oFr fo56_1) <| zR (oL1 sh3) <| zE (zAd (x.fr + x.to_) (hr := by exact (wAny rfl (by simp only [kLo]; omega) (by simp only [kHi]; omega)))) <| zM <| zE (zSb ((x.fr + x.to_) - a) (hr := by exact (wAny rfl (by simp only [kLo]; omega) (by simp only [kHi]; omega)))) <| zM <| zZ) ?_
  refine pwp_ret ⟨_, (.tmp (d := (.val (.int .i64 (((x.fr + x.to_) - a))))) rfl .nil), ?_⟩
  rfl
theorem l_along (es : List REdge) (k : Nat) (a : Int) (hk : k < es.length) (hb : es.length ≤ 1000000) : Takes Tryz.prog 127 [(.sl 56 6 (List.map encEdge es)), (.val (.int .i64 (((k : Nat) : Int)))), (.val (.int .i64 (a)))] (.val (.int .i64 ((alI (es.getD k (REdge.mk 0 0 (RQuat.mk 0 0 0 0))).fr a ((k : Nat) : Int))))) := by
  refine fn_intro Tryz.func127 rfl cb127 rfl ?_
  show PWp _ _ _ _ ⟨[(0, (vl 56 6 encEdge es)), (1, (vin k)), (2, (vi a))], []⟩
  refine pwp_seq <| kx [] [] (zM <| zZ) ?_
  refine pwp_seq <| pwp_seq <| kx [(13, (vb ((es.getD k (REdge.mk 0 0 (RQuat.mk 0 0 0 0))).fr == a)))] [] (zM <| zM <| zE (oXl el39 k (REdge.mk 0 0 (RQuat.mk 0 0 0 0))) <| zE (oFc fo56_0) <| zE (oC1 sh3) <| zM <| zE oEq <| zZ) ?_
  refine pwp_cond rfl (fun h1 => ?_) (fun h1 => ?_)
  · replace h1 := eq_of_beq h1
    refine pwp_seq <| kx [(6, (vin k))] [] (zM <| zM <| zZ) ?_
    refine pwp_ret ⟨_, (.tmp (d := (.val (.int .i64 (((k : Nat) : Int))))) rfl .nil), ?_⟩
    unfold alI; rw [if_pos h1]; rfl
  · replace h1 := ne_of_beq_false h1
    refine pwp_skip <| pwp_seq <| kx [(6, (vi (-1 - ((k : Nat) : Int))))] [] (zM <| zE (zSb (-1 - ((k : Nat) : Int)) (hr := by exact (wAny (by first | omega | rfl | (dsimp only; omega)) (by simp only [kLo]; omega) (by simp only [kHi]; omega)))) <| zM <| zZ) ?_
    refine pwp_ret ⟨_, (.tmp (d := (.val (.int .i64 ((-1 - ((k : Nat) : Int)))))) rfl .nil), ?_⟩
    unfold alI; rw [if_neg h1]; rfl
end Go.Proofs.YtihgdjljnaekmaaGreat
