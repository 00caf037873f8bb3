/-
  Functions walked: each takes its data to what is said. Printed by a program of ours.
-/
import Derived.Test.YtcdgmcfkhkikbaaGreatSemI
namespace Go.Proofs.YtcdgmcfkhkikbaaGreat
open Go.Fid
set_option maxRecDepth 4000
set_option linter.unusedVariables false
set_option linter.unusedSimpArgs false
theorem cb72 : callB Tryz.prog 72 = true := by kernel_rfl
theorem cb73 : callB Tryz.prog 73 = true := by kernel_rfl
theorem cb82 : callB Tryz.prog 82 = true := by kernel_rfl
theorem cb85 : callB Tryz.prog 85 = true := by kernel_rfl
theorem cb101 : callB Tryz.prog 101 = true := by kernel_rfl
theorem cb104 : callB Tryz.prog 104 = true := by kernel_rfl
theorem cb117 : callB Tryz.prog 117 = true := by kernel_rfl
theorem cb127 : callB Tryz.prog 127 = true := by kernel_rfl
theorem fo26_0 : fieldB Tryz.prog 26 0 = some 0 := by kernel_rfl
theorem fo26_1 : fieldB Tryz.prog 26 1 = some 2 := by kernel_rfl
theorem ft26_0 : fieldT Tryz.prog 26 0 = some (0, 24) := by kernel_rfl
theorem pl26 : placesB Tryz.prog 26 = some [(0, 2), (2, 2)] := by kernel_rfl
theorem sh26 : shapeB Tryz.prog 26 = some (true, 4) := by kernel_rfl
theorem ze26 : zeroB Tryz.prog 26 = some [.bool false, .slice none 0 0, .bool false, .slice none 0 0] := by kernel_rfl
theorem zo26 : ZOk [.bool false, .slice none 0 0, .bool false, .slice none 0 0] [.val (.bool false), .sl 83 1 [], .val (.bool false), .sl 83 1 []] := by simp [ZOk, Value.oneCell']
theorem f_reduced (num den : RInt) (a b : Int) (hnum : IOk num a 68719476736) (hden : IOk den b 68719476736) (hb : b ≠ 0) : Takes Tryz.prog 117 [(encI num), (encI den)] (encR (ofQ (Rat.divInt a b))) := by
  refine fn_intro Tryz.func117 rfl cb117 rfl ?_
  show PWp _ _ _ _ ⟨[(0, (.d (encI num))), (1, (.d (encI den)))], []⟩
  refine pwp_seq ?_
  refine pwp_S (S' := [(2, (.ref 0 0)), (3, (.ref 1 0)), (4, (.ref 2 0))]) (B' := [(0, some (bx (encI num))), (1, some (bx (encI den))), (2, some (bx (encR (RRat.mk (RInt.mk false []) (RInt.mk false [])))))]) ?_ ?_
  · skip
    exact sN (n_bx (d := (encI num)) (cs := (bx (encI num))) 0 rfl rfl rfl rfl) rfl rfl rfl rfl <| sN (n_bx (d := (encI den)) (cs := (bx (encI den))) 1 rfl rfl rfl rfl) rfl rfl rfl rfl <| sN (n_al (cs := (bx (encR (RRat.mk (RInt.mk false []) (RInt.mk false []))))) 2 rfl ze26 zo26 rfl) rfl rfl rfl rfl <| sNil rfl rfl
  refine pwp_seq ?_
  refine pwp_seq ?_
  refine pwp_S (S' := [(2, (.ref 0 0)), (3, (.ref 1 0)), (4, (.ref 2 0)), (8, (vb (decide ((signI b) < 0))))]) (B' := [(0, some (bx (encI num))), (1, some (bx (encI den))), (2, some (bx (encR (RRat.mk (RInt.mk false []) (RInt.mk false [])))))]) ?_ ?_
  · skip
    exact sR (e_lda (cs := (bx (encI den))) (y := (.d (encI den))) rfl rfl sh24 rfl rfl) rfl rfl rfl rfl <| sE' (e_cl (s_sign hden (by decide)) rfl rfl rfl) rfl <| sE' (e_lss rfl rfl rfl) rfl <| sNil rfl rfl
  refine pwp_cond (b := decide ((signI b) < 0)) rfl (fun h1 => ?_) (fun h1 => ?_)
  · skip
    replace h1 := of_decide_eq_true h1
    have hlt := signI_lt.1 h1
    have hb2 : -b ≠ 0 := by omega
    refine pwp_D (S' := [(2, (.ref 0 0)), (3, (.ref 1 0)), (4, (.ref 2 0))]) (B' := [(0, some (bx (encI (ofZ (-a))))), (1, some (bx (encI (ofZ (-b))))), (2, some (bx (encR (RRat.mk (RInt.mk false []) (RInt.mk false [])))))]) mo (by kernel_rfl) ?_ ?_
    · skip
      exact dR (e_lda (cs := (bx (encI num))) (y := (.d (encI num))) rfl rfl sh24 rfl rfl) rfl rfl rfl rfl rfl <| dE' (e_cl (s_neg hnum (by decide)) rfl rfl rfl) rfl rfl <| dR (e_lda (cs := (bx (encI den))) (y := (.d (encI den))) rfl rfl sh24 rfl rfl) rfl rfl rfl rfl rfl <| dE' (e_cl (s_neg hden (by decide)) rfl rfl rfl) rfl rfl <| dT (t_std (d := (encI (ofZ (-a)))) (cs := (bx (encI (ofZ (-a))))) rfl rfl rfl sh24 rfl rfl rfl rfl) rfl rfl rfl rfl <| dT (t_std (d := (encI (ofZ (-b)))) (cs := (bx (encI (ofZ (-b))))) rfl rfl rfl sh24 rfl rfl rfl rfl) rfl rfl rfl rfl <| dNil rfl rfl (by kernel_rfl)
    refine pwp_seq ?_
    refine pwp_S (S' := [(2, (.ref 0 0)), (3, (.ref 1 0)), (4, (.ref 2 0)), (5, (.ref 3 0))]) (B' := [(0, some (bx (encI (ofZ (-a))))), (1, some (bx (encI (ofZ (-b))))), (2, some (bx (encR (RRat.mk (RInt.mk false []) (RInt.mk false []))))), (3, some (bx (encI (ofZ ((Int.gcd (-a) (-b) : Nat) : Int)))))]) ?_ ?_
    · skip
      exact sR (e_lda (cs := (bx (encI (ofZ (-a))))) (y := (.d (encI (ofZ (-a))))) rfl rfl sh24 rfl rfl) rfl rfl rfl rfl <| sR (e_lda (cs := (bx (encI (ofZ (-b))))) (y := (.d (encI (ofZ (-b))))) rfl rfl sh24 rfl rfl) rfl rfl rfl rfl <| sE' (e_cl (s_gcd (iok_neg hnum) (iok_neg hden) (by decide) (by decide)) rfl rfl rfl) rfl <| sN (n_al (cs := (bx (encI (RInt.mk false [])))) 3 rfl ze24 zo24 rfl) rfl rfl rfl rfl <| sT (t_std (d := (encI (ofZ ((Int.gcd (-a) (-b) : Nat) : Int)))) (cs := (bx (encI (ofZ ((Int.gcd (-a) (-b) : Nat) : Int))))) rfl rfl rfl sh24 rfl rfl rfl rfl) rfl rfl rfl <| sNil rfl rfl
    refine pwp_seq ?_
    refine pwp_S (S' := [(2, (.ref 0 0)), (3, (.ref 1 0)), (4, (.ref 2 0)), (5, (.ref 3 0))]) (B' := [(0, some (bx (encI (ofZ ((-a).fdiv (((Int.gcd (-a) (-b) : Nat) : Int))))))), (1, some (bx (encI (ofZ (-b))))), (2, some (bx (encR (RRat.mk (RInt.mk false []) (RInt.mk false []))))), (3, some (bx (encI (ofZ ((Int.gcd (-a) (-b) : Nat) : Int)))))]) ?_ ?_
    · skip
      exact sR (e_lda (cs := (bx (encI (ofZ (-a))))) (y := (.d (encI (ofZ (-a))))) rfl rfl sh24 rfl rfl) rfl rfl rfl rfl <| sR (e_lda (cs := (bx (encI (ofZ ((Int.gcd (-a) (-b) : Nat) : Int))))) (y := (.d (encI (ofZ ((Int.gcd (-a) (-b) : Nat) : Int))))) rfl rfl sh24 rfl rfl) rfl rfl rfl rfl <| sE' (e_cl (s_divide (iok_neg hnum) (iok_gcd (k := 68719476736) (iok_neg hnum) (iok_neg hden) (by decide)) (by decide) (by decide) (gcd_ne (by omega))) rfl rfl rfl) rfl <| sM (.d (.tup [(encI (ofZ ((-a).fdiv (((Int.gcd (-a) (-b) : Nat) : Int))))), (encI (ofZ ((-a).fmod (((Int.gcd (-a) (-b) : Nat) : Int))))), (.val (.int .i64 (0)))])) rfl rfl <| sE' (e_exD (d := (encI (ofZ ((-a).fdiv (((Int.gcd (-a) (-b) : Nat) : Int)))))) rfl rfl rfl) rfl <| sE' (e_exD (d := (encI (ofZ ((-a).fmod (((Int.gcd (-a) (-b) : Nat) : Int)))))) rfl rfl rfl) rfl <| sE' (e_exD (d := (.val (.int .i64 (0)))) rfl rfl rfl) rfl <| sT (t_std (d := (encI (ofZ ((-a).fdiv (((Int.gcd (-a) (-b) : Nat) : Int)))))) (cs := (bx (encI (ofZ ((-a).fdiv (((Int.gcd (-a) (-b) : Nat) : Int))))))) rfl rfl rfl sh24 rfl rfl rfl rfl) rfl rfl rfl <| sNil rfl rfl
    refine pwp_seq ?_
    refine pwp_S (S' := [(2, (.ref 0 0)), (3, (.ref 1 0)), (4, (.ref 2 0))]) (B' := [(0, some (bx (encI (ofZ ((-a).fdiv (((Int.gcd (-a) (-b) : Nat) : Int))))))), (1, some (bx (encI (ofZ ((-b).fdiv (((Int.gcd (-a) (-b) : Nat) : Int))))))), (2, some (bx (encR (RRat.mk (RInt.mk false []) (RInt.mk false [])))))]) ?_ ?_
    · skip
      exact sR (e_lda (cs := (bx (encI (ofZ (-b))))) (y := (.d (encI (ofZ (-b))))) rfl rfl sh24 rfl rfl) rfl rfl rfl rfl <| sR (e_lda (cs := (bx (encI (ofZ ((Int.gcd (-a) (-b) : Nat) : Int))))) (y := (.d (encI (ofZ ((Int.gcd (-a) (-b) : Nat) : Int))))) rfl rfl sh24 rfl rfl) rfl rfl rfl rfl <| sE' (e_cl (s_divide (iok_neg hden) (iok_gcd (k := 68719476736) (iok_neg hnum) (iok_neg hden) (by decide)) (by decide) (by decide) (gcd_ne (by omega))) rfl rfl rfl) rfl <| sM (.d (.tup [(encI (ofZ ((-b).fdiv (((Int.gcd (-a) (-b) : Nat) : Int))))), (encI (ofZ ((-b).fmod (((Int.gcd (-a) (-b) : Nat) : Int))))), (.val (.int .i64 (0)))])) rfl rfl <| sE' (e_exD (d := (encI (ofZ ((-b).fdiv (((Int.gcd (-a) (-b) : Nat) : Int)))))) rfl rfl rfl) rfl <| sE' (e_exD (d := (encI (ofZ ((-b).fmod (((Int.gcd (-a) (-b) : Nat) : Int)))))) rfl rfl rfl) rfl <| sE' (e_exD (d := (.val (.int .i64 (0)))) rfl rfl rfl) rfl <| sT (t_std (d := (encI (ofZ ((-b).fdiv (((Int.gcd (-a) (-b) : Nat) : Int)))))) (cs := (bx (encI (ofZ ((-b).fdiv (((Int.gcd (-a) (-b) : Nat) : Int))))))) rfl rfl rfl sh24 rfl rfl rfl rfl) rfl rfl rfl <| sNil rfl rfl
    refine pwp_seq ?_
    refine pwp_S (S' := [(4, (.ref 2 0))]) (B' := [(2, some (bx (encR (RRat.mk (ofZ ((-a).fdiv (((Int.gcd (-a) (-b) : Nat) : Int)))) (ofZ ((-b).fdiv (((Int.gcd (-a) (-b) : Nat) : Int))))))))]) ?_ ?_
    · skip
      exact sR (e_lda (cs := (bx (encI (ofZ ((-a).fdiv (((Int.gcd (-a) (-b) : Nat) : Int))))))) (y := (.d (encI (ofZ ((-a).fdiv (((Int.gcd (-a) (-b) : Nat) : Int))))))) rfl rfl sh24 rfl rfl) rfl rfl rfl rfl <| sR (e_lda (cs := (bx (encI (ofZ ((-b).fdiv (((Int.gcd (-a) (-b) : Nat) : Int))))))) (y := (.d (encI (ofZ ((-b).fdiv (((Int.gcd (-a) (-b) : Nat) : Int))))))) rfl rfl sh24 rfl rfl) rfl rfl rfl rfl <| sE' (e_bld (pd := [(0, (encI (ofZ ((-a).fdiv (((Int.gcd (-a) (-b) : Nat) : Int)))))), (1, (encI (ofZ ((-b).fdiv (((Int.gcd (-a) (-b) : Nat) : Int))))))]) (y := (encR (RRat.mk (ofZ ((-a).fdiv (((Int.gcd (-a) (-b) : Nat) : Int)))) (ofZ ((-b).fdiv (((Int.gcd (-a) (-b) : Nat) : Int))))))) rfl pl26 ze26 zo26 rfl rfl rfl rfl) rfl <| sT (t_std (d := (encR (RRat.mk (ofZ ((-a).fdiv (((Int.gcd (-a) (-b) : Nat) : Int)))) (ofZ ((-b).fdiv (((Int.gcd (-a) (-b) : Nat) : Int))))))) (cs := (bx (encR (RRat.mk (ofZ ((-a).fdiv (((Int.gcd (-a) (-b) : Nat) : Int)))) (ofZ ((-b).fdiv (((Int.gcd (-a) (-b) : Nat) : Int)))))))) rfl rfl rfl sh26 rfl rfl rfl rfl) rfl rfl rfl <| sNil rfl rfl
    refine pwp_ret ⟨_, (res_a (cs := (bx (encR (RRat.mk (ofZ ((-a).fdiv (((Int.gcd (-a) (-b) : Nat) : Int)))) (ofZ ((-b).fdiv (((Int.gcd (-a) (-b) : Nat) : Int)))))))) (d := (encR (RRat.mk (ofZ ((-a).fdiv (((Int.gcd (-a) (-b) : Nat) : Int)))) (ofZ ((-b).fdiv (((Int.gcd (-a) (-b) : Nat) : Int))))))) rfl rfl sh26 rfl rfl .nil), ?_⟩
    rw [red_neg hlt]; rfl
  · skip
    replace h1 := of_decide_eq_false h1
    have hge : ¬ b < 0 := fun hh => h1 (signI_lt.2 hh)
    refine pwp_skip ?_
    refine pwp_seq ?_
    refine pwp_S (S' := [(2, (.ref 0 0)), (3, (.ref 1 0)), (4, (.ref 2 0)), (5, (.ref 4 0))]) (B' := [(0, some (bx (encI num))), (1, some (bx (encI den))), (2, some (bx (encR (RRat.mk (RInt.mk false []) (RInt.mk false []))))), (4, some (bx (encI (ofZ ((Int.gcd a b : Nat) : Int)))))]) ?_ ?_
    · skip
      exact sR (e_lda (cs := (bx (encI num))) (y := (.d (encI num))) rfl rfl sh24 rfl rfl) rfl rfl rfl rfl <| sR (e_lda (cs := (bx (encI den))) (y := (.d (encI den))) rfl rfl sh24 rfl rfl) rfl rfl rfl rfl <| sE' (e_cl (s_gcd hnum hden (by decide) (by decide)) rfl rfl rfl) rfl <| sN (n_al (cs := (bx (encI (RInt.mk false [])))) 4 rfl ze24 zo24 rfl) rfl rfl rfl rfl <| sT (t_std (d := (encI (ofZ ((Int.gcd a b : Nat) : Int)))) (cs := (bx (encI (ofZ ((Int.gcd a b : Nat) : Int))))) rfl rfl rfl sh24 rfl rfl rfl rfl) rfl rfl rfl <| sNil rfl rfl
    refine pwp_seq ?_
    refine pwp_S (S' := [(2, (.ref 0 0)), (3, (.ref 1 0)), (4, (.ref 2 0)), (5, (.ref 4 0))]) (B' := [(0, some (bx (encI (ofZ (a.fdiv (((Int.gcd a b : Nat) : Int))))))), (1, some (bx (encI den))), (2, some (bx (encR (RRat.mk (RInt.mk false []) (RInt.mk false []))))), (4, some (bx (encI (ofZ ((Int.gcd a b : Nat) : Int)))))]) ?_ ?_
    · skip
      exact sR (e_lda (cs := (bx (encI num))) (y := (.d (encI num))) rfl rfl sh24 rfl rfl) rfl rfl rfl rfl <| sR (e_lda (cs := (bx (encI (ofZ ((Int.gcd a b : Nat) : Int))))) (y := (.d (encI (ofZ ((Int.gcd a b : Nat) : Int))))) rfl rfl sh24 rfl rfl) rfl rfl rfl rfl <| sE' (e_cl (s_divide hnum (iok_gcd (k := 68719476736) hnum hden (by decide)) (by decide) (by decide) (gcd_ne (by omega))) rfl rfl rfl) rfl <| sM (.d (.tup [(encI (ofZ (a.fdiv (((Int.gcd a b : Nat) : Int))))), (encI (ofZ (a.fmod (((Int.gcd a b : Nat) : Int))))), (.val (.int .i64 (0)))])) rfl rfl <| sE' (e_exD (d := (encI (ofZ (a.fdiv (((Int.gcd a b : Nat) : Int)))))) rfl rfl rfl) rfl <| sE' (e_exD (d := (encI (ofZ (a.fmod (((Int.gcd a b : Nat) : Int)))))) rfl rfl rfl) rfl <| sE' (e_exD (d := (.val (.int .i64 (0)))) rfl rfl rfl) rfl <| sT (t_std (d := (encI (ofZ (a.fdiv (((Int.gcd a b : Nat) : Int)))))) (cs := (bx (encI (ofZ (a.fdiv (((Int.gcd a b : Nat) : Int))))))) rfl rfl rfl sh24 rfl rfl rfl rfl) rfl rfl rfl <| sNil rfl rfl
    refine pwp_seq ?_
    refine pwp_S (S' := [(2, (.ref 0 0)), (3, (.ref 1 0)), (4, (.ref 2 0))]) (B' := [(0, some (bx (encI (ofZ (a.fdiv (((Int.gcd a b : Nat) : Int))))))), (1, some (bx (encI (ofZ (b.fdiv (((Int.gcd a b : Nat) : Int))))))), (2, some (bx (encR (RRat.mk (RInt.mk false []) (RInt.mk false [])))))]) ?_ ?_
    · skip
      exact sR (e_lda (cs := (bx (encI den))) (y := (.d (encI den))) rfl rfl sh24 rfl rfl) rfl rfl rfl rfl <| sR (e_lda (cs := (bx (encI (ofZ ((Int.gcd a b : Nat) : Int))))) (y := (.d (encI (ofZ ((Int.gcd a b : Nat) : Int))))) rfl rfl sh24 rfl rfl) rfl rfl rfl rfl <| sE' (e_cl (s_divide hden (iok_gcd (k := 68719476736) hnum hden (by decide)) (by decide) (by decide) (gcd_ne (by omega))) rfl rfl rfl) rfl <| sM (.d (.tup [(encI (ofZ (b.fdiv (((Int.gcd a b : Nat) : Int))))), (encI (ofZ (b.fmod (((Int.gcd a b : Nat) : Int))))), (.val (.int .i64 (0)))])) rfl rfl <| sE' (e_exD (d := (encI (ofZ (b.fdiv (((Int.gcd a b : Nat) : Int)))))) rfl rfl rfl) rfl <| sE' (e_exD (d := (encI (ofZ (b.fmod (((Int.gcd a b : Nat) : Int)))))) rfl rfl rfl) rfl <| sE' (e_exD (d := (.val (.int .i64 (0)))) rfl rfl rfl) rfl <| sT (t_std (d := (encI (ofZ (b.fdiv (((Int.gcd a b : Nat) : Int)))))) (cs := (bx (encI (ofZ (b.fdiv (((Int.gcd a b : Nat) : Int))))))) rfl rfl rfl sh24 rfl rfl rfl rfl) rfl rfl rfl <| sNil rfl rfl
    refine pwp_seq ?_
    refine pwp_S (S' := [(4, (.ref 2 0))]) (B' := [(2, some (bx (encR (RRat.mk (ofZ (a.fdiv (((Int.gcd a b : Nat) : Int)))) (ofZ (b.fdiv (((Int.gcd a b : Nat) : Int))))))))]) ?_ ?_
    · skip
      exact sR (e_lda (cs := (bx (encI (ofZ (a.fdiv (((Int.gcd a b : Nat) : Int))))))) (y := (.d (encI (ofZ (a.fdiv (((Int.gcd a b : Nat) : Int))))))) rfl rfl sh24 rfl rfl) rfl rfl rfl rfl <| sR (e_lda (cs := (bx (encI (ofZ (b.fdiv (((Int.gcd a b : Nat) : Int))))))) (y := (.d (encI (ofZ (b.fdiv (((Int.gcd a b : Nat) : Int))))))) rfl rfl sh24 rfl rfl) rfl rfl rfl rfl <| sE' (e_bld (pd := [(0, (encI (ofZ (a.fdiv (((Int.gcd a b : Nat) : Int)))))), (1, (encI (ofZ (b.fdiv (((Int.gcd a b : Nat) : Int))))))]) (y := (encR (RRat.mk (ofZ (a.fdiv (((Int.gcd a b : Nat) : Int)))) (ofZ (b.fdiv (((Int.gcd a b : Nat) : Int))))))) rfl pl26 ze26 zo26 rfl rfl rfl rfl) rfl <| sT (t_std (d := (encR (RRat.mk (ofZ (a.fdiv (((Int.gcd a b : Nat) : Int)))) (ofZ (b.fdiv (((Int.gcd a b : Nat) : Int))))))) (cs := (bx (encR (RRat.mk (ofZ (a.fdiv (((Int.gcd a b : Nat) : Int)))) (ofZ (b.fdiv (((Int.gcd a b : Nat) : Int)))))))) rfl rfl rfl sh26 rfl rfl rfl rfl) rfl rfl rfl <| sNil rfl rfl
    refine pwp_ret ⟨_, (res_a (cs := (bx (encR (RRat.mk (ofZ (a.fdiv (((Int.gcd a b : Nat) : Int)))) (ofZ (b.fdiv (((Int.gcd a b : Nat) : Int)))))))) (d := (encR (RRat.mk (ofZ (a.fdiv (((Int.gcd a b : Nat) : Int)))) (ofZ (b.fdiv (((Int.gcd a b : Nat) : Int))))))) rfl rfl sh26 rfl rfl .nil), ?_⟩
    rw [red_pos hge hb]; rfl
theorem f_whole (n : Int) (hlo : -9223372036854775808 ≤ n) (hhi : n ≤ 9223372036854775807) : Takes Tryz.prog 85 [(.val (.int .i64 (n)))] (encR (ofQ ((n : Int) : Rat))) := by
  refine fn_intro Tryz.func85 rfl cb85 rfl ?_
  show PWp _ _ _ _ ⟨[(0, (vi n))], []⟩
  refine pwp_seq ?_
  refine pwp_S (S' := [(0, (vi n)), (2, (.ref 0 0))]) (B' := [(0, some (bx (encR (RRat.mk (RInt.mk false []) (RInt.mk false [])))))]) ?_ ?_
  · skip
    exact sN (n_al (cs := (bx (encR (RRat.mk (RInt.mk false []) (RInt.mk false []))))) 0 rfl ze26 zo26 rfl) rfl rfl rfl rfl <| sNil rfl rfl
  refine pwp_seq ?_
  refine pwp_S (S' := [(2, (.ref 0 0))]) (B' := [(0, some (bx (encR (RRat.mk (ofZ n) (ofZ 1)))))]) ?_ ?_
  · skip
    exact sM (vi n) rfl rfl <| sE' (e_cl (t_of n (by omega) (by omega)) rfl rfl rfl) rfl <| sE' (e_cl (t_of 1 (by decide) (by decide)) rfl rfl rfl) rfl <| sE' (e_bld (pd := [(0, (encI (ofZ n))), (1, (encI (ofZ 1)))]) (y := (encR (RRat.mk (ofZ n) (ofZ 1)))) rfl pl26 ze26 zo26 rfl rfl rfl rfl) rfl <| sT (t_std (d := (encR (RRat.mk (ofZ n) (ofZ 1)))) (cs := (bx (encR (RRat.mk (ofZ n) (ofZ 1))))) rfl rfl rfl sh26 rfl rfl rfl rfl) rfl rfl rfl <| sNil rfl rfl
  refine pwp_ret ⟨_, (res_a (cs := (bx (encR (RRat.mk (ofZ n) (ofZ 1))))) (d := (encR (RRat.mk (ofZ n) (ofZ 1)))) rfl rfl sh26 rfl rfl .nil), ?_⟩
  rfl
theorem f_valid (x : RRat) (p : Rat) (hx : QOk x p 17179869184) : Takes Tryz.prog 73 [(encR x)] (.val (.bool ((validR x)))) := by
  refine fn_intro Tryz.func73 rfl cb73 rfl ?_
  show PWp _ _ _ _ ⟨[(0, (.d (encR x)))], []⟩
  refine pwp_seq ?_
  refine pwp_S (S' := [(1, (.ref 0 0))]) (B' := [(0, some (bx (encR x)))]) ?_ ?_
  · skip
    exact sN (n_bx (d := (encR x)) (cs := (bx (encR x))) 0 rfl rfl rfl rfl) rfl rfl rfl rfl <| sM (vb false) rfl rfl <| sNil rfl rfl
  refine pwp_seq ?_
  refine pwp_seq ?_
  refine pwp_S (S' := [(1, (.ref 0 0)), (18, (vb ((!(validI x.num) || !(validI x.den)) || decide ((signI (toZ x.den)) ≤ 0))))]) (B' := [(0, some (bx (encR x)))]) ?_ ?_
  · skip
    refine sE' (e_fldr (q := 0) rfl rfl fo26_0 rfl) rfl <| sR (e_lda (cs := (bx (encR x))) (y := (.d (encI x.num))) rfl rfl sh24 rfl rfl) rfl rfl rfl rfl <| sE' (e_cl (t_valid x.num (Nat.le_trans (iok_raw hx.n1).l (by decide))) rfl rfl rfl) rfl <| sE' (e_not rfl rfl) rfl <| sM (vb (!(validI x.num))) rfl rfl <| ?_
    rcases hb1 : (!(validI x.num)) with _ | _
    · skip
      refine sE' (e_fldr (q := 2) rfl rfl fo26_1 rfl) rfl <| sR (e_lda (cs := (bx (encR x))) (y := (.d (encI x.den))) rfl rfl sh24 rfl rfl) rfl rfl rfl rfl <| sE' (e_cl (t_valid x.den (Nat.le_trans (iok_raw hx.n2).l (by decide))) rfl rfl rfl) rfl <| sE' (e_not rfl rfl) rfl <| sE' (e_pkfo rfl rfl rfl) rfl <| sM (vb (false || !(validI x.den))) rfl rfl <| ?_
      rcases hb2 : (false || !(validI x.den)) with _ | _
      · skip
        exact sE' (e_fldr (q := 2) rfl rfl fo26_1 rfl) rfl <| sR (e_lda (cs := (bx (encR x))) (y := (.d (encI x.den))) rfl rfl sh24 rfl rfl) rfl rfl rfl rfl <| sE' (e_cl (s_sign (iok_raw hx.n2) (by decide)) rfl rfl rfl) rfl <| sE' (e_leq rfl rfl rfl) rfl <| sE' (e_pkfo rfl rfl rfl) rfl <| sNil rfl rfl
      · skip
        exact sK rfl rfl rfl <| sK rfl rfl rfl <| sK rfl rfl rfl <| sK rfl rfl rfl <| sE' (e_pkt (z := (vb true)) rfl rfl rfl) rfl <| sNil rfl rfl
    · skip
      exact sK rfl rfl rfl <| sK rfl rfl rfl <| sK rfl rfl rfl <| sK rfl rfl rfl <| sE' (e_pkt (z := (vb true)) rfl rfl rfl) rfl <| sM (vb true) rfl rfl <| sK rfl rfl rfl <| sK rfl rfl rfl <| sK rfl rfl rfl <| sK rfl rfl rfl <| sE' (e_pkt (z := (vb true)) rfl rfl rfl) rfl <| sNil rfl rfl
  refine pwp_cond (b := ((!(validI x.num) || !(validI x.den)) || decide ((signI (toZ x.den)) ≤ 0))) rfl (fun h3 => ?_) (fun h3 => ?_)
  · skip
    refine pwp_seq ?_
    refine pwp_S (S' := [(2, (vb false))]) (B' := []) ?_ ?_
    · skip
      exact sM (vb false) rfl rfl <| sNil rfl rfl
    refine pwp_ret ⟨_, (.tmp (d := (.val (.bool (false)))) rfl .nil), ?_⟩
    rw [validR_no h3]; rfl
  · skip
    refine pwp_skip ?_
    refine pwp_seq ?_
    refine pwp_S (S' := [(2, (vb ((cmpI (((Int.gcd (toZ x.num) (toZ x.den) : Nat) : Int)) 1) == 0)))]) (B' := []) ?_ ?_
    · skip
      exact sE' (e_fldr (q := 0) rfl rfl fo26_0 rfl) rfl <| sR (e_lda (cs := (bx (encR x))) (y := (.d (encI x.num))) rfl rfl sh24 rfl rfl) rfl rfl rfl rfl <| sE' (e_fldr (q := 2) rfl rfl fo26_1 rfl) rfl <| sR (e_lda (cs := (bx (encR x))) (y := (.d (encI x.den))) rfl rfl sh24 rfl rfl) rfl rfl rfl rfl <| sE' (e_cl (s_gcd (iok_raw hx.n1) (iok_raw hx.n2) (by decide) (by decide)) rfl rfl rfl) rfl <| sE' (e_cl (t_of 1 (by decide) (by decide)) rfl rfl rfl) rfl <| sE' (e_cl (s_compare (iok_gcd (k := 17179869184) (iok_raw hx.n1) (iok_raw hx.n2) (by decide)) (iok_small (z := 1) (by decide)) (by decide) (by decide)) rfl rfl rfl) rfl <| sE' (e_eql rfl rfl rfl) rfl <| sM (vb ((cmpI (((Int.gcd (toZ x.num) (toZ x.den) : Nat) : Int)) 1) == 0)) rfl rfl <| sNil rfl rfl
    refine pwp_ret ⟨_, (.tmp (d := (.val (.bool (((cmpI (((Int.gcd (toZ x.num) (toZ x.den) : Nat) : Int)) 1) == 0))))) rfl .nil), ?_⟩
    rw [validR_yes h3]; rfl
theorem f_copied (x : RRat) (p : Rat) (hx : QOk x p 17179869184) : Takes Tryz.prog 127 [(encR x)] (encR (RRat.mk (ofZ (-(-toZ x.num))) (ofZ (-(-toZ x.den))))) := by
  refine fn_intro Tryz.func127 rfl cb127 rfl ?_
  show PWp _ _ _ _ ⟨[(0, (.d (encR x)))], []⟩
  refine pwp_seq ?_
  refine pwp_S (S' := [(1, (.ref 0 0)), (2, (.ref 1 0))]) (B' := [(0, some (bx (encR x))), (1, some (bx (encR (RRat.mk (RInt.mk false []) (RInt.mk false [])))))]) ?_ ?_
  · skip
    exact sN (n_bx (d := (encR x)) (cs := (bx (encR x))) 0 rfl rfl rfl rfl) rfl rfl rfl rfl <| sN (n_al (cs := (bx (encR (RRat.mk (RInt.mk false []) (RInt.mk false []))))) 1 rfl ze26 zo26 rfl) rfl rfl rfl rfl <| sNil rfl rfl
  refine pwp_seq ?_
  refine pwp_D (S' := [(2, (.ref 1 0))]) (B' := [(1, some (bx (encR (RRat.mk (ofZ (-(-(toZ x.num)))) (ofZ (-(-(toZ x.den))))))))]) mo (by kernel_rfl) ?_ ?_
  · skip
    exact dE' (e_fldr (q := 0) rfl rfl fo26_0 rfl) rfl rfl <| dR (e_lda (cs := (bx (encR x))) (y := (.d (encI x.num))) rfl rfl sh24 rfl rfl) rfl rfl rfl rfl rfl <| dE' (e_cl (s_neg (iok_raw hx.n1) (by decide)) rfl rfl rfl) rfl rfl <| dE' (e_cl (s_neg (iok_neg (iok_raw hx.n1)) (by decide)) rfl rfl rfl) rfl rfl <| dE' (e_fldr (q := 2) rfl rfl fo26_1 rfl) rfl rfl <| dR (e_lda (cs := (bx (encR x))) (y := (.d (encI x.den))) rfl rfl sh24 rfl rfl) rfl rfl rfl rfl rfl <| dE' (e_cl (s_neg (iok_raw hx.n2) (by decide)) rfl rfl rfl) rfl rfl <| dE' (e_cl (s_neg (iok_neg (iok_raw hx.n2)) (by decide)) rfl rfl rfl) rfl rfl <| dE' (e_bld (pd := [(0, (encI (ofZ (-(-(toZ x.num)))))), (1, (encI (ofZ (-(-(toZ x.den))))))]) (y := (encR (RRat.mk (ofZ (-(-(toZ x.num)))) (ofZ (-(-(toZ x.den))))))) rfl pl26 ze26 zo26 rfl rfl rfl rfl) rfl rfl <| dT (t_std (d := (encR (RRat.mk (ofZ (-(-(toZ x.num)))) (ofZ (-(-(toZ x.den))))))) (cs := (bx (encR (RRat.mk (ofZ (-(-(toZ x.num)))) (ofZ (-(-(toZ x.den)))))))) rfl rfl rfl sh26 rfl rfl rfl rfl) rfl rfl rfl rfl <| dNil rfl rfl (by kernel_rfl)
  refine pwp_ret ⟨_, (res_a (cs := (bx (encR (RRat.mk (ofZ (-(-(toZ x.num)))) (ofZ (-(-(toZ x.den)))))))) (d := (encR (RRat.mk (ofZ (-(-(toZ x.num)))) (ofZ (-(-(toZ x.den))))))) rfl rfl sh26 rfl rfl .nil), ?_⟩
  rfl
theorem f_value (x : RRat) (p : Rat) (hx : QOk x p 17179869184) : Takes Tryz.prog 104 [(encR x)] (encR (ofQ p)) := by
  refine fn_intro Tryz.func104 rfl cb104 rfl ?_
  show PWp _ _ _ _ ⟨[(0, (.d (encR x)))], []⟩
  refine pwp_seq ?_
  refine pwp_S (S' := [(1, (.ref 0 0)), (2, (.ref 1 0))]) (B' := [(0, some (bx (encR x))), (1, some (bx (encR (RRat.mk (RInt.mk false []) (RInt.mk false [])))))]) ?_ ?_
  · skip
    exact sN (n_bx (d := (encR x)) (cs := (bx (encR x))) 0 rfl rfl rfl rfl) rfl rfl rfl rfl <| sN (n_al (cs := (bx (encR (RRat.mk (RInt.mk false []) (RInt.mk false []))))) 1 rfl ze26 zo26 rfl) rfl rfl rfl rfl <| sNil rfl rfl
  refine pwp_seq ?_
  refine pwp_seq ?_
  refine pwp_S (S' := [(1, (.ref 0 0)), (2, (.ref 1 0)), (4, (vb (validR x)))]) (B' := [(0, some (bx (encR x))), (1, some (bx (encR (RRat.mk (RInt.mk false []) (RInt.mk false [])))))]) ?_ ?_
  · skip
    exact sR (e_lda (cs := (bx (encR x))) (y := (.d (encR x))) rfl rfl sh26 rfl rfl) rfl rfl rfl rfl <| sE' (e_cl (f_valid x p hx) rfl rfl rfl) rfl <| sNil rfl rfl
  refine pwp_cond (b := (validR x)) rfl (fun h1 => ?_) (fun h1 => ?_)
  · skip
    refine pwp_seq ?_
    refine pwp_S (S' := [(2, (.ref 1 0))]) (B' := [(1, some (bx (encR (RRat.mk (ofZ (-(-toZ x.num))) (ofZ (-(-toZ x.den)))))))]) ?_ ?_
    · skip
      exact sR (e_lda (cs := (bx (encR x))) (y := (.d (encR x))) rfl rfl sh26 rfl rfl) rfl rfl rfl rfl <| sE' (e_cl (f_copied x p hx) rfl rfl rfl) rfl <| sT (t_std (d := (encR (RRat.mk (ofZ (-(-toZ x.num))) (ofZ (-(-toZ x.den)))))) (cs := (bx (encR (RRat.mk (ofZ (-(-toZ x.num))) (ofZ (-(-toZ x.den))))))) rfl rfl rfl sh26 rfl rfl rfl rfl) rfl rfl rfl <| sNil rfl rfl
    refine pwp_ret ⟨_, (res_a (cs := (bx (encR (RRat.mk (ofZ (-(-toZ x.num))) (ofZ (-(-toZ x.den))))))) (d := (encR (RRat.mk (ofZ (-(-toZ x.num))) (ofZ (-(-toZ x.den)))))) rfl rfl sh26 rfl rfl .nil), ?_⟩
    rw [← hx.v, ← copied_eq h1]; rfl
  · skip
    refine pwp_skip ?_
    refine pwp_seq ?_
    refine pwp_S (S' := [(2, (.ref 1 0))]) (B' := [(1, some (bx (encR (ofQ ((0 : Int) : Rat)))))]) ?_ ?_
    · skip
      exact sE' (e_cl (f_whole 0 (by decide) (by decide)) rfl rfl rfl) rfl <| sT (t_std (d := (encR (ofQ ((0 : Int) : Rat)))) (cs := (bx (encR (ofQ ((0 : Int) : Rat))))) rfl rfl rfl sh26 rfl rfl rfl rfl) rfl rfl rfl <| sNil rfl rfl
    refine pwp_ret ⟨_, (res_a (cs := (bx (encR (ofQ ((0 : Int) : Rat))))) (d := (encR (ofQ ((0 : Int) : Rat)))) rfl rfl sh26 rfl rfl .nil), ?_⟩
    rw [← hx.v, toQ_bad h1]; rfl
theorem f_sign (x : RRat) (p : Rat) (hx : QOk x p 17179869184) : Takes Tryz.prog 101 [(encR x)] (.val (.int .i64 ((signQ p)))) := by
  refine fn_intro Tryz.func101 rfl cb101 rfl ?_
  show PWp _ _ _ _ ⟨[(0, (.d (encR x)))], []⟩
  refine pwp_seq ?_
  refine pwp_S (S' := [(1, (.ref 0 0))]) (B' := [(0, some (bx (encR x)))]) ?_ ?_
  · skip
    exact sN (n_bx (d := (encR x)) (cs := (bx (encR x))) 0 rfl rfl rfl rfl) rfl rfl rfl rfl <| sM (vin 0) rfl rfl <| sNil rfl rfl
  refine pwp_seq ?_
  refine pwp_S (S' := [(2, (vi (signI p.num)))]) (B' := []) ?_ ?_
  · skip
    exact sR (e_lda (cs := (bx (encR x))) (y := (.d (encR x))) rfl rfl sh26 rfl rfl) rfl rfl rfl rfl <| sE' (e_cl (f_value x p hx) rfl rfl rfl) rfl <| sE' (e_fldv (cs := (Dat.cells (encR (ofQ p)))) (y := (.d (encI ((ofQ p).num)))) rfl rfl ft26_0 sh24 rfl rfl) rfl <| sE' (e_cl (s_sign (qok_num hx.ql) (by decide)) rfl rfl rfl) rfl <| sM (vi (signI p.num)) rfl rfl <| sNil rfl rfl
  refine pwp_ret ⟨_, (.tmp (d := (.val (.int .i64 ((signI p.num))))) rfl .nil), ?_⟩
  rfl
theorem f_mul (x : RRat) (y : RRat) (p : Rat) (q : Rat) (hx : QOk x p 17179869184) (hy : QOk y q 17179869184) : Takes Tryz.prog 82 [(encR x), (encR y)] (encR (ofQ (p * q))) := by
  refine fn_intro Tryz.func82 rfl cb82 rfl ?_
  show PWp _ _ _ _ ⟨[(0, (.d (encR x))), (1, (.d (encR y)))], []⟩
  refine pwp_seq ?_
  refine pwp_S (S' := [(2, (.ref 0 0)), (3, (.ref 1 0)), (4, (.ref 2 0))]) (B' := [(0, some (bx (encR x))), (1, some (bx (encR y))), (2, some (bx (encR (RRat.mk (RInt.mk false []) (RInt.mk false [])))))]) ?_ ?_
  · skip
    exact sN (n_bx (d := (encR x)) (cs := (bx (encR x))) 0 rfl rfl rfl rfl) rfl rfl rfl rfl <| sN (n_bx (d := (encR y)) (cs := (bx (encR y))) 1 rfl rfl rfl rfl) rfl rfl rfl rfl <| sN (n_al (cs := (bx (encR (RRat.mk (RInt.mk false []) (RInt.mk false []))))) 2 rfl ze26 zo26 rfl) rfl rfl rfl rfl <| sNil rfl rfl
  refine pwp_seq ?_
  refine pwp_D (S' := [(2, (.ref 0 0)), (3, (.ref 1 0)), (4, (.ref 2 0))]) (B' := [(0, some (bx (encR (ofQ p)))), (1, some (bx (encR (ofQ q)))), (2, some (bx (encR (RRat.mk (RInt.mk false []) (RInt.mk false [])))))]) mo (by kernel_rfl) ?_ ?_
  · skip
    exact dR (e_lda (cs := (bx (encR x))) (y := (.d (encR x))) rfl rfl sh26 rfl rfl) rfl rfl rfl rfl rfl <| dE' (e_cl (f_value x p hx) rfl rfl rfl) rfl rfl <| dR (e_lda (cs := (bx (encR y))) (y := (.d (encR y))) rfl rfl sh26 rfl rfl) rfl rfl rfl rfl rfl <| dE' (e_cl (f_value y q hy) rfl rfl rfl) rfl rfl <| dT (t_std (d := (encR (ofQ p))) (cs := (bx (encR (ofQ p)))) rfl rfl rfl sh26 rfl rfl rfl rfl) rfl rfl rfl rfl <| dT (t_std (d := (encR (ofQ q))) (cs := (bx (encR (ofQ q)))) rfl rfl rfl sh26 rfl rfl rfl rfl) rfl rfl rfl rfl <| dNil rfl rfl (by kernel_rfl)
  refine pwp_seq ?_
  refine pwp_D (S' := [(4, (.ref 2 0))]) (B' := [(2, some (bx (encR (ofQ (Rat.divInt (p.num * q.num) ((p.den : Int) * (q.den : Int)))))))]) mo (by kernel_rfl) ?_ ?_
  · skip
    exact dE' (e_fldr (q := 0) rfl rfl fo26_0 rfl) rfl rfl <| dR (e_lda (cs := (bx (encR (ofQ p)))) (y := (.d (encI ((ofQ p).num)))) rfl rfl sh24 rfl rfl) rfl rfl rfl rfl rfl <| dE' (e_fldr (q := 0) rfl rfl fo26_0 rfl) rfl rfl <| dR (e_lda (cs := (bx (encR (ofQ q)))) (y := (.d (encI ((ofQ q).num)))) rfl rfl sh24 rfl rfl) rfl rfl rfl rfl rfl <| dE' (e_cl (s_mul (qok_num hx.ql) (qok_num hy.ql) (by decide) (by decide)) rfl rfl rfl) rfl rfl <| dE' (e_fldr (q := 2) rfl rfl fo26_1 rfl) rfl rfl <| dR (e_lda (cs := (bx (encR (ofQ p)))) (y := (.d (encI ((ofQ p).den)))) rfl rfl sh24 rfl rfl) rfl rfl rfl rfl rfl <| dE' (e_fldr (q := 2) rfl rfl fo26_1 rfl) rfl rfl <| dR (e_lda (cs := (bx (encR (ofQ q)))) (y := (.d (encI ((ofQ q).den)))) rfl rfl sh24 rfl rfl) rfl rfl rfl rfl rfl <| dE' (e_cl (s_mul (qok_den hx.ql) (qok_den hy.ql) (by decide) (by decide)) rfl rfl rfl) rfl rfl <| dE' (e_cl (f_reduced (ofZ (p.num * q.num)) (ofZ ((p.den : Int) * (q.den : Int))) (p.num * q.num) ((p.den : Int) * (q.den : Int)) (iok_up (iok_mul (k := 34359738368) (qok_num hx.ql) (qok_num hy.ql) (by decide)) (by decide)) (iok_up (iok_mul (k := 34359738368) (qok_den hx.ql) (qok_den hy.ql) (by decide)) (by decide)) (mul_ne (den_ne _) (den_ne _))) rfl rfl rfl) rfl rfl <| dT (t_std (d := (encR (ofQ (Rat.divInt (p.num * q.num) ((p.den : Int) * (q.den : Int)))))) (cs := (bx (encR (ofQ (Rat.divInt (p.num * q.num) ((p.den : Int) * (q.den : Int))))))) rfl rfl rfl sh26 rfl rfl rfl rfl) rfl rfl rfl rfl <| dNil rfl rfl (by kernel_rfl)
  refine pwp_ret ⟨_, (res_a (cs := (bx (encR (ofQ (Rat.divInt (p.num * q.num) ((p.den : Int) * (q.den : Int))))))) (d := (encR (ofQ (Rat.divInt (p.num * q.num) ((p.den : Int) * (q.den : Int)))))) rfl rfl sh26 rfl rfl .nil), ?_⟩
  rw [mul_divInt]; rfl
theorem f_compare (x : RRat) (y : RRat) (p : Rat) (q : Rat) (hx : QOk x p 17179869184) (hy : QOk y q 17179869184) : Takes Tryz.prog 72 [(encR x), (encR y)] (.val (.int .i64 ((cmpQ p q)))) := by
  refine fn_intro Tryz.func72 rfl cb72 rfl ?_
  show PWp _ _ _ _ ⟨[(0, (.d (encR x))), (1, (.d (encR y)))], []⟩
  refine pwp_seq ?_
  refine pwp_S (S' := [(2, (.ref 0 0)), (3, (.ref 1 0))]) (B' := [(0, some (bx (encR x))), (1, some (bx (encR y)))]) ?_ ?_
  · skip
    exact sN (n_bx (d := (encR x)) (cs := (bx (encR x))) 0 rfl rfl rfl rfl) rfl rfl rfl rfl <| sN (n_bx (d := (encR y)) (cs := (bx (encR y))) 1 rfl rfl rfl rfl) rfl rfl rfl rfl <| sM (vin 0) rfl rfl <| sNil rfl rfl
  refine pwp_seq ?_
  refine pwp_D (S' := [(2, (.ref 0 0)), (3, (.ref 1 0))]) (B' := [(0, some (bx (encR (ofQ p)))), (1, some (bx (encR (ofQ q))))]) mo (by kernel_rfl) ?_ ?_
  · skip
    exact dR (e_lda (cs := (bx (encR x))) (y := (.d (encR x))) rfl rfl sh26 rfl rfl) rfl rfl rfl rfl rfl <| dE' (e_cl (f_value x p hx) rfl rfl rfl) rfl rfl <| dR (e_lda (cs := (bx (encR y))) (y := (.d (encR y))) rfl rfl sh26 rfl rfl) rfl rfl rfl rfl rfl <| dE' (e_cl (f_value y q hy) rfl rfl rfl) rfl rfl <| dT (t_std (d := (encR (ofQ p))) (cs := (bx (encR (ofQ p)))) rfl rfl rfl sh26 rfl rfl rfl rfl) rfl rfl rfl rfl <| dT (t_std (d := (encR (ofQ q))) (cs := (bx (encR (ofQ q)))) rfl rfl rfl sh26 rfl rfl rfl rfl) rfl rfl rfl rfl <| dNil rfl rfl (by kernel_rfl)
  refine pwp_seq ?_
  refine pwp_D (S' := [(4, (vi (cmpI (p.num * (q.den : Int)) (q.num * (p.den : Int)))))]) (B' := []) mo (by kernel_rfl) ?_ ?_
  · skip
    exact dE' (e_fldr (q := 0) rfl rfl fo26_0 rfl) rfl rfl <| dR (e_lda (cs := (bx (encR (ofQ p)))) (y := (.d (encI ((ofQ p).num)))) rfl rfl sh24 rfl rfl) rfl rfl rfl rfl rfl <| dE' (e_fldr (q := 2) rfl rfl fo26_1 rfl) rfl rfl <| dR (e_lda (cs := (bx (encR (ofQ q)))) (y := (.d (encI ((ofQ q).den)))) rfl rfl sh24 rfl rfl) rfl rfl rfl rfl rfl <| dE' (e_cl (s_mul (qok_num hx.ql) (qok_den hy.ql) (by decide) (by decide)) rfl rfl rfl) rfl rfl <| dE' (e_fldr (q := 0) rfl rfl fo26_0 rfl) rfl rfl <| dR (e_lda (cs := (bx (encR (ofQ q)))) (y := (.d (encI ((ofQ q).num)))) rfl rfl sh24 rfl rfl) rfl rfl rfl rfl rfl <| dE' (e_fldr (q := 2) rfl rfl fo26_1 rfl) rfl rfl <| dR (e_lda (cs := (bx (encR (ofQ p)))) (y := (.d (encI ((ofQ p).den)))) rfl rfl sh24 rfl rfl) rfl rfl rfl rfl rfl <| dE' (e_cl (s_mul (qok_num hy.ql) (qok_den hx.ql) (by decide) (by decide)) rfl rfl rfl) rfl rfl <| dE' (e_cl (s_compare (iok_mul (k := 34359738368) (qok_num hx.ql) (qok_den hy.ql) (by decide)) (iok_mul (k := 34359738368) (qok_num hy.ql) (qok_den hx.ql) (by decide)) (by decide) (by decide)) rfl rfl rfl) rfl rfl <| dM (vi (cmpI (p.num * (q.den : Int)) (q.num * (p.den : Int)))) rfl rfl rfl <| dNil rfl rfl (by kernel_rfl)
  refine pwp_ret ⟨_, (.tmp (d := (.val (.int .i64 ((cmpI (p.num * (q.den : Int)) (q.num * (p.den : Int))))))) rfl .nil), ?_⟩
  rw [← cmpQ_cross]; rfl
end Go.Proofs.YtcdgmcfkhkikbaaGreat
