/- Part 28 of a proof: rules, plain facts, and functions walked. -/
import Derived.Test.YtnajallgoaiahaaGreatDoorM24
import Derived.Test.YtnajallgoaiahaaGreatDoorM25
import Derived.Test.YtnajallgoaiahaaGreatDoorM27
import Derived.Test.YtnajallgoaiahaaGreatDoorM10
import Derived.Test.YtnajallgoaiahaaGreatDoorM11
namespace Go.Proofs.YtnajallgoaiahaaGreatDoor
open Go.Fid
set_option maxRecDepth 4000
set_option linter.unusedVariables false
set_option linter.unusedSimpArgs false
theorem by3 : xW Tryz.prog 3 = some 8 := by kernel_rfl
theorem cb120 : callB Tryz.prog 120 = true := by kernel_rfl
theorem cb121 : callB Tryz.prog 121 = true := by kernel_rfl
theorem cb124 : callB Tryz.prog 124 = true := by kernel_rfl
theorem cb178 : callB Tryz.prog 178 = true := by kernel_rfl
theorem qP : uZ Tryz.prog 102 = some (3, 1) := by kernel_rfl
theorem e_vec (a : List Int) (b : List Int) (L : List kK) (hl : L.length ≤ 1000) (hab : b.length = a.length) (ha : a.length ≤ 64) : gB Tryz.prog 121 [(.ref 0 0), (vl 3 1 jI a), (vl 3 1 jI b)] [(0, some [(.own 1 83 7 L.length)]), (1, some (qQ jS L))] (.d (.sl 3 1 (List.map jI (xB L.length a.length)))) [(0, some [(.own 1 83 7 ((vS L a b a.length).length))]), (1, some (qQ jS (vS L a b a.length)))] := by
 let y1 := kW
 refine nN Tryz.func121 rfl cb121 rfl ?_
 show qR _ _ _ _ ⟨[(0, (.ref 0 0)), (1, (vl 3 1 jI a)), (2, (vl 3 1 jI b))], [(0, some [(.own 1 83 7 L.length)]), (1, some (qQ jS L))]⟩
 refine jB<|kx [] [] (zE (mP 3 1)<|zZ) ?_
 refine jB<|kx [(7, (.own 2 3 1 0))] [(2, some (bm jI []))] (zOh 2 3 1<|zZ) ?_
 refine jB<|jB<|kx [(10, (jN a.length)), (11, (jN 0))] [] (zM<|zE (vX qP)<|zM<|zZ) ?_
 refine jG<|kI (α := Nat × List Int × List kK) (fun (i, o, M) => ⟨[(0, (.ref 0 0)), (1, (vl 3 1 jI a)), (2, (vl 3 1 jI b)), (7, (.own 2 3 1 o.length)), (10, (jN a.length)), (11, (jN i))], [(0, some [(.own 1 83 7 M.length)]), (1, some (qQ jS M)), (2, some (bm jI o))]⟩) (fun (i, o, M) => i ≤ a.length ∧ o = xB L.length i ∧ M = vS L a b i) (fun (i, o, M) => a.length - i) (0, [], L) wk ⟨Nat.zero_le _, rfl, rfl⟩ ?_
 rintro ⟨i, o, M⟩ ⟨hi, ho, hM⟩
 have hol : o.length = i := by rw [ho]; exact qS _ _
 have hml : M.length = L.length + 3 * i := by rw [hM]; exact qW _ _ _ _
 refine jB<|kx [(12, (vb (decide (((i : Nat) : Int) < ((a.length : Nat) : Int)))))] [] (zE vZ<|zZ) ?_
 refine jB<|jF rfl (fun h1 => ?_) (fun h1 => ?_)
 ·replace h1 := uH h1
  refine jD<|jB<|jG<|jB<|kx [(8, (jN i))] [] (zM<|zM<|zZ) ?_
  refine kd [(7, (.own 3 3 1 ((o ++ [((((M ++ [(kK.mk 1 (b.getD i 0) 0 y1)]) ++ [(kK.mk 1 (a.getD i 0) 0 y1)]).length : Nat) : Int)]).length)))] [(0, some [(.own 1 83 7 ((((M ++ [(kK.mk 1 (b.getD i 0) 0 y1)]) ++ [(kK.mk 1 (a.getD i 0) 0 y1)]) ++ [(kK.mk 3 ((M.length : Nat) : Int) (((M ++ [(kK.mk 1 (b.getD i 0) 0 y1)]).length : Nat) : Int) y1)]).length))]), (1, some (qQ jS (((M ++ [(kK.mk 1 (b.getD i 0) 0 y1)]) ++ [(kK.mk 1 (a.getD i 0) 0 y1)]) ++ [(kK.mk 3 ((M.length : Nat) : Int) (((M ++ [(kK.mk 1 (b.getD i 0) 0 y1)]).length : Nat) : Int) y1)]))), (3, some (bm jI (o ++ [((((M ++ [(kK.mk 1 (b.getD i 0) 0 y1)]) ++ [(kK.mk 1 (a.getD i 0) 0 y1)]).length : Nat) : Int)]))), (2, none)] mo (wM<|wM<|wM<|wM<|wE (zU qP i (0 : Int))<|wE (xI yV)<|wM<|wM<|wE (zU qP i (0 : Int))<|wE (xI yV)<|wS [0, 1] [1] (jN (((M ++ [(kK.mk 1 (b.getD i 0) 0 y1)]) ++ [(kK.mk 1 (a.getD i 0) 0 y1)]).length)) [(.ref 0 0), (vi (b.getD i 0)), (vi (a.getD i 0))] [(0, some [(.own 1 83 7 M.length)]), (1, some (qQ jS M))] [(0, some [(.own 1 83 7 ((((M ++ [(kK.mk 1 (b.getD i 0) 0 y1)]) ++ [(kK.mk 1 (a.getD i 0) 0 y1)]) ++ [(kK.mk 3 ((M.length : Nat) : Int) (((M ++ [(kK.mk 1 (b.getD i 0) 0 y1)]).length : Nat) : Int) y1)]).length))]), (1, some (qQ jS (((M ++ [(kK.mk 1 (b.getD i 0) 0 y1)]) ++ [(kK.mk 1 (a.getD i 0) 0 y1)]) ++ [(kK.mk 3 ((M.length : Nat) : Int) (((M ++ [(kK.mk 1 (b.getD i 0) 0 y1)]).length : Nat) : Int) y1)])))] (e_diff (b.getD i 0) (a.getD i 0) M (by omega)) (.cons rfl (by kernel_rfl) (.cons rfl (yB _ _) .nil)) (.cons rfl (by kernel_rfl) (.cons rfl (yB _ _) .nil)) (by repeat first | exact .nil | refine .hid rfl ?_ | refine .none ?_ | refine .dat ?_ | refine .map ?_ | refine .cells (by kernel_rfl) ?_) (by repeat first | exact .nil | refine .dat ?_ | refine .map ?_ | refine .cells (by kernel_rfl) ?_)<|wE (gN qP ze3 zo3)<|wA (k := 2) 3 jI o [((((M ++ [(kK.mk 1 (b.getD i 0) 0 y1)]) ++ [(kK.mk 1 (a.getD i 0) 0 y1)]).length : Nat) : Int)] rfl qP ze3 by3<|wM<|wZ) ?_
  refine kH (wk (l := [(0, (.ref 0 0)), (1, (vl 3 1 jI a)), (2, (vl 3 1 jI b)), (7, (.own 3 3 1 ((o ++ [((((M ++ [(kK.mk 1 (b.getD i 0) 0 y1)]) ++ [(kK.mk 1 (a.getD i 0) 0 y1)]).length : Nat) : Int)]).length))), (10, (jN a.length)), (11, (jN i))]) (b := [(0, some [(.own 1 83 7 ((((M ++ [(kK.mk 1 (b.getD i 0) 0 y1)]) ++ [(kK.mk 1 (a.getD i 0) 0 y1)]) ++ [(kK.mk 3 ((M.length : Nat) : Int) (((M ++ [(kK.mk 1 (b.getD i 0) 0 y1)]).length : Nat) : Int) y1)]).length))]), (1, some (qQ jS (((M ++ [(kK.mk 1 (b.getD i 0) 0 y1)]) ++ [(kK.mk 1 (a.getD i 0) 0 y1)]) ++ [(kK.mk 3 ((M.length : Nat) : Int) (((M ++ [(kK.mk 1 (b.getD i 0) 0 y1)]).length : Nat) : Int) y1)]))), (3, some (bm jI (o ++ [((((M ++ [(kK.mk 1 (b.getD i 0) 0 y1)]) ++ [(kK.mk 1 (a.getD i 0) 0 y1)]).length : Nat) : Int)])))])) ?_
  refine kH (sim_ren (S' := [(0, (.ref 0 0)), (1, (vl 3 1 jI a)), (2, (vl 3 1 jI b)), (7, (.own 2 3 1 ((o ++ [((((M ++ [(kK.mk 1 (b.getD i 0) 0 y1)]) ++ [(kK.mk 1 (a.getD i 0) 0 y1)]).length : Nat) : Int)]).length))), (10, (jN a.length)), (11, (jN i))]) (B' := [(0, some [(.own 1 83 7 ((((M ++ [(kK.mk 1 (b.getD i 0) 0 y1)]) ++ [(kK.mk 1 (a.getD i 0) 0 y1)]) ++ [(kK.mk 3 ((M.length : Nat) : Int) (((M ++ [(kK.mk 1 (b.getD i 0) 0 y1)]).length : Nat) : Int) y1)]).length))]), (1, some (qQ jS (((M ++ [(kK.mk 1 (b.getD i 0) 0 y1)]) ++ [(kK.mk 1 (a.getD i 0) 0 y1)]) ++ [(kK.mk 3 ((M.length : Nat) : Int) (((M ++ [(kK.mk 1 (b.getD i 0) 0 y1)]).length : Nat) : Int) y1)]))), (2, some (bm jI (o ++ [((((M ++ [(kK.mk 1 (b.getD i 0) 0 y1)]) ++ [(kK.mk 1 (a.getD i 0) 0 y1)]).length : Nat) : Int)])))]) 2 3) ?_
  refine kx [(11, (jN (i + 1)))] [] (zE (vG (i + 1))<|zM<|zZ) ?_
  exact ⟨(i + 1, o ++ [((((M ++ [(kK.mk 1 (b.getD i 0) 0 kW)]) ++ [(kK.mk 1 (a.getD i 0) 0 kW)]).length : Nat) : Int)], (((M ++ [(kK.mk 1 (b.getD i 0) 0 kW)]) ++ [(kK.mk 1 (a.getD i 0) 0 kW)]) ++ [(kK.mk 3 ((M.length : Nat) : Int) (((M ++ [(kK.mk 1 (b.getD i 0) 0 kW)]).length : Nat) : Int) kW)])), wk, ⟨by omega, by rw [ho, show ((M ++ [(kK.mk 1 (b.getD i 0) 0 kW)]) ++ [(kK.mk 1 (a.getD i 0) 0 kW)]).length = L.length + 3 * i + 2 by simp; omega, vcI_succ], by rw [hM]; rfl⟩, (by first|omega|(dsimp only;omega))⟩
 ·replace h1 := vB h1
  refine kC<|jB<|kx [(6, (.own 2 3 1 o.length))] [] (zM<|zM<|zZ) ?_
  refine kH (vK (t := 6) (k := 2) (es := List.map jI o) rfl rfl (uI _ _ (fun _ => rfl)) (uG _ _ rfl) (vE _ _ (fun _ => rfl) rfl)) ?_
  obtain rfl : i = a.length := by omega
  rw [← ho, ← hM]
  refine jE ⟨nZ (by kernel_rfl), dB (by kernel_rfl), .inl ⟨_, (.tmp (d := (.sl 3 1 (List.map jI o))) rfl .nil), ?_⟩⟩
  rfl
theorem e_sum (f : Int) (r : List Int) (L : List kK) (hl : L.length ≤ 1000) (hr : r.length ≤ 64) : gB Tryz.prog 178 [(.ref 0 0), (vi f), (vl 3 1 jI r)] [(0, some [(.own 1 83 7 L.length)]), (1, some (qQ jS L))] (.d (.val (.int .i64 ((smI L.length f r.length))))) [(0, some [(.own 1 83 7 ((smT L f r r.length).length))]), (1, some (qQ jS (smT L f r r.length)))] := by
 refine fn_introSl 1 Tryz.func178 rfl cb178 rfl (by kernel_rfl) ?_
 show qR _ _ _ _ ⟨[(0, (.ref 0 0)), (1, (vi f)), (2, (vl 3 1 jI r))], [(0, some [(.own 1 83 7 L.length)]), (1, some (qQ jS L))]⟩
 refine jB<|kx [] [] (zM<|zZ) ?_
 refine jB<|jB<|kx [(9, (vl 3 1 jI r)), (10, (jN r.length)), (11, (jN 0))] [] (zM<|zE (vX qP)<|zM<|zZ) ?_
 refine jG<|kI (α := Nat × Int × List kK) (fun (i, c, M) => ⟨[(0, (.ref 0 0)), (1, (vi c)), (9, (vl 3 1 jI r)), (10, (jN r.length)), (11, (jN i))], [(0, some [(.own 1 83 7 M.length)]), (1, some (qQ jS M))]⟩) (fun (i, c, M) => i ≤ r.length ∧ c = smI L.length f i ∧ M = smT L f r i) (fun (i, c, M) => r.length - i) (0, f, L) wk ⟨Nat.zero_le _, rfl, rfl⟩ ?_
 rintro ⟨i, c, M⟩ ⟨hi, hc, hM⟩
 have hml : M.length = L.length + i := by rw [hM]; exact sum_len _ _ _ _
 refine jB<|kx [(12, (vb (decide (((i : Nat) : Int) < ((r.length : Nat) : Int)))))] [] (zE vZ<|zZ) ?_
 refine jB<|jF rfl (fun h1 => ?_) (fun h1 => ?_)
 ·replace h1 := uH h1
  refine jD<|jB<|jG<|jB<|kx [(8, (vi (r.getD i 0)))] [] (zE (zU qP i (0 : Int))<|zE (xI yV)<|zM<|zZ) ?_
  refine kf [(1, (jN M.length))] [(0, some [(.own 1 83 7 ((M ++ [kK.mk 2 c (r.getD i 0) kW]).length))]), (1, some (qQ jS (M ++ [kK.mk 2 c (r.getD i 0) kW])))] (zM<|zM<|zM<|zS (B2 := [(0, some [(.own 1 83 7 M.length)]), (1, some (qQ jS M))]) (B2' := [(0, some [(.own 1 83 7 ((M ++ [kK.mk 2 c (r.getD i 0) kW]).length))]), (1, some (qQ jS (M ++ [kK.mk 2 c (r.getD i 0) kW])))]) (M := 1000000) [0, 1] [0] (dR 2 c (r.getD i 0) M (by omega)) (.cons (by exact rfl) (by kernel_rfl) (.cons (by exact rfl) (qV _ _) .nil)) (.cons (by exact rfl) (by kernel_rfl) (.cons (by exact rfl) (qV _ _) .nil)) (by repeat first | exact .nil | refine .hid rfl ?_ | refine .map rfl ?_ | refine .dat rfl ?_ | refine .none rfl ?_ | refine .cells rfl rfl ?_)<|zM<|zF) ?_
  refine kx [(11, (jN (i + 1)))] [] (zE (vG (i + 1))<|zM<|zZ) ?_
  exact ⟨(i + 1, ((M.length : Nat) : Int), M ++ [(kK.mk 2 c (r.getD i 0) kW)]), wk, ⟨by omega, by rw [smI_succ, hml], by rw [hM, hc]; rfl⟩, (by first|omega|(dsimp only;omega))⟩
 ·replace h1 := vB h1
  refine kC<|jB<|kx [(6, (vi c))] [] (zM<|zM<|zZ) ?_
  obtain rfl : i = r.length := by omega
  rw [← hc, ← hM]
  refine jE ⟨nZ (by kernel_rfl), dB (by kernel_rfl), .inl ⟨_, (.tmp (d := (.val (.int .i64 (c)))) rfl .nil), ?_⟩⟩
  rfl
theorem e_sqs (a : List Int) (L : List kK) (hl : L.length ≤ 500) (h1 : 1 ≤ a.length) (ha : a.length ≤ 64) : gB Tryz.prog 120 [(.ref 0 0), (vl 3 1 jI a)] [(0, some [(.own 1 83 7 L.length)]), (1, some (qQ jS L))] (.d (.val (.int .i64 ((ssI L a))))) [(0, some [(.own 1 83 7 ((ssT L a).length))]), (1, some (qQ jS (ssT L a)))] := by
 refine nN Tryz.func120 rfl cb120 rfl ?_
 show qR _ _ _ _ ⟨[(0, (.ref 0 0)), (1, (vl 3 1 jI a))], [(0, some [(.own 1 83 7 L.length)]), (1, some (qQ jS L))]⟩
 refine jB<|kx [] [] (zM<|zZ) ?_
 refine jB<|kx [(5, (.own 2 3 1 0))] [(2, some (bm jI []))] (zOh 2 3 1<|zZ) ?_
 refine jB<|jB<|kx [(8, (vl 3 1 jI a)), (9, (jN a.length)), (10, (jN 0))] [] (zM<|zE (vX qP)<|zM<|zZ) ?_
 refine jG<|kI (α := Nat × List Int × List kK) (fun (i, o, M) => ⟨[(0, (.ref 0 0)), (5, (.own 2 3 1 o.length)), (8, (vl 3 1 jI a)), (9, (jN a.length)), (10, (jN i))], [(0, some [(.own 1 83 7 M.length)]), (1, some (qQ jS M)), (2, some (bm jI o))]⟩) (fun (i, o, M) => i ≤ a.length ∧ o = opI L.length i ∧ M = opT 7 L (fun i => a.getD i 0) (fun _ => 0) i) (fun (i, o, M) => a.length - i) (0, [], L) wk ⟨Nat.zero_le _, rfl, rfl⟩ ?_
 rintro ⟨i, o, M⟩ ⟨hi, ho, hM⟩
 have hol : o.length = i := by rw [ho]; exact opI_len _ _
 have hml : M.length = L.length + i := by rw [hM]; exact mS _ _ _ _ _
 refine jB<|kx [(11, (vb (decide (((i : Nat) : Int) < ((a.length : Nat) : Int)))))] [] (zE vZ<|zZ) ?_
 refine jB<|jF rfl (fun h1 => ?_) (fun h1 => ?_)
 ·replace h1 := uH h1
  refine jD<|jB<|jG<|jB<|kx [(7, (vi (a.getD i 0)))] [] (zE (zU qP i (0 : Int))<|zE (xI yV)<|zM<|zZ) ?_
  refine kf [(5, (.own 2 3 1 ((o ++ [((M.length : Nat) : Int)]).length)))] [(0, some [(.own 1 83 7 ((M ++ [kK.mk 7 (a.getD i 0) 0 kW]).length))]), (1, some (qQ jS (M ++ [kK.mk 7 (a.getD i 0) 0 kW]))), (2, some (bm jI (o ++ [((M.length : Nat) : Int)])))] (zM<|zM<|zM<|zS (B2 := [(0, some [(.own 1 83 7 M.length)]), (1, some (qQ jS M))]) (B2' := [(0, some [(.own 1 83 7 ((M ++ [kK.mk 7 (a.getD i 0) 0 kW]).length))]), (1, some (qQ jS (M ++ [kK.mk 7 (a.getD i 0) 0 kW])))]) (M := 1000000) [0, 1] [0] (dR 7 (a.getD i 0) 0 M (by omega)) (.cons (by exact rfl) (by kernel_rfl) (.cons (by exact rfl) (qV _ _) .nil)) (.cons (by exact rfl) (by kernel_rfl) (.cons (by exact rfl) (qV _ _) .nil)) (by repeat first | exact .nil | refine .hid rfl ?_ | refine .map rfl ?_ | refine .dat rfl ?_ | refine .none rfl ?_ | refine .cells rfl rfl ?_)<|zE (gN qP ze3 zo3)<|zA jI o [((M.length : Nat) : Int)] rfl qP ze3 by3 (hB := by repeat first | exact fM _ | refine eS ?_ | refine bX ?_ | refine cC ?_ | refine clr_bx ?_ | refine clr_d ?_ | refine clr_cons rfl ?_)<|zM<|zF) ?_
  refine kx [(10, (jN (i + 1)))] [] (zE (vG (i + 1))<|zM<|zZ) ?_
  exact ⟨(i + 1, o ++ [((M.length : Nat) : Int)], M ++ [(kK.mk 7 (a.getD i 0) 0 kW)]), wk, ⟨by omega, by rw [ho, hml, opI_succ], by rw [hM]; rfl⟩, (by first|omega|(dsimp only;omega))⟩
 ·replace h1 := vB h1
  refine kC<|jB<|kH (vK (t := 5) (k := 2) (es := List.map jI o) rfl rfl (uI _ _ (fun _ => rfl)) (uG _ _ rfl) (vE _ _ (fun _ => rfl) rfl)) ?_
  refine kd [(4, (vi (smI M.length (o.getD 0 0) (List.drop 1 o).length)))] [(0, some [(.own 1 83 7 ((smT M (o.getD 0 0) (List.drop 1 o) (List.drop 1 o).length).length))]), (1, some (qQ jS (smT M (o.getD 0 0) (List.drop 1 o) (List.drop 1 o).length)))] mo (wM<|wM<|wE (zU qP 0 (0 : Int))<|wE (xI yV)<|wM<|wE (e_slc (l := 1) (h := (List.map jI o).length) (kl := .i64) (kh := .i64) (es' := List.map jI (List.drop 1 o)) (by exact rfl) qP (by exact rfl) (by exact rfl) (by exact rfl) (by simp only [List.length_map]; omega) (Nat.le_refl _) (by rw [List.take_length, List.map_drop]))<|wS [0, 1] [1] (vi (smI M.length (o.getD 0 0) (List.drop 1 o).length)) [(.ref 0 0), (vi (o.getD 0 0)), (vl 3 1 jI (List.drop 1 o))] [(0, some [(.own 1 83 7 M.length)]), (1, some (qQ jS M))] [(0, some [(.own 1 83 7 ((smT M (o.getD 0 0) (List.drop 1 o) (List.drop 1 o).length).length))]), (1, some (qQ jS (smT M (o.getD 0 0) (List.drop 1 o) (List.drop 1 o).length)))] (e_sum (o.getD 0 0) (List.drop 1 o) M (by first | omega | (simp [qW, uN, uS, qS] <;> omega)) (by rw [List.length_drop]; omega)) (.cons rfl (by kernel_rfl) (.cons rfl (yB _ _) .nil)) (.cons rfl (by kernel_rfl) (.cons rfl (yB _ _) .nil)) (by repeat first | exact .nil | refine .hid rfl ?_ | refine .none ?_ | refine .dat ?_ | refine .map ?_ | refine .cells (by kernel_rfl) ?_) (by repeat first | exact .nil | refine .dat ?_ | refine .map ?_ | refine .cells (by kernel_rfl) ?_)<|wM<|wZ) ?_
  obtain rfl : i = a.length := by omega
  have hd : (List.drop 1 o).length = a.length - 1 := by rw [List.length_drop, hol]
  have e1 : ssT L a = smT M (o.getD 0 0) (List.drop 1 o) (List.drop 1 o).length := by rw [hd, ho, hM]; rfl
  have e2 : ssI L a = smI M.length (o.getD 0 0) (List.drop 1 o).length := by rw [hd, ho, hM]; rfl
  rw [e1, e2]
  refine jE ⟨nZ (by kernel_rfl), dB (by kernel_rfl), .inl ⟨_, (.tmp (d := (.val (.int .i64 ((smI M.length (o.getD 0 0) (List.drop 1 o).length))))) rfl .nil), ?_⟩⟩
  rfl
theorem e_pds (a : List Int) (b : List Int) (L : List kK) (hl : L.length ≤ 500) (h1 : 1 ≤ a.length) (ha : a.length ≤ 64) (hb : b.length = a.length) : gB Tryz.prog 124 [(.ref 0 0), (vl 3 1 jI a), (vl 3 1 jI b)] [(0, some [(.own 1 83 7 L.length)]), (1, some (qQ jS L))] (.d (.val (.int .i64 ((spI L a b))))) [(0, some [(.own 1 83 7 ((spT L a b).length))]), (1, some (qQ jS (spT L a b)))] := by
 let y1 := kW
 refine nN Tryz.func124 rfl cb124 rfl ?_
 show qR _ _ _ _ ⟨[(0, (.ref 0 0)), (1, (vl 3 1 jI a)), (2, (vl 3 1 jI b))], [(0, some [(.own 1 83 7 L.length)]), (1, some (qQ jS L))]⟩
 refine jB<|kx [] [] (zM<|zZ) ?_
 refine jB<|kx [(7, (.own 2 3 1 0))] [(2, some (bm jI []))] (zOh 2 3 1<|zZ) ?_
 refine jB<|kx [(8, (.bnd 123 0 0))] [] (zM<|zE (oMb 0 0)<|zM<|zZ) ?_
 refine jB<|jB<|kx [(13, (jN a.length)), (14, (jN 0))] [] (zM<|zE (vX qP)<|zM<|zZ) ?_
 refine jG<|kI (α := Nat × List Int × List kK) (fun (i, o, M) => ⟨[(0, (.ref 0 0)), (1, (vl 3 1 jI a)), (2, (vl 3 1 jI b)), (7, (.own 2 3 1 o.length)), (8, (.bnd 123 0 0)), (13, (jN a.length)), (14, (jN i))], [(0, some [(.own 1 83 7 M.length)]), (1, some (qQ jS M)), (2, some (bm jI o))]⟩) (fun (i, o, M) => i ≤ a.length ∧ o = opI L.length i ∧ M = opT 4 L (fun i => a.getD i 0) (fun i => b.getD i 0) i) (fun (i, o, M) => a.length - i) (0, [], L) wk ⟨Nat.zero_le _, rfl, rfl⟩ ?_
 rintro ⟨i, o, M⟩ ⟨hi, ho, hM⟩
 have hol : o.length = i := by rw [ho]; exact opI_len _ _
 have hml : M.length = L.length + i := by rw [hM]; exact mS _ _ _ _ _
 refine jB<|kx [(15, (vb (decide (((i : Nat) : Int) < ((a.length : Nat) : Int)))))] [] (zE vZ<|zZ) ?_
 refine jB<|jF rfl (fun h1 => ?_) (fun h1 => ?_)
 ·replace h1 := uH h1
  refine jD<|jB<|jG<|jB<|kx [(9, (jN i))] [] (zM<|zM<|zZ) ?_
  refine kd [(7, (.own 3 3 1 ((o ++ [((M.length : Nat) : Int)]).length)))] [(0, some [(.own 1 83 7 ((M ++ [kK.mk 4 (a.getD i 0) (b.getD i 0) y1]).length))]), (1, some (qQ jS (M ++ [kK.mk 4 (a.getD i 0) (b.getD i 0) y1]))), (3, some (bm jI (o ++ [((M.length : Nat) : Int)]))), (2, none)] mo (wM<|wM<|wM<|wM<|wE (zU qP i (0 : Int))<|wE (xI yV)<|wM<|wM<|wE (zU qP i (0 : Int))<|wE (xI yV)<|wS [0, 1] [1] (jN M.length) [(.ref 0 0), (jN 4), (vi (a.getD i 0)), (vi (b.getD i 0))] [(0, some [(.own 1 83 7 M.length)]), (1, some (qQ jS M))] [(0, some [(.own 1 83 7 ((M ++ [kK.mk 4 (a.getD i 0) (b.getD i 0) y1]).length))]), (1, some (qQ jS (M ++ [kK.mk 4 (a.getD i 0) (b.getD i 0) y1])))] (dR 4 (a.getD i 0) (b.getD i 0) M (by omega)) (.cons rfl (by kernel_rfl) (.cons rfl (yB _ _) .nil)) (.cons rfl (by kernel_rfl) (.cons rfl (yB _ _) .nil)) (by repeat first | exact .nil | refine .hid rfl ?_ | refine .none ?_ | refine .dat ?_ | refine .map ?_ | refine .cells (by kernel_rfl) ?_) (by repeat first | exact .nil | refine .dat ?_ | refine .map ?_ | refine .cells (by kernel_rfl) ?_) (hc := callV_bnd (by exact rfl) (by exact rfl) (by kernel_rfl))<|wE (gN qP ze3 zo3)<|wA (k := 2) 3 jI o [((M.length : Nat) : Int)] rfl qP ze3 by3<|wM<|wZ) ?_
  refine kH (wk (l := [(0, (.ref 0 0)), (1, (vl 3 1 jI a)), (2, (vl 3 1 jI b)), (7, (.own 3 3 1 ((o ++ [((M.length : Nat) : Int)]).length))), (8, (.bnd 123 0 0)), (13, (jN a.length)), (14, (jN i))]) (b := [(0, some [(.own 1 83 7 ((M ++ [kK.mk 4 (a.getD i 0) (b.getD i 0) y1]).length))]), (1, some (qQ jS (M ++ [kK.mk 4 (a.getD i 0) (b.getD i 0) y1]))), (3, some (bm jI (o ++ [((M.length : Nat) : Int)])))])) ?_
  refine kH (sim_ren (S' := [(0, (.ref 0 0)), (1, (vl 3 1 jI a)), (2, (vl 3 1 jI b)), (7, (.own 2 3 1 ((o ++ [((M.length : Nat) : Int)]).length))), (8, (.bnd 123 0 0)), (13, (jN a.length)), (14, (jN i))]) (B' := [(0, some [(.own 1 83 7 ((M ++ [kK.mk 4 (a.getD i 0) (b.getD i 0) y1]).length))]), (1, some (qQ jS (M ++ [kK.mk 4 (a.getD i 0) (b.getD i 0) y1]))), (2, some (bm jI (o ++ [((M.length : Nat) : Int)])))]) 2 3) ?_
  refine kx [(14, (jN (i + 1)))] [] (zE (vG (i + 1))<|zM<|zZ) ?_
  exact ⟨(i + 1, o ++ [((M.length : Nat) : Int)], M ++ [(kK.mk 4 (a.getD i 0) (b.getD i 0) kW)]), wk, ⟨by omega, by rw [ho, hml, opI_succ], by rw [hM]; rfl⟩, (by first|omega|(dsimp only;omega))⟩
 ·replace h1 := vB h1
  refine kC<|jB<|kH (vK (t := 7) (k := 2) (es := List.map jI o) rfl rfl (uI _ _ (fun _ => rfl)) (uG _ _ rfl) (vE _ _ (fun _ => rfl) rfl)) ?_
  refine kd [(6, (vi (smI M.length (o.getD 0 0) (List.drop 1 o).length)))] [(0, some [(.own 1 83 7 ((smT M (o.getD 0 0) (List.drop 1 o) (List.drop 1 o).length).length))]), (1, some (qQ jS (smT M (o.getD 0 0) (List.drop 1 o) (List.drop 1 o).length)))] mo (wM<|wM<|wE (zU qP 0 (0 : Int))<|wE (xI yV)<|wM<|wE (e_slc (l := 1) (h := (List.map jI o).length) (kl := .i64) (kh := .i64) (es' := List.map jI (List.drop 1 o)) (by exact rfl) qP (by exact rfl) (by exact rfl) (by exact rfl) (by simp only [List.length_map]; omega) (Nat.le_refl _) (by rw [List.take_length, List.map_drop]))<|wS [0, 1] [1] (vi (smI M.length (o.getD 0 0) (List.drop 1 o).length)) [(.ref 0 0), (vi (o.getD 0 0)), (vl 3 1 jI (List.drop 1 o))] [(0, some [(.own 1 83 7 M.length)]), (1, some (qQ jS M))] [(0, some [(.own 1 83 7 ((smT M (o.getD 0 0) (List.drop 1 o) (List.drop 1 o).length).length))]), (1, some (qQ jS (smT M (o.getD 0 0) (List.drop 1 o) (List.drop 1 o).length)))] (e_sum (o.getD 0 0) (List.drop 1 o) M (by first | omega | (simp [qW, uN, uS, qS] <;> omega)) (by rw [List.length_drop]; omega)) (.cons rfl (by kernel_rfl) (.cons rfl (yB _ _) .nil)) (.cons rfl (by kernel_rfl) (.cons rfl (yB _ _) .nil)) (by repeat first | exact .nil | refine .hid rfl ?_ | refine .none ?_ | refine .dat ?_ | refine .map ?_ | refine .cells (by kernel_rfl) ?_) (by repeat first | exact .nil | refine .dat ?_ | refine .map ?_ | refine .cells (by kernel_rfl) ?_)<|wM<|wZ) ?_
  obtain rfl : i = a.length := by omega
  have hd : (List.drop 1 o).length = a.length - 1 := by rw [List.length_drop, hol]
  have e1 : spT L a b = smT M (o.getD 0 0) (List.drop 1 o) (List.drop 1 o).length := by rw [hd, ho, hM]; rfl
  have e2 : spI L a b = smI M.length (o.getD 0 0) (List.drop 1 o).length := by rw [hd, ho, hM]; rfl
  rw [e1, e2]
  refine jE ⟨nZ (by kernel_rfl), dB (by kernel_rfl), .inl ⟨_, (.tmp (d := (.val (.int .i64 ((smI M.length (o.getD 0 0) (List.drop 1 o).length))))) rfl .nil), ?_⟩⟩
  rfl
end Go.Proofs.YtnajallgoaiahaaGreatDoor
namespace Go.Fid
set_option linter.unusedVariables false
set_option linter.unusedSimpArgs false
inductive LOk (n : Nat) : List kS → List Int → Prop
  | nil : LOk n [] []
  | cons {x : kS} {z : Int} {l : List kS} {zs : List Int} (h : yP x z n) (t : LOk n l zs) : LOk n (x :: l) (z :: zs)
theorem iok_nilN (n : Nat) : yP ⟨false, []⟩ 0 n := ⟨by decide, Nat.zero_le _⟩
theorem LOk.len {n : Nat} {l : List kS} {zs : List Int} (h : LOk n l zs) : l.length = zs.length := by
  induction h with
  | nil => rfl
  | cons h t ih => simp [ih]
theorem LOk.get {n : Nat} {l : List kS} {zs : List Int} (h : LOk n l zs) (i : Nat) : yP (l.getD i ⟨false, []⟩) (zs.getD i 0) n := by
  induction h generalizing i with
  | nil => exact iok_nilN n
  | cons h t ih =>
    rcases i with _ | i
    · exact h
    · exact ih i
theorem LOk.all {n : Nat} {l : List kS} {zs : List Int} (h : LOk n l zs) : ∀ z ∈ zs, nX z ≤ n := by
  induction h with
  | nil => simp
  | cons h t ih =>
    intro z hz
    rcases List.mem_cons.1 hz with rfl | hz
    · exact h.ln
    · exact ih z hz
theorem LOk.up {m n : Nat} {l : List kS} {zs : List Int} (h : LOk m l zs) (hm : m ≤ n) : LOk n l zs := by
  induction h with
  | nil => exact .nil
  | cons h t ih => exact .cons (gU h hm) ih
theorem signI_ne {z : Int} (h : z ≠ 0) : uB z ≠ 0 := by
  unfold uB; split <;> (try split) <;> omega
theorem LOk.map {n : Nat} {l : List kS} {zs : List Int} (h : LOk n l zs) : l.map jW = zs := by
  induction h with
  | nil => rfl
  | cons h t ih => rw [List.map_cons, ih, h.v]
theorem all_nil {l : List kS} (h : ∀ x ∈ l, x = kS.mk false []) (i : Nat) : l.getD i (kS.mk false []) = kS.mk false [] := by
  rw [List.getD]
  cases hj : l[i]? with
  | none => rfl
  | some q => exact h q (List.mem_of_getElem? hj)
end Go.Fid
namespace Go.Proofs.YtnajallgoaiahaaGreatDoor
open Go.Fid
def yR (n : Nat) (l : List kD) : Prop := (∀ a ∈ l, mF a (qB a) n) ∧ l.length ≤ 140737488355328
def nD (n : Nat) (m : List (List kD)) : Prop := (∀ r ∈ m, yR n r) ∧ m.length ≤ 140737488355328
def bO (l : List kD) : Bool := l.all kN
theorem xS {l : List kD} {n j : Nat} {d : kD} (h : ∀ a ∈ l, mF a (qB a) n) (hj : j < l.length) : mF (l.getD j d) (qB (l.getD j d)) n := by
  rw [List.getD_eq_getElem?_getD, List.getElem?_eq_getElem hj]; exact h _ (List.getElem_mem hj)
theorem row_up {n k : Nat} {l : List kD} (h : yR n l) (hk : n ≤ k) : yR k l := ⟨fun a ha => jP (h.1 a ha) hk, h.2⟩
theorem mat_up {n k : Nat} {m : List (List kD)} (h : nD n m) (hk : n ≤ k) : nD k m := ⟨fun a ha => row_up (h.1 a ha) hk, h.2⟩
theorem xT {n i : Nat} {m : List (List kD)} {d : List kD} (h : nD n m) (hi : i < m.length) : yR n (m.getD i d) := by
  rw [List.getD_eq_getElem?_getD, List.getElem?_eq_getElem hi]; exact h.1 _ (List.getElem_mem hi)
theorem take_all {α : Type} {f : α → Bool} {l : List α} {i : Nat} {d : α} (h : i < l.length) : (l.take (i + 1)).all f = ((l.take i).all f && f (l.getD i d)) := by
  rw [List.getD_eq_getElem?_getD, List.getElem?_eq_getElem h, List.take_succ_eq_append_getElem h, List.all_append]
  simp
set_option linter.unusedVariables false
set_option linter.unusedSimpArgs false
def aY {α : Type} (f : α → Bool) : List α → Nat → Int
  | [], _ => -1
  | x :: r, i => bif f x then ((i : Nat) : Int) else aY f r (i + 1)
theorem fst0_step {α : Type} (f : α → Bool) (d : α) (l : List α) (k : Nat) (h : k < l.length) (hf : f (l.getD k d) = false) : aY f (l.drop k) k = aY f (l.drop (k + 1)) (k + 1) := by
  rw [List.drop_eq_getElem_cons h, aY, show f l[k] = false by rw [← hf, List.getD_eq_getElem?_getD, List.getElem?_eq_getElem h]; rfl]; rfl
theorem fst0_at {α : Type} (f : α → Bool) (d : α) (l : List α) (k : Nat) (h : k < l.length) (hf : f (l.getD k d) = true) : aY f (l.drop k) k = ((k : Nat) : Int) := by
  rw [List.drop_eq_getElem_cons h, aY, show f l[k] = true by rw [← hf, List.getD_eq_getElem?_getD, List.getElem?_eq_getElem h]; rfl]; rfl
theorem fst0_end {α : Type} (f : α → Bool) (l : List α) (k : Nat) (h : l.length ≤ k) : aY f (l.drop k) k = -1 := by rw [List.drop_eq_nil_of_le h]; rfl
theorem fst0_any {α : Type} (f : α → Bool) : ∀ (l : List α) (i : Nat), decide (0 ≤ aY f l i) = l.any f
  | [], i => by simp [aY]
  | x :: r, i => by
    rw [aY, List.any_cons]
    cases f x
    · rw [Bool.false_or, cond_false]; exact fst0_any f r (i + 1)
    · rw [Bool.true_or, cond_true, decide_eq_true_eq]; omega
theorem vRow_any (l : List kD) : (!(l.any (fun x => !(kN x)))) = bO l := by
  unfold bO
  rw [List.all_eq_not_any_not]
def gL (m : List (List kD)) (l : List kD) : Bool := (((l.length : Nat) : Int) != (((m.getD 0 []).length : Nat) : Int)) || !(bO l)
def shpB (m : List (List kD)) : Bool := (((decide (((m.length : Nat) : Int) < 1) || decide (64 < ((m.length : Nat) : Int))) || decide ((((m.getD 0 []).length : Nat) : Int) < 1)) || decide (64 < (((m.getD 0 []).length : Nat) : Int)))
def mchk (m : List (List kD)) : Nat := bif shpB m || m.any (gL m) then 1 else 0
theorem shp_0 {m : List (List kD)} (h : shpB m = false) : 0 < m.length := by
  unfold shpB at h
  simp only [Bool.or_eq_false_iff, decide_eq_false_iff_not] at h
  omega
theorem mchk_1 {m : List (List kD)} (h : shpB m = true) : mchk m = 1 := by unfold mchk; rw [h]; rfl
theorem mchk_2 {m : List (List kD)} (h : m.any (gL m) = true) : mchk m = 1 := by unfold mchk; rw [h, Bool.or_true]; rfl
theorem mchk_3 {m : List (List kD)} (h1 : shpB m = false) (h : m.any (gL m) = false) : mchk m = 0 := by unfold mchk; rw [h, h1]; rfl
structure dP (m : List (List kD)) (r c : Nat) : Prop where
  hr : m.length = r
  hc : ∀ l ∈ m, l.length = c ∧ bO l = true
  r1 : 1 ≤ r
  r64 : r ≤ 64
  c1 : 1 ≤ c
  c64 : c ≤ 64
theorem mchk_rect {m : List (List kD)} (h : mchk m = 0) : dP m m.length (m.getD 0 []).length := by
  unfold mchk at h
  cases hb : shpB m || m.any (gL m) with
  | true => rw [hb] at h; cases h
  | false =>
    rw [Bool.or_eq_false_iff] at hb
    obtain ⟨h1, h2⟩ := hb
    unfold shpB at h1
    simp only [Bool.or_eq_false_iff, decide_eq_false_iff_not] at h1
    refine ⟨rfl, fun l hl => ?_, by omega, by omega, by omega, by omega⟩
    have h3 := List.any_eq_false.1 h2 l hl
    unfold gL at h3
    rw [Bool.not_eq_true, Bool.or_eq_false_iff, Bool.not_eq_false', bne_eq_false_iff_eq] at h3
    exact ⟨by omega, h3.2⟩
theorem dP.at {m : List (List kD)} {r c : Nat} (h : dP m r c) {i : Nat} (hi : i < r) : (m.getD i []).length = c ∧ bO (m.getD i []) = true := by
  have := h.hr
  rw [List.getD_eq_getElem?_getD, List.getElem?_eq_getElem (by omega)]; exact h.hc _ (List.getElem_mem _)
theorem toQ_zr : qB zr = 0 := by unfold qB; rw [if_neg (by decide)]
def dotT (l m : List kD) : Nat → Rat
  | 0 => 0
  | i + 1 => dotT l m i + qB (l.getD i zr) * qB (m.getD i zr)
def dotR (l m : List kD) : Rat := dotT l m l.length
theorem dotT_skip {l m : List kD} {i : Nat} (h : qB (l.getD i zr) = 0 ∨ qB (m.getD i zr) = 0) : dotT l m i = dotT l m (i + 1) := by
  rw [dotT]
  rcases h with h | h <;> rw [h] <;> grind
theorem row_ql {l : List kD} {n j : Nat} (h : yR n l) (hn : 1 ≤ n) : QL (qB (l.getD j zr)) n := by
  rcases Nat.lt_or_ge j l.length with hj | hj
  · exact (xS h.1 hj).ql
  · rw [List.getD_eq_getElem?_getD, List.getElem?_eq_none (by omega)]
    show QL (qB zr) n
    rw [toQ_zr]
    exact xQ eH hn
theorem dotT_ql {l m : List kD} {a b : Nat} (hl : yR a l) (hm : yR b m) (ha : 1 ≤ a) (hb : 1 ≤ b) : ∀ i, QL (dotT l m i) (i * (a + b + 1) + 1)
  | 0 => xQ eH (by omega)
  | i + 1 => by
    rw [dotT]
    exact nS (dotT_ql hl hm ha hb i) (qF (row_ql hl ha) (row_ql hm hb) (Nat.le_refl _)) (by rw [Nat.add_mul]; omega)
theorem dot_ql1 {l m : List kD} {i : Nat} (hl : yR 1048576 l) (hm : yR 1048576 m) (hi : i ≤ 64) : QL (dotT l m i) 134217800 :=
  xQ (dotT_ql hl hm (by decide) (by decide) i) (Nat.le_trans (Nat.add_le_add_right (Nat.mul_le_mul_right _ hi) 1) (by decide))
theorem dot_ql2 {l m : List kD} {i : Nat} (hl : yR 1048576 l) (hm : yR 134217800 m) (hi : i ≤ 64) : QL (dotT l m i) 8800000000 :=
  xQ (dotT_ql hl hm (by decide) (by decide) i) (Nat.le_trans (Nat.add_le_add_right (Nat.mul_le_mul_right _ hi) 1) (by decide))
def appR (m : List (List kD)) (v : List kD) : List kD := m.map fun r => jM (dotR r v)
theorem appR_len (m : List (List kD)) (v : List kD) : (appR m v).length = m.length := List.length_map _
theorem appR_step {m : List (List kD)} {v : List kD} {i : Nat} (h : i < m.length) : (m.take i).map (fun r => jM (dotR r v)) ++ [jM (dotR (m.getD i []) v)] = (m.take (i + 1)).map (fun r => jM (dotR r v)) := by
  rw [List.take_succ_eq_append_getElem h, List.map_append, List.getD_eq_getElem?_getD, List.getElem?_eq_getElem h]; rfl
theorem appR_ok {m : List (List kD)} {v : List kD} (hm : nD 1048576 m) (hv : yR 1048576 v) (hr : ∀ l ∈ m, l.length ≤ 64) : yR 134217800 (appR m v) := by
  refine ⟨fun a ha => ?_, by rw [appR_len]; exact hm.2⟩
  obtain ⟨r, h1, rfl⟩ := List.mem_map.1 ha
  rw [mC]
  exact jX (dot_ql1 (hm.1 r h1) hv (hr r h1))
theorem dP.le {m : List (List kD)} {r c : Nat} (h : dP m r c) : ∀ l ∈ m, l.length ≤ 64 := fun l hl => by
  have h1 := (h.hc l hl).1
  have h2 := h.c64
  omega
def covR (q : List (List kD)) (a b : List kD) : Rat := dotR a (appR q b)
def eqM (m : List (List kD)) (i j : Nat) : Bool := decide (qB ((m.getD i []).getD j zr) = qB ((m.getD j []).getD i zr))
def symB (m : List (List kD)) : Bool := (List.range m.length).all fun i => (List.range i).all fun j => eqM m i j
def symI (m : List (List kD)) (k : Nat) : Prop := ∀ i, i < k → ∀ j, j < i → eqM m i j = true
theorem symI_0 (m : List (List kD)) : symI m 0 := fun i h => by omega
theorem symI_s {m : List (List kD)} {k : Nat} (h : symI m k) (h2 : ∀ j, j < k → eqM m k j = true) : symI m (k + 1) := fun i hi j hj => by
  rcases Nat.lt_or_ge i k with h3 | h3
  · exact h i h3 j hj
  · obtain rfl : i = k := by omega
    exact h2 j hj
theorem sym_no {m : List (List kD)} {i j : Nat} (hi : i < m.length) (hj : j < i) (h : eqM m i j = false) : symB m = false := by
  cases hb : symB m with
  | false => rfl
  | true =>
    have := List.all_eq_true.1 (List.all_eq_true.1 hb i (List.mem_range.2 hi)) j (List.mem_range.2 hj)
    rw [h] at this; cases this
theorem sym_yes {m : List (List kD)} (h : symI m m.length) : symB m = true := by
  unfold symB
  rw [List.all_eq_true]; intro i hi
  rw [List.all_eq_true]; intro j hj
  exact h i (List.mem_range.1 hi) j (List.mem_range.1 hj)
def fitC (m : List (List kD)) (n : Nat) : Nat := if m.length ≠ n ∨ (m.getD 0 []).length ≠ n then 4 else bif symB m then 0 else 11
theorem fit_1 {m : List (List kD)} {n : Nat} (h : (((((m.length : Nat) : Int) != ((n : Nat) : Int)) || ((((m.getD 0 []).length : Nat) : Int) != ((n : Nat) : Int)))) = true) : fitC m n = 4 := by
  rw [Bool.or_eq_true, bne_iff_ne, bne_iff_ne] at h
  exact if_pos (by omega)
theorem fit_0 {m : List (List kD)} {n : Nat} (h : (((((m.length : Nat) : Int) != ((n : Nat) : Int)) || ((((m.getD 0 []).length : Nat) : Int) != ((n : Nat) : Int)))) = false) : m.length = n ∧ (m.getD 0 []).length = n := by
  rw [Bool.or_eq_false_iff, bne_eq_false_iff_eq, bne_eq_false_iff_eq] at h
  omega
theorem fit_11 {m : List (List kD)} {n : Nat} (h : m.length = n ∧ (m.getD 0 []).length = n) (hs : symB m = false) : fitC m n = 11 := by
  unfold fitC; rw [if_neg (by omega), hs]; rfl
theorem fit_ok {m : List (List kD)} {n : Nat} (h : m.length = n ∧ (m.getD 0 []).length = n) (hs : symB m = true) : fitC m n = 0 := by
  unfold fitC; rw [if_neg (by omega), hs]; rfl
theorem fit_of {m : List (List kD)} {n : Nat} (h : fitC m n = 0) : m.length = n ∧ (m.getD 0 []).length = n ∧ symB m = true := by
  unfold fitC at h
  split at h
  · cases h
  · rename_i h1
    cases hs : symB m with
    | false => rw [hs] at h; cases h
    | true => exact ⟨by omega, by omega, rfl⟩
def gF (xs : List Rat) (t : List kK) : List kD := (gX (xs.map dX) t).g.map fun y => jM y.1
def tabR (q : List (List kD)) (gs : List (List kD)) : List (List kD) := gs.map fun a => gs.map fun b => jM (covR q a b)
theorem gr_step {G : List R2} {i : Nat} (h : i < G.length) : (G.take i).map (fun y => jM y.1) ++ [jM (G.getD i z2).1] = (G.take (i + 1)).map (fun y => jM y.1) := by
  rw [List.take_succ_eq_append_getElem h, List.map_append, List.getD_eq_getElem?_getD, List.getElem?_eq_getElem h]; rfl
theorem grQ_len {xs : List Rat} {t : List kK} (h : JRun (xs.map dX) t) : (gF xs t).length = xs.length := by
  unfold gF
  rw [List.length_map, h.last.2.2, List.length_map]
theorem grQ_ok {xs : List Rat} {t : List kK} (h : JRun (xs.map dX) t) : yR 1048576 (gF xs t) := by
  have hl := h.last
  refine ⟨fun a ha => ?_, ?_⟩
  · unfold gF at ha
    obtain ⟨y, hy, rfl⟩ := List.mem_map.1 ha
    rw [mC]
    exact jX (hl.2.1 y hy).1
  · rw [grQ_len h]
    have := (tm_0 h.c0).2.1
    rw [List.length_map] at this; omega
theorem grQ_v {xs : List Rat} {t : List kK} : bO (gF xs t) = true := by
  unfold bO gF
  rw [List.all_eq_true]
  intro a ha
  obtain ⟨r, h1, rfl⟩ := List.mem_map.1 ha
  exact mK _
theorem dot_sk {a b : Rat} (h : ((dZ a != 0) && (dZ b != 0)) = false) : a = 0 ∨ b = 0 := by
  rw [Bool.and_eq_false_iff, bne_eq_false_iff_eq, bne_eq_false_iff_eq] at h
  rcases h with h | h
  · exact .inl (signQ_zero.1 h)
  · exact .inr (signQ_zero.1 h)
theorem mcol_le {m : List (List kD)} {v : List kD} (h : ∀ r ∈ m, r.length = v.length) (hv : v.length ≤ 64) : ∀ r ∈ m, r.length ≤ 64 := fun r hr => by have := h r hr; omega
theorem mcol_at {m : List (List kD)} {v : List kD} (h : ∀ r ∈ m, r.length = v.length) {i : Nat} (hi : i < m.length) : (m.getD i []).length = v.length := by
  rw [List.getD_eq_getElem?_getD, List.getElem?_eq_getElem hi]; exact h _ (List.getElem_mem _)
theorem rect_chk {m : List (List kD)} {r c : Nat} (h : dP m r c) : mchk m = 0 := by
  have h1 := h.hr; have h2 := h.r1; have h3 := h.r64; have h4 := h.c1; have h5 := h.c64
  have h0 := (h.at (i := 0) h2).1
  refine mchk_3 ?_ ?_
  · unfold shpB
    simp only [Bool.or_eq_false_iff, decide_eq_false_iff_not]
    omega
  · rw [List.any_eq_false]
    intro l hl
    obtain ⟨q1, q2⟩ := h.hc l hl
    unfold gL
    rw [Bool.not_eq_true, Bool.or_eq_false_iff, Bool.not_eq_false', bne_eq_false_iff_eq]
    exact ⟨by omega, q2⟩
theorem xN {xs : List Rat} {n : Nat} (h : ∀ q ∈ xs, QL q n) (h1 : 1 ≤ n) (j : Nat) : QL (xs.getD j 0) n := by
  rcases Nat.lt_or_ge j xs.length with hj | hj
  · rw [List.getD_eq_getElem?_getD, List.getElem?_eq_getElem hj]; exact h _ (List.getElem_mem _)
  · rw [List.getD_eq_getElem?_getD, List.getElem?_eq_none (by omega)]; exact xQ eH h1
theorem pts_row {xs : List Rat} {n : Nat} (h : ∀ q ∈ xs, QL q n) (hl : xs.length ≤ 1000000) : yR n (List.map jM xs) := by
  refine ⟨fun a ha => ?_, by rw [List.length_map]; omega⟩
  obtain ⟨q, hq, rfl⟩ := List.mem_map.1 ha
  rw [mC]; exact jX (h q hq)
theorem pts_gl {xs : List Rat} {n : Nat} (h : ∀ q ∈ xs, QL q n) : ∀ y ∈ List.map dX xs, GL n y := fun y hy => by
  obtain ⟨q, hq, rfl⟩ := List.mem_map.1 hy
  exact gl_pt (h q hq)
theorem bC {α β : Type} {f : α → β} {l : List α} {d : α} {i : Nat} (h : i < l.length) : (l.take i).map f ++ [f (l.getD i d)] = (l.take (i + 1)).map f := by
  rw [List.take_succ_eq_append_getElem h, List.map_append, List.getD_eq_getElem?_getD, List.getElem?_eq_getElem h]; rfl
theorem cmpQ_zero {a b : Rat} : yJ a b = 0 ↔ a = b := by
  rw [← signQ_sub]
  show uB (a - b).num = 0 ↔ _
  rw [signQ_zero]
  constructor
  · intro h; grind
  · intro h; grind
theorem eqm_s {m : List (List kD)} {i j : Nat} (h : ∀ b, b < j → eqM m i b = true) (hc : yJ (qB ((m.getD i []).getD j zr)) (qB ((m.getD j []).getD i zr)) = 0) : ∀ b, b < j + 1 → eqM m i b = true := fun b hb => by
  rcases Nat.lt_or_ge b j with h1 | h1
  · exact h b h1
  · obtain rfl : b = j := by omega
    exact decide_eq_true (cmpQ_zero.1 hc)
theorem eqm_f {m : List (List kD)} {i j : Nat} (hc : yJ (qB ((m.getD i []).getD j zr)) (qB ((m.getD j []).getD i zr)) ≠ 0) : eqM m i j = false := decide_eq_false fun h => hc (cmpQ_zero.2 h)
theorem tms_at {N : Nat} {ts : List (List kK)} (h : ∀ t ∈ ts, ∀ x ∈ t, mF x.n (qB x.n) N) (i : Nat) : ∀ x ∈ ts.getD i [], mF x.n (qB x.n) N := by
  rcases Nat.lt_or_ge i ts.length with hj | hj
  · rw [List.getD_eq_getElem?_getD, List.getElem?_eq_getElem hj]; exact h _ (List.getElem_mem _)
  · rw [List.getD_eq_getElem?_getD, List.getElem?_eq_none (by omega)]; intro x hx; simp at hx
theorem tms_one {N : Nat} {t : List kK} (h : ∀ x ∈ t, mF x.n (qB x.n) N) : ∀ u ∈ [t], ∀ x ∈ u, mF x.n (qB x.n) N := fun u hu => by
  rw [List.mem_singleton] at hu; subst hu; exact h
theorem tms_jr {bx : List R2} {ts : List (List kK)} (h : ∀ t ∈ ts, JRun bx t) {i : Nat} (hi : i < ts.length) : JRun bx (ts.getD i []) := by
  rw [List.getD_eq_getElem?_getD, List.getElem?_eq_getElem hi]; exact h _ (List.getElem_mem _)
theorem tms_c0 {xs : List Rat} {ts : List (List kK)} (h : ∀ t ∈ ts, JRun (List.map dX xs) t) {i : Nat} (hi : i < ts.length) : eY ((xs.length : Nat) : Int) (ts.getD i []) = 0 := by
  have := (tms_jr h hi).c0
  rwa [List.length_map] at this
theorem grs_ok {xs : List Rat} {ts : List (List kK)} (h : ∀ t ∈ ts, JRun (List.map dX xs) t) (hl : ts.length ≤ 64) : nD 1048576 (List.map (gF xs) ts) := by
  refine ⟨fun r hr => ?_, by rw [List.length_map]; omega⟩
  obtain ⟨t, ht, rfl⟩ := List.mem_map.1 hr
  exact grQ_ok (h t ht)
theorem rect_0 {m : List (List kD)} {r c : Nat} (h : dP m r c) : dP m m.length (m.getD 0 []).length := by
  have h1 := h.hr
  have h0 := (h.at (i := 0) h.r1).1
  rw [h0]
  exact ⟨rfl, h.hc, by have := h.r1; omega, by have := h.r64; omega, h.c1, h.c64⟩
theorem grs_at {xs : List Rat} {ts : List (List kK)} (h : ∀ t ∈ ts, JRun (List.map dX xs) t) {i : Nat} (hi : i < (List.map (gF xs) ts).length) : ((List.map (gF xs) ts).getD i []).length = xs.length ∧ bO ((List.map (gF xs) ts).getD i []) = true := by
  rw [List.length_map] at hi
  rw [List.getD_eq_getElem?_getD, List.getElem?_map, List.getElem?_eq_getElem hi]
  exact ⟨grQ_len (h _ (List.getElem_mem _)), grQ_v⟩
theorem one_of {α : Type} {P : α → Prop} {x : α} (h : P x) : ∀ u ∈ [x], P u := fun u hu => by rw [List.mem_singleton] at hu; subst hu; exact h
theorem sq2_nn (a b : Rat) : 0 ≤ a * a + b * b := Rat.add_nonneg (rat_sq a) (rat_sq b)
theorem mem_at {α : Type} {P : List α → Prop} {ts : List (List α)} (h : ∀ t ∈ ts, P t) {i : Nat} (hi : i < ts.length) : P (ts.getD i []) := by
  rw [List.getD_eq_getElem?_getD, List.getElem?_eq_getElem hi]; exact h _ (List.getElem_mem _)
end Go.Proofs.YtnajallgoaiahaaGreatDoor
