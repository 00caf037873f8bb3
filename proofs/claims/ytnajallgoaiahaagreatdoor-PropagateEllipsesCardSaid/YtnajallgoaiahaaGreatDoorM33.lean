/- Part 33 of a proof: rules, plain facts, and functions walked. -/
import Derived.Test.YtnajallgoaiahaaGreatDoorM31
import Derived.Test.YtnajallgoaiahaaGreatDoorM32
import Derived.Test.YtnajallgoaiahaaGreatDoorM21
import Derived.Test.YtnajallgoaiahaaGreatDoorM19
import Derived.Test.YtnajallgoaiahaaGreatDoorM25
import Derived.Test.YtnajallgoaiahaaGreatDoorM20
import Derived.Test.YtnajallgoaiahaaGreatDoorM11
namespace Go.Proofs.YtnajallgoaiahaaGreatDoor
open Go.Fid
set_option maxRecDepth 4000
set_option linter.unusedVariables false
set_option linter.unusedSimpArgs false
theorem cb43 : callB Tryz.prog 43 = true := by kernel_rfl
theorem cb101 : callB Tryz.prog 101 = true := by kernel_rfl
theorem cb102 : callB Tryz.prog 102 = true := by kernel_rfl
theorem z_whole5 (x : Int) (hxl : -9223372036854775808 ≤ x) (hxh : x ≤ 9223372036854775807) : jV Tryz.prog 102 [(.val (.int .i64 (x)))] (jK (jT ((x : Int) : Rat))) := by
 refine jJ Tryz.func102 rfl cb102 rfl ?_
 show qI _ _ _ _ ⟨[(0, (vi x))], []⟩
 refine jB <| kx [(2, (.ref 0 0))] [(0, some (bx (jK (jE.mk (jD.mk false []) (jD.mk false [])))))] (zN (qS 0 qX uA) <| zZ) ?_
 refine jB <| kx [] [(0, some (bx (jK (jT ((x : Int) : Rat)))))] (zM <| zE (jX (cK x (by omega) (by omega))) <| zT (qC jR) <| zZ) ?_
 refine jG ⟨_, (kU (cs := (bx (jK (jT ((x : Int) : Rat))))) (d := (jK (jT ((x : Int) : Rat)))) rfl rfl jR rfl rfl .nil), ?_⟩
 rfl
theorem e_zeros (r c : Nat) (hr : r ≤ 1000) (hc : c ≤ 1000) : mL Tryz.prog 101 [(.d (.val (.int .i64 ((r : Nat) : Int)))), (.d (.val (.int .i64 ((c : Nat) : Int))))] [] (.own 0 24 1 (List.replicate r (List.map jK (List.replicate c (jT ((0 : Int) : Rat))))).length) (mI 45 4 (List.replicate r (List.map jK (List.replicate c (jT ((0 : Int) : Rat)))))) := by
 refine fW Tryz.func101 rfl cb101 rfl ?_
 show qI _ _ _ _ ⟨[(0, (jW r)), (1, (jW c))], []⟩
 refine jB <| kx [] [] (zE (fH 24 1) <| zZ) ?_
 refine jB <| kx [(5, (.own 0 24 1 0))] [(0, some [])] (zN (oBo 0 vJ ze24 zo24) <| zM <| zZ) ?_
 refine jB <| jB <| kx [(6, (jW 0))] [] (zM <| zZ) ?_
 refine jI <| kN (α := Nat × List (List kD)) (fun (i, u) => ⟨[(0, (jW r)), (1, (jW c)), (5, (.own 0 24 1 u.length)), (6, (jW i))], mI 45 4 u⟩) (fun (i, u) => i ≤ r ∧ u = List.replicate i (List.map jK (List.replicate c (jT ((0 : Int) : Rat))))) (fun (i, u) => r - i) (0, []) wk ⟨Nat.zero_le _, rfl⟩ ?_
 rintro ⟨i, u⟩ ⟨hi, hu⟩
 have hul : u.length = i := by rw [hu, List.length_replicate]
 refine jB <| jB <| kx [(12, (vb (decide (((i : Nat) : Int) < ((r : Nat) : Int)))))] [] (zM <| zM <| zE xK <| zY) ?_
 refine jH rfl (fun h1 => ?_) (fun h1 => ?_)
 ·replace h1 := of_decide_eq_true h1
  refine jF <| jB <| jI <| jB <| kr [(0, (jW r)), (1, (jW c)), (5, (.own 0 24 1 u.length)), (6, (jW i)), (7, (.own 1 45 4 0))] ((1, some (xD jK [])) :: mI 45 4 u) (zH (oBo (ps := []) 1 uN qX uA) (h2 := tabA_frb) <| zM <| zI (yW (vW (by kernel_rfl)) (fun _ _ h => h))) ?_
  refine jB <| jB <| kx [(8, (jW 0))] [] (zM <| zY) ?_
  refine jI <| kN (α := Nat × List jE) (fun (j, v) => ⟨[(0, (jW r)), (1, (jW c)), (5, (.own 0 24 1 u.length)), (6, (jW i)), (7, (.own 1 45 4 v.length)), (8, (jW j))], (1, some (xD jK v)) :: mI 45 4 u⟩) (fun (j, v) => j ≤ c ∧ v = List.replicate j (jT ((0 : Int) : Rat))) (fun (j, v) => c - j) (0, []) (yW (vW (by kernel_rfl)) (fun _ _ h => h)) ⟨Nat.zero_le _, rfl⟩ ?_
  rintro ⟨j, v⟩ ⟨hj, hv⟩
  have hvl : v.length = j := by rw [hv, List.length_replicate]
  refine jB <| jB <| kx [(18, (vb (decide (((j : Nat) : Int) < ((c : Nat) : Int)))))] [] (zM <| zM <| zE xK <| zY) ?_
  refine jH rfl (fun h2 => ?_) (fun h2 => ?_)
  ·replace h2 := of_decide_eq_true h2
   refine jF <| jB <| jI <| kr [(0, (jW r)), (1, (jW c)), (5, (.own 0 24 1 u.length)), (6, (jW i)), (7, (.own 1 45 4 ((v ++ [(jT ((0 : Int) : Rat))]).length))), (8, (jW j))] ((1, some (xD jK (v ++ [(jT ((0 : Int) : Rat))]))) :: mI 45 4 u) (zM <| zE (jX (z_whole5 0 (by omega) (by omega))) <| zE (eI uN qX uA) <| zAS jK v [(jT ((0 : Int) : Rat))] rfl uN qX by45 (hB := tabA_clr) <| zM <| zI (yW (vW (by kernel_rfl)) bget_dup)) ?_
   refine kx [(8, (jW (j + 1)))] [] (zM <| zE (vU (j + 1)) <| zM <| zY) ?_
   exact ⟨(j + 1, v ++ [jT ((0 : Int) : Rat)]), yW (vW (by kernel_rfl)) (fun _ _ h => h), ⟨by omega, by rw [hv, List.replicate_succ']⟩, (by first | omega | (dsimp only; omega))⟩
  ·replace h2 := of_decide_eq_false h2
   obtain rfl : j = c := by omega
   refine kL <| pwp_fixS 7 rfl (fun ao cap => ?_)
   refine kr [(0, (jW r)), (1, (jW j)), (5, (.own 0 24 1 ((u ++ [List.map jK v]).length))), (6, (jW i))] (mI 45 4 (u ++ [List.map jK v])) (zM <| zE (oMvx (k := 1) (T := 45) (s := 4) (n := v.length) (u := .slice ao v.length cap)) <| zE (eI vJ ze24 zo24) <| zX (tab_app (rows := u) (d := .val (.slice ao v.length cap)) (by exact rfl) (by kernel_rfl) vJ ze24 (by kernel_rfl) by24 (by exact rfl) rfl (by exact rfl) tabA_clr0 (by exact rfl) rfl (by unfold maxLen; omega) (by omega) (show u.length + 1 = (u ++ [List.map jK v]).length by simp)) (by kernel_rfl) <| zM <| zI (tab_push 7 (List.length_map _) (by kernel_rfl) rfl rfl tabA_rows (by kernel_rfl) (by kernel_rfl))) ?_
   refine kx [(6, (jW (i + 1)))] [] (zM <| zE (vU (i + 1)) <| zM <| zY) ?_
   exact ⟨(i + 1, u ++ [List.map jK v]), yW (vW (by kernel_rfl)) (fun _ _ h => h), ⟨by omega, by rw [hu, hv, List.replicate_succ']⟩, (by first | omega | (dsimp only; omega))⟩
 ·replace h1 := of_decide_eq_false h1
  obtain rfl : i = r := by omega
  refine kL <| jB <| kx [(4, (.own 0 24 1 u.length))] [] (zM <| zM <| zY) ?_
  refine jG ⟨fun k c h => ?_, refs_ok (by kernel_rfl), .inr (.inl ⟨4, rfl, ?_⟩)⟩
  ·rw [← hu] at h; exact h
  ·rw [← hu]; rfl
theorem e_trans (m : List (List jE)) (hm : vR 1048576 m) (hr : mF m m.length (m.getD 0 []).length) : jV Tryz.prog 43 [(.sl 24 1 (List.map jL m))] (.sl 24 1 (List.map jL (trM m m.length (m.getD 0 []).length))) := by
 have hmb := hr.r64
 have hm1 := hr.r1
 have hcb := hr.c64
 have e0 : List.replicate (m.getD 0 []).length (List.map jK (List.replicate m.length (jT ((0 : Int) : Rat)))) = tdD (trT m m.length (m.getD 0 []).length 0 0) := by rw [trT_0]; simp
 have hz := e_zeros (m.getD 0 []).length m.length (by omega) (by omega)
 rw [e0] at hz
 have hl : ∀ i j, (tdD (trT m m.length (m.getD 0 []).length i j)).length = (m.getD 0 []).length := fun i j => by rw [List.length_map, aI]
 refine jJ Tryz.func43 rfl cb43 rfl ?_
 show qI _ _ _ _ ⟨[(0, (vl 24 1 jL m))], []⟩
 refine jB <| kx [] [] (zE (fH 24 1) <| zZ) ?_
 refine jB <| kr [(0, (vl 24 1 jL m)), (3, (.own 0 24 1 (m.getD 0 []).length))] (mI 45 4 (tdD (trT m m.length (m.getD 0 []).length 0 0))) (zM <| zE (xM vJ 0 ([] : List (jE)) (L := m)) <| zE (xZ gP) <| zE (vG uN (L := (m.getD 0 []))) <| zM <| zE (vG vJ (L := m)) <| zTab (ds := [.val (.int .i64 ((m.getD 0 []).length : Nat)), .val (.int .i64 (m.length : Nat))]) hz (hl 0 0) <| zM <| zI (yW (vW (by kernel_rfl)) (fun _ _ h => h))) ?_
 refine jB <| jB <| kx [(4, (jW 0))] [] (zM <| zY) ?_
 refine jI <| kN (α := Nat) (fun i => ⟨[(0, (vl 24 1 jL m)), (3, (.own 0 24 1 (m.getD 0 []).length)), (4, (jW i))], mI 45 4 (tdD (trT m m.length (m.getD 0 []).length i 0))⟩) (fun i => i ≤ m.length) (fun i => m.length - i) 0 (yW (vW (by kernel_rfl)) (fun _ _ h => h)) (Nat.zero_le _) ?_
 rintro i hi
 refine jB <| jB <| kx [(16, (vb (decide (((i : Nat) : Int) < ((m.length : Nat) : Int)))))] [] (zM <| zM <| zE (vG vJ (L := m)) <| zE xK <| zY) ?_
 refine jH rfl (fun h1 => ?_) (fun h1 => ?_)
 ·replace h1 := of_decide_eq_true h1
  have hir : i < m.length := by omega
  have hri := (hr.at hir).1
  refine jF <| jB <| jI <| jB <| kx [(5, (jW 0))] [] (zM <| zY) ?_
  refine jI <| kN (α := Nat) (fun j => ⟨[(0, (vl 24 1 jL m)), (3, (.own 0 24 1 (m.getD 0 []).length)), (4, (jW i)), (5, (jW j))], mI 45 4 (tdD (trT m m.length (m.getD 0 []).length i j))⟩) (fun j => j ≤ (m.getD 0 []).length) (fun j => (m.getD 0 []).length - j) 0 (yW (vW (by kernel_rfl)) (fun _ _ h => h)) (Nat.zero_le _) ?_
  rintro j hj
  refine jB <| jB <| kx [(25, (vb (decide (((j : Nat) : Int) < (((m.getD i []).length : Nat) : Int)))))] [] (zM <| zM <| zM <| zE (xM vJ i ([] : List (jE)) (L := m)) <| zE (xZ gP) <| zE (vG uN (L := (m.getD i []))) <| zE xK <| zY) ?_
  refine jH rfl (fun h2 => ?_) (fun h2 => ?_)
  ·replace h2 := of_decide_eq_true h2
   have hjc : j < (m.getD 0 []).length := by omega
   have hrl : ((tdD (trT m m.length (m.getD 0 []).length i j)).getD j []).length = m.length := by rw [tdD_at, List.length_map, trT_row m hjc]
   have hrl2 := trT_row m (r := m.length) (i := i) (j := j) hjc
   have hlj := hl i j
   have hjt : j < (tdD (trT m m.length (m.getD 0 []).length i j)).length := by omega
   refine jF <| jB <| jI <| kdr [(0, (vl 24 1 jL m)), (3, (.own 0 24 1 (m.getD 0 []).length)), (4, (jW i)), (5, (jW j))] (mI 45 4 (tdD (trT m m.length (m.getD 0 []).length i (j + 1)))) mo (wM <| wM <| wE (eF vJ j) <| wR (tab_ld gP hjt hrl) <| wM <| wM <| wM <| wE (xM vJ i ([] : List (jE)) (L := m)) <| wE (xZ gP) <| wM <| wE (xM uN j (jE.mk (jD.mk false []) (jD.mk false [])) (L := (m.getD i []))) <| wE (dK jR) <| wE (oXO uN i) <| wT (oSA (F := jK) (L := (trT m m.length (m.getD 0 []).length i j).getD j []) jR i ((m.getD i []).getD j (jE.mk (jD.mk false []) (jD.mk false []))) (hb := by exact tabA_row (r := ((trT m m.length (m.getD 0 []).length i j).getD j []).map jK) (tdD_get (by rw [aI]; exact hjc)))) <| wI (by
    rw [← trT_set m hir hjc, ← tdD_set]
    exact tab_set (by rw [hrl, List.length_map, List.length_set, hrl2]) hjt (by kernel_rfl))) ?_
   refine kx [(5, (jW (j + 1)))] [] (zM <| zE (vU (j + 1)) <| zM <| zY) ?_
   exact ⟨j + 1, yW (vW (by kernel_rfl)) (fun _ _ h => h), by omega, by omega⟩
  ·replace h2 := of_decide_eq_false h2
   obtain rfl : j = (m.getD 0 []).length := by omega
   refine kL <| kx [(4, (jW (i + 1)))] [] (zM <| zE (vU (i + 1)) <| zM <| zY) ?_
   refine ⟨i + 1, ?_, by omega, by omega⟩
   rw [← trT_next]
   exact yW (vW (by kernel_rfl)) (fun _ _ h => h)
 ·replace h1 := of_decide_eq_false h1
  obtain rfl : i = m.length := by omega
  refine kL <| jB <| kx [(2, (.own 0 24 1 (m.getD 0 []).length))] [] (zM <| zM <| zY) ?_
  have hp := tab_pub (S := up [(2, (.own 0 24 1 (m.getD 0 []).length))] (up [(16, (vb (decide (((m.length : Nat) : Int) < ((m.length : Nat) : Int)))))] [(0, (vl 24 1 jL m)), (3, (.own 0 24 1 (m.getD 0 []).length)), (4, (jW m.length))])) (E := 45) (s := 4) (tdD (trT m m.length (m.getD 0 []).length m.length 0)) tdD_cells
  rw [List.map_map] at hp
  refine qE hp ?_
  refine qE (vZ (t := 2) (k := 0) (es := List.map jL (trT m m.length (m.getD 0 []).length m.length 0)) rfl rfl (uM _ _ (fun _ => rfl)) (vC _ _ (aI _ _ _ _ _)) (vM _ _ (fun _ => rfl) (aI _ _ _ _ _))) ?_
  refine jG ⟨_, (.tmp (d := (.sl 24 1 (List.map jL (trT m m.length (m.getD 0 []).length m.length 0)))) rfl .nil), ?_⟩
  rw [trT_end]; rfl
end Go.Proofs.YtnajallgoaiahaaGreatDoor
namespace Go.Proofs.YtnajallgoaiahaaGreatDoor
open Go.Fid
set_option maxRecDepth 4000
set_option linter.unusedVariables false
set_option linter.unusedSimpArgs false
theorem cb16 : callB Tryz.prog 16 = true := by kernel_rfl
theorem cb19 : callB Tryz.prog 19 = true := by kernel_rfl
theorem cb21 : callB Tryz.prog 21 = true := by kernel_rfl
theorem cb77 : callB Tryz.prog 77 = true := by kernel_rfl
theorem cb134 : callB Tryz.prog 134 = true := by kernel_rfl
theorem s_list (l : List jE) (hl : zG 1048576 l) (k : List jE) (hk : zG 1048576 k) : jV Tryz.prog 16 [(.sl 45 4 (List.map jK l)), (.sl 45 4 (List.map jK k))] (.val (.bool ((eK l k)))) := by
 have hlb := hl.2
 have hkb := hk.2
 let y1 := (jE.mk (jD.mk false []) (jD.mk false []))
 refine jJ Tryz.func16 rfl cb16 rfl ?_
 show qI _ _ _ _ ⟨[(0, (vl 45 4 jK l)), (1, (vl 45 4 jK k))], []⟩
 refine jB <| kx [] [] (zM <| zZ) ?_
 refine jB <| jB <| kx [(10, (vb (((l.length : Nat) : Int) != ((k.length : Nat) : Int))))] [] (zM <| zE (vG uN) <| zM <| zE (vG uN) <| zE cS <| zZ) ?_
 refine jH rfl (fun h1 => ?_) (fun h1 => ?_)
 ·replace h1 := bne_iff_ne.1 h1
  refine jB <| kx [(4, (vb false))] [] (zM <| zZ) ?_
  refine jG ⟨_, (.tmp (d := (.val (.bool (false)))) rfl .nil), ?_⟩
  rw [sameL_len h1]; rfl
 ·replace h1 := bne_eq_false_iff_eq.1 h1
  have hlk := h1
  refine jF <| jB <| jB <| kx [(5, (jW 0))] [] (zM <| zZ) ?_
  refine jI <| kN (α := Nat) (fun i => ⟨[(0, (vl 45 4 jK l)), (1, (vl 45 4 jK k)), (5, (jW i))], []⟩) (fun i => i ≤ l.length ∧ ∀ a, a < i → gM (l.getD a y1) (k.getD a y1) = true) (fun i => l.length - i) 0 wk ⟨Nat.zero_le _, fun a h => by omega⟩ ?_
  rintro i ⟨hi, he⟩
  refine jB <| jB <| kx [(14, (vb (decide (((i : Nat) : Int) < ((l.length : Nat) : Int)))))] [] (zM <| zM <| zE (vG uN) <| zE xK <| zZ) ?_
  refine jH rfl (fun h2 => ?_) (fun h2 => ?_)
  ·replace h2 := of_decide_eq_true h2
   refine jF <| jB <| jI <| jB <| kd [(26, (vb (!(gM (l.getD i y1) (k.getD i y1)))))] [] mo (wM <| wM <| wE (xM uN i y1) <| wE (dK jR) <| wM <| wM <| wE (xM uN i y1) <| wE (dK jR) <| wE (jX (g_same (l.getD i y1) (k.getD i y1) (jN (l.getD i y1)) (jN (k.getD i y1)) (jP (qN hl.1 (show i < l.length by omega)) (by decide)) (jP (qN hk.1 (show i < k.length by omega)) (by decide)))) <| wE mM <| wZ) ?_
   refine jH rfl (fun h3 => ?_) (fun h3 => ?_)
   ·refine jB <| kx [(4, (vb false))] [] (zM <| zZ) ?_
    refine jG ⟨_, (.tmp (d := (.val (.bool (false)))) rfl .nil), ?_⟩
    rw [sameL_no (i := i) (by omega) (by simpa using h3)]; rfl
   ·refine jF <| kx [(5, (jW (i + 1)))] [] (zM <| zE (vU (i + 1)) <| zM <| zZ) ?_
    exact ⟨i + 1, wk, ⟨by omega, up_all he (by simpa using h3)⟩, (by first | omega | (dsimp only; omega))⟩
  ·replace h2 := of_decide_eq_false h2
   have hie : i = l.length := by omega
   subst hie
   refine kL <| jB <| kx [(4, (vb true))] [] (zM <| zZ) ?_
   refine jG ⟨_, (.tmp (d := (.val (.bool (true)))) rfl .nil), ?_⟩
   rw [sameL_yes hlk he]; rfl
theorem s_mat (m : List (List jE)) (hm : vR 1048576 m) (q : List (List jE)) (hq : vR 1048576 q) : jV Tryz.prog 134 [(.sl 24 1 (List.map jL m)), (.sl 24 1 (List.map jL q))] (.val (.bool ((sameM m q)))) := by
 have hmb := hm.2
 have hqb := hq.2
 refine jJ Tryz.func134 rfl cb134 rfl ?_
 show qI _ _ _ _ ⟨[(0, (vl 24 1 jL m)), (1, (vl 24 1 jL q))], []⟩
 refine jB <| kx [] [] (zM <| zZ) ?_
 refine jB <| jB <| kx [(10, (vb (((m.length : Nat) : Int) != ((q.length : Nat) : Int))))] [] (zM <| zE (vG vJ) <| zM <| zE (vG vJ) <| zE cS <| zZ) ?_
 refine jH rfl (fun h1 => ?_) (fun h1 => ?_)
 ·replace h1 := bne_iff_ne.1 h1
  refine jB <| kx [(4, (vb false))] [] (zM <| zZ) ?_
  refine jG ⟨_, (.tmp (d := (.val (.bool (false)))) rfl .nil), ?_⟩
  rw [sameM_len h1]; rfl
 ·replace h1 := bne_eq_false_iff_eq.1 h1
  have hlk := h1
  refine jF <| jB <| jB <| kx [(5, (jW 0))] [] (zM <| zZ) ?_
  refine jI <| kN (α := Nat) (fun i => ⟨[(0, (vl 24 1 jL m)), (1, (vl 24 1 jL q)), (5, (jW i))], []⟩) (fun i => i ≤ m.length ∧ ∀ a, a < i → eK (m.getD a []) (q.getD a []) = true) (fun i => m.length - i) 0 wk ⟨Nat.zero_le _, fun a h => by omega⟩ ?_
  rintro i ⟨hi, he⟩
  refine jB <| jB <| kx [(14, (vb (decide (((i : Nat) : Int) < ((m.length : Nat) : Int)))))] [] (zM <| zM <| zE (vG vJ) <| zE xK <| zZ) ?_
  refine jH rfl (fun h2 => ?_) (fun h2 => ?_)
  ·replace h2 := of_decide_eq_true h2
   refine jF <| jB <| jI <| jB <| kd [(26, (vb (!(eK (m.getD i []) (q.getD i [])))))] [] mo (wM <| wM <| wE (xM vJ i ([] : List (jE))) <| wE (xZ gP) <| wM <| wM <| wE (xM vJ i ([] : List (jE))) <| wE (xZ gP) <| wE (jX (s_list (m.getD i []) (kO (d := []) hm (show i < m.length by omega)) (q.getD i []) (kO (d := []) hq (show i < q.length by omega)))) <| wE mM <| wZ) ?_
   refine jH (b := !(eK (m.getD i []) (q.getD i []))) rfl (fun h3 => ?_) (fun h3 => ?_)
   ·refine jB <| kx [(4, (vb false))] [] (zM <| zZ) ?_
    refine jG ⟨_, (.tmp (d := (.val (.bool (false)))) rfl .nil), ?_⟩
    rw [sameM_no (i := i) (by omega) (by simpa using h3)]; rfl
   ·refine jF <| kx [(5, (jW (i + 1)))] [] (zM <| zE (vU (i + 1)) <| zM <| zZ) ?_
    exact ⟨i + 1, wk, ⟨by omega, up_all he (by simpa using h3)⟩, (by first | omega | (dsimp only; omega))⟩
  ·replace h2 := of_decide_eq_false h2
   have hie : i = m.length := by omega
   subst hie
   refine kL <| jB <| kx [(4, (vb true))] [] (zM <| zZ) ?_
   refine jG ⟨_, (.tmp (d := (.val (.bool (true)))) rfl .nil), ?_⟩
   rw [sameM_yes hlk he]; rfl
theorem s_sym (m : List (List jE)) (hm : vR 1048576 m) (hr : mF m m.length (m.getD 0 []).length) (hsq : m.length = (m.getD 0 []).length) : jV Tryz.prog 77 [(.sl 24 1 (List.map jL m))] (.val (.bool ((symB m)))) := by
 refine jJ Tryz.func77 rfl cb77 rfl ?_
 show qI _ _ _ _ ⟨[(0, (vl 24 1 jL m))], []⟩
 refine jB <| kx [] [] (zM <| zZ) ?_
 refine jB <| kx [(2, (vb (sameM m (trM m m.length (m.getD 0 []).length))))] [] (zM <| zM <| zE (jX (e_trans m hm hr)) <| zE (jX (s_mat m hm (trM m m.length (m.getD 0 []).length) (trM_ok hm hr))) <| zM <| zZ) ?_
 refine jG ⟨_, (.tmp (d := (.val (.bool ((sameM m (trM m m.length (m.getD 0 []).length)))))) rfl .nil), ?_⟩
 have hr2 := hr
 rw [← hsq] at hr2
 rw [← hsq, sym_tr hr2]; rfl
theorem s_fits (m : List (List jE)) (hm : vR 1048576 m) (n : Nat) (hr : mF m m.length (m.getD 0 []).length) : jV Tryz.prog 21 [(.sl 24 1 (List.map jL m)), (.val (.int .i64 (((n : Nat) : Int))))] (.val (.int .i64 ((((gJ m n) : Nat) : Int)))) := by
 have hmb := hr.r64
 have hm1 := hr.r1
 have hm0 := hr.c64
 refine jJ Tryz.func21 rfl cb21 rfl ?_
 show qI _ _ _ _ ⟨[(0, (vl 24 1 jL m)), (1, (jW n))], []⟩
 refine jB <| kx [] [] (zM <| zZ) ?_
 refine jB <| jB <| kx [(16, (vb ((((m.length : Nat) : Int) != ((n : Nat) : Int)) || ((((m.getD 0 []).length : Nat) : Int) != ((n : Nat) : Int)))))] [] ?_ ?_
 ·refine zM <| zE (vG vJ) <| zM <| zE cS <| zE (oV (vb (((m.length : Nat) : Int) != ((n : Nat) : Int))) (kY (by kernel_rfl))) <| ?_
  rcases hb1 : (((m.length : Nat) : Int) != ((n : Nat) : Int)) with _ | _
  ·replace hb1 := bne_eq_false_iff_eq.1 hb1
   exact zM <| zE (xM vJ 0 ([] : List (jE))) <| zE (xZ gP) <| zE (vG uN (L := (m.getD 0 []))) <| zM <| zE cS <| zE cU <| zZ
  ·replace hb1 := bne_iff_ne.1 hb1
   exact zK <| zK <| zK <| zK <| zK <| zK <| zE vY <| zZ
 refine jH rfl (fun h2 => ?_) (fun h2 => ?_)
 ·refine jB <| kx [(4, (jW 4))] [] (zM <| zZ) ?_
  refine jG ⟨_, (.tmp (d := (.val (.int .i64 (4)))) rfl .nil), ?_⟩
  rw [fit_1 h2]; rfl
 ·have hs := fit_0 h2
  have hsq : m.length = (m.getD 0 []).length := by omega
  refine jF <| jB <| jB <| kx [(19, (vb (!(symB m))))] [] (zM <| zE (jX (s_sym m hm hr (by omega))) <| zE mM <| zZ) ?_
  refine jH (b := !(symB m)) rfl (fun h3 => ?_) (fun h3 => ?_)
  ·refine jB <| kx [(4, (jW 11))] [] (zM <| zZ) ?_
   refine jG ⟨_, (.tmp (d := (.val (.int .i64 (11)))) rfl .nil), ?_⟩
   rw [fit_11 hs (by simpa using h3)]; rfl
  ·refine jF <| jB <| kx [(4, (jW 0))] [] (zM <| zZ) ?_
   refine jG ⟨_, (.tmp (d := (.val (.int .i64 (0)))) rfl .nil), ?_⟩
   rw [fit_ok hs (by simpa using h3)]; rfl
theorem s_chk (m : List (List jE)) (hm : vR 1048576 m) : jV Tryz.prog 19 [(.sl 24 1 (List.map jL m))] (.val (.int .i64 ((((nE m) : Nat) : Int)))) := by
 have hmb := hm.2
 refine jJ Tryz.func19 rfl cb19 rfl ?_
 show qI _ _ _ _ ⟨[(0, (vl 24 1 jL m))], []⟩
 refine jB <| kx [] [] (zM <| zZ) ?_
 refine jB <| jB <| kx [(25, (vb (((decide (((m.length : Nat) : Int) < 1) || decide (64 < ((m.length : Nat) : Int))) || decide ((((m.getD 0 []).length : Nat) : Int) < 1)) || decide (64 < (((m.getD 0 []).length : Nat) : Int)))))] [] ?_ ?_
 ·refine zM <| zE (vG vJ) <| zE xK <| zE (oV (vb (decide (((m.length : Nat) : Int) < 1))) (kY (by kernel_rfl))) <| ?_
  rcases hb1 : (decide (((m.length : Nat) : Int) < 1)) with _ | _
  ·replace hb1 := of_decide_eq_false hb1
   refine zM <| zE (vG vJ) <| zE hC <| zE cU <| zE (oV (vb (false || decide (64 < ((m.length : Nat) : Int)))) (kY (by kernel_rfl))) <| ?_
   rcases hb2 : (false || decide (64 < ((m.length : Nat) : Int))) with _ | _
   ·replace hb2 := of_decide_eq_false (p := (64 < ((m.length : Nat) : Int))) hb2
    refine zM <| zE (xM vJ 0 ([] : List (jE))) <| zE (xZ gP) <| zE (vG uN (L := (m.getD 0 []))) <| zE xK <| zE cU <| zE (oV (vb (false || decide ((((m.getD 0 []).length : Nat) : Int) < 1))) (kY (by kernel_rfl))) <| ?_
    rcases hb3 : (false || decide ((((m.getD 0 []).length : Nat) : Int) < 1)) with _ | _
    ·replace hb3 := of_decide_eq_false (p := ((((m.getD 0 []).length : Nat) : Int) < 1)) hb3
     exact zM <| zE (xM vJ 0 ([] : List (jE))) <| zE (xZ gP) <| zE (vG uN (L := (m.getD 0 []))) <| zE hC <| zE cU <| zZ
    ·replace hb3 := of_decide_eq_true (p := ((((m.getD 0 []).length : Nat) : Int) < 1)) hb3
     exact zK <| zK <| zK <| zK <| zK <| zE vY <| zZ
   ·replace hb2 := of_decide_eq_true (p := (64 < ((m.length : Nat) : Int))) hb2
    exact zK <| zK <| zK <| zK <| zK <| zE vY <| zM <| zK <| zK <| zK <| zK <| zK <| zE vY <| zZ
  ·replace hb1 := of_decide_eq_true hb1
   exact zK <| zK <| zK <| zE vY <| zM <| zK <| zK <| zK <| zK <| zK <| zE vY <| zM <| zK <| zK <| zK <| zK <| zK <| zE vY <| zZ
 refine jH rfl (fun h4 => ?_) (fun h4 => ?_)
 ·refine jB <| kx [(2, (jW 1))] [] (zM <| zZ) ?_
  refine jG ⟨_, (.tmp (d := (.val (.int .i64 (1)))) rfl .nil), ?_⟩
  rw [mchk_1 h4]; rfl
 ·have h0 := shp_0 h4
  have hsh := h4
  refine jF <| jB <| jB <| kx [(3, (jW 0))] [] (zM <| zZ) ?_
  refine jI <| kN (α := Nat) (fun i => ⟨[(0, (vl 24 1 jL m)), (3, (jW i))], []⟩) (fun i => i ≤ m.length ∧ ∀ a, a < i → xS m (m.getD a []) = false) (fun i => m.length - i) 0 wk ⟨Nat.zero_le _, fun a h => by omega⟩ ?_
  rintro i ⟨hi, he⟩
  refine jB <| jB <| kx [(29, (vb (decide (((i : Nat) : Int) < ((m.length : Nat) : Int)))))] [] (zM <| zM <| zE (vG vJ) <| zE xK <| zZ) ?_
  refine jH rfl (fun h5 => ?_) (fun h5 => ?_)
  ·replace h5 := of_decide_eq_true h5
   refine jF <| jB <| jI <| jB <| kd [(49, (vb (((((m.getD i []).length : Nat) : Int) != (((m.getD 0 []).length : Nat) : Int)) || !(eT (m.getD i [])))))] [] mo ?_ ?_
   ·refine wM <| wM <| wE (xM vJ i ([] : List (jE))) <| wE (xZ gP) <| wE (vG uN (L := (m.getD i []))) <| wM <| wE (xM vJ 0 ([] : List (jE))) <| wE (xZ gP) <| wE (vG uN (L := (m.getD 0 []))) <| wE cS <| wE (oV (vb ((((m.getD i []).length : Nat) : Int) != (((m.getD 0 []).length : Nat) : Int))) (kY (by kernel_rfl))) <| ?_
    rcases hb6 : ((((m.getD i []).length : Nat) : Int) != (((m.getD 0 []).length : Nat) : Int)) with _ | _
    ·replace hb6 := bne_eq_false_iff_eq.1 hb6
     exact wM <| wM <| wE (xM vJ i ([] : List (jE))) <| wE (xZ gP) <| wE (jX (m_vlist (m.getD i []) (kO (d := []) hm (show i < m.length by omega)))) <| wE mM <| wE cU <| wZ
    ·replace hb6 := bne_iff_ne.1 hb6
     exact wK <| wK <| wK <| wK <| wK <| wK <| wE vY <| wZ
   refine jH rfl (fun h7 => ?_) (fun h7 => ?_)
   ·refine jB <| kx [(2, (jW 1))] [] (zM <| zZ) ?_
    refine jG ⟨_, (.tmp (d := (.val (.int .i64 (1)))) rfl .nil), ?_⟩
    rw [mchk_2 (bad_any (i := i) (by omega) h7)]; rfl
   ·refine jF <| kx [(3, (jW (i + 1)))] [] (zM <| zE (vU (i + 1)) <| zM <| zZ) ?_
    exact ⟨i + 1, wk, ⟨by omega, up_bad he h7⟩, (by first | omega | (dsimp only; omega))⟩
  ·replace h5 := of_decide_eq_false h5
   have hie : i = m.length := by omega
   subst hie
   refine kL <| jB <| kx [(2, (jW 0))] [] (zM <| zZ) ?_
   refine jG ⟨_, (.tmp (d := (.val (.int .i64 (0)))) rfl .nil), ?_⟩
   rw [mchk_3 hsh (bad_none he)]; rfl
end Go.Proofs.YtnajallgoaiahaaGreatDoor
namespace Go.Proofs.YtnajallgoaiahaaGreatDoor
open Go.Fid
set_option maxRecDepth 4000
set_option linter.unusedVariables false
set_option linter.unusedSimpArgs false
theorem cb17 : callB Tryz.prog 17 = true := by kernel_rfl
theorem cb46 : callB Tryz.prog 46 = true := by kernel_rfl
theorem cb70 : callB Tryz.prog 70 = true := by kernel_rfl
theorem cb104 : callB Tryz.prog 104 = true := by kernel_rfl
theorem u_brief (x : jE) (p : Rat) (hx : hH x p 140737488355328) : jV Tryz.prog 104 [(jK x)] (.val (.bool ((brX x)))) := by
 refine jJ Tryz.func104 rfl cb104 rfl ?_
 show qI _ _ _ _ ⟨[(0, (.d (jK x)))], []⟩
 refine jB <| kx [(1, (.ref 0 0))] [(0, some (bx (jK x)))] (zN (vL 0) <| zM <| zZ) ?_
 refine jB <| kd [(3, (vl 140 1 jC x.num.gs)), (4, (vl 140 1 jC x.den.gs))] [] mo (wE (qH xY) <| wE (qH uR) <| wR (qP xG) <| wE (qH vV) <| wE (qH uR) <| wR (qP xG) <| wM <| wM <| wZ) ?_
 refine jB <| jB <| kx [(18, (vb (decide (1 < ((x.num.gs.length : Nat) : Int)) || decide (1 < ((x.den.gs.length : Nat) : Int)))))] [] ?_ ?_
 ·refine zM <| zE (vG kJ) <| zE hC <| zE (oV (vb (decide (1 < ((x.num.gs.length : Nat) : Int)))) (kY (by kernel_rfl))) <| ?_
  rcases hb1 : (decide (1 < ((x.num.gs.length : Nat) : Int))) with _ | _
  ·replace hb1 := of_decide_eq_false hb1
   exact zM <| zE (vG kJ) <| zE hC <| zE cU <| zZ
  ·replace hb1 := of_decide_eq_true hb1
   exact zK <| zK <| zK <| zE vY <| zZ
 refine jH rfl (fun h2 => ?_) (fun h2 => ?_)
 ·refine jB <| kx [(2, (vb false))] [] (zM <| zZ) ?_
  refine jG ⟨_, (.tmp (d := (.val (.bool (false)))) rfl .nil), ?_⟩
  unfold brX; rw [if_pos h2]; rfl
 ·refine jF <| jB <| kx [(2, (vb (((((x.num.gs.length : Nat) : Int) == 0) || decide ((((x.num.gs.getD 0 0) : Nat) : Int) < 100000)) && ((((x.den.gs.length : Nat) : Int) == 0) || decide ((((x.den.gs.getD 0 0) : Nat) : Int) ≤ 100)))))] [] ?_ ?_
  ·refine zM <| zE (vG kJ) <| zE nF <| zE (oV (vb (((x.num.gs.length : Nat) : Int) == 0)) (kY (by kernel_rfl))) <| ?_
   rcases hb3 : (((x.num.gs.length : Nat) : Int) == 0) with _ | _
   ·replace hb3 := ne_of_beq_false hb3
    refine zM <| zE (xM kJ 0 (0 : Nat)) <| zE (xZ qK) <| zE xK <| zE cU <| zE (oV (vb (false || decide ((((x.num.gs.getD 0 0) : Nat) : Int) < 100000))) (kY (by kernel_rfl))) <| ?_
    rcases hb4 : (false || decide ((((x.num.gs.getD 0 0) : Nat) : Int) < 100000)) with _ | _
    ·exact zK <| zK <| zK <| zK <| zK <| zK <| zK <| zK <| zK <| zE yI <| zM <| zZ
    ·refine zM <| zE (vG kJ) <| zE nF <| zE (oV (vb (((x.den.gs.length : Nat) : Int) == 0)) (kY (by kernel_rfl))) <| ?_
     rcases hb5 : (((x.den.gs.length : Nat) : Int) == 0) with _ | _
     ·replace hb5 := ne_of_beq_false hb5
      exact zM <| zE (xM kJ 0 (0 : Nat)) <| zE (xZ qK) <| zE oLe <| zE cU <| zE eV <| zM <| zZ
     ·replace hb5 := eq_of_beq hb5
      exact zK <| zK <| zK <| zK <| zE vY <| zE vY <| zM <| zZ
   ·replace hb3 := eq_of_beq hb3
    refine zK <| zK <| zK <| zK <| zE vY <| zM <| zM <| zE (vG kJ) <| zE nF <| zE (oV (vb (((x.den.gs.length : Nat) : Int) == 0)) (kY (by kernel_rfl))) <| ?_
    rcases hb6 : (((x.den.gs.length : Nat) : Int) == 0) with _ | _
    ·replace hb6 := ne_of_beq_false hb6
     exact zM <| zE (xM kJ 0 (0 : Nat)) <| zE (xZ qK) <| zE oLe <| zE cU <| zE eV <| zM <| zZ
    ·replace hb6 := eq_of_beq hb6
     exact zK <| zK <| zK <| zK <| zE vY <| zE vY <| zM <| zZ
  refine jG ⟨_, (.tmp (d := (.val (.bool ((((((x.num.gs.length : Nat) : Int) == 0) || decide ((((x.num.gs.getD 0 0) : Nat) : Int) < 100000)) && ((((x.den.gs.length : Nat) : Int) == 0) || decide ((((x.den.gs.getD 0 0) : Nat) : Int) ≤ 100))))))) rfl .nil), ?_⟩
  unfold brX; rw [if_neg (by rw [h2]; decide)]; rfl
theorem u_short (l : List jE) (hl : zG 140737488355328 l) (c : Nat) (hc : c ≤ 1000) (n : Nat) (hn : n ≤ 1000) : jV Tryz.prog 46 [(.sl 45 4 (List.map jK l)), (.val (.int .i64 (((c : Nat) : Int)))), (.val (.int .i64 (((n : Nat) : Int))))] (.val (.bool ((shR c n l)))) := by
 have hb := hl.2
 let y1 := (jE.mk (jD.mk false []) (jD.mk false []))
 refine jJ Tryz.func46 rfl cb46 rfl ?_
 show qI _ _ _ _ ⟨[(0, (vl 45 4 jK l)), (1, (jW c)), (2, (jW n))], []⟩
 refine jB <| kx [] [] (zM <| zZ) ?_
 refine jB <| jB <| kx [(11, (vb (decide (((c : Nat) : Int) < ((l.length : Nat) : Int)))))] [] (zM <| zE (vG uN) <| zM <| zE hC <| zZ) ?_
 refine jH rfl (fun h1 => ?_) (fun h1 => ?_)
 ·replace h1 := of_decide_eq_true h1
  refine jB <| kx [(6, (vb false))] [] (zM <| zZ) ?_
  refine jG ⟨_, (.tmp (d := (.val (.bool (false)))) rfl .nil), ?_⟩
  rw [shR_long (by omega)]; rfl
 ·replace h1 := of_decide_eq_false h1
  have hlk := h1
  refine jF <| jB <| jB <| kx [(7, (jW 0))] [] (zM <| zZ) ?_
  refine jI <| kN (α := Nat) (fun i => ⟨[(0, (vl 45 4 jK l)), (2, (jW n)), (7, (jW i))], []⟩) (fun i => i ≤ l.length ∧ (l.take i).all (shX n) = true) (fun i => l.length - i) 0 wk ⟨Nat.zero_le _, by simp⟩ ?_
  rintro i ⟨hi, hal⟩
  refine jB <| jB <| kx [(15, (vb (decide (((i : Nat) : Int) < ((l.length : Nat) : Int)))))] [] (zM <| zM <| zE (vG uN) <| zE xK <| zZ) ?_
  refine jH rfl (fun h2 => ?_) (fun h2 => ?_)
  ·replace h2 := of_decide_eq_true h2
   refine jF <| jB <| jI <| jB <| kx [(36, (vb (decide (((n : Nat) : Int) < (((digR (l.getD i y1)) : Nat) : Int)) || (decide (((n : Nat) : Int) ≤ 6) && !(brX (l.getD i y1))))))] [] ?_ ?_
   ·refine zM <| zM <| zE (xM uN i y1) <| zE (dK jR) <| zE (jX (g_digits (l.getD i y1) (jN (l.getD i y1)) (qN hl.1 (show i < l.length by omega)))) <| zM <| zE hC <| zE (oV (vb (decide (((n : Nat) : Int) < (((digR (l.getD i y1)) : Nat) : Int)))) (kY (by kernel_rfl))) <| ?_
    rcases hb3 : (decide (((n : Nat) : Int) < (((digR (l.getD i (jE.mk (jD.mk false []) (jD.mk false [])))) : Nat) : Int))) with _ | _
    ·replace hb3 := of_decide_eq_false hb3
     refine zM <| zE oLe <| zE (oV (vb (decide (((n : Nat) : Int) ≤ 6))) (kY (by kernel_rfl))) <| ?_
     rcases hb4 : (decide (((n : Nat) : Int) ≤ 6)) with _ | _
     ·replace hb4 := of_decide_eq_false hb4
      exact zK <| zK <| zK <| zK <| zK <| zK <| zE yI <| zE yI <| zZ
     ·replace hb4 := of_decide_eq_true hb4
      exact zM <| zM <| zE (xM uN i y1) <| zE (dK jR) <| zE (jX (u_brief (l.getD i y1) (jN (l.getD i y1)) (qN hl.1 (show i < l.length by omega)))) <| zE mM <| zE eV <| zE cU <| zZ
    ·replace hb3 := of_decide_eq_true hb3
     exact zK <| zK <| zK <| zK <| zK <| zK <| zK <| zK <| zK <| zK <| zE vY <| zZ
   refine jH rfl (fun h5 => ?_) (fun h5 => ?_)
   ·refine jB <| kx [(6, (vb false))] [] (zM <| zZ) ?_
    refine jG ⟨_, (.tmp (d := (.val (.bool (false)))) rfl .nil), ?_⟩
    rw [shR_no (all_no (i := i) (d := (jE.mk (jD.mk false []) (jD.mk false []))) (by omega) (shX_t h5))]; rfl
   ·have hfi : shX n (l.getD i (jE.mk (jD.mk false []) (jD.mk false []))) = true := shX_f h5
    refine jF <| kx [(7, (jW (i + 1)))] [] (zM <| zE (vU (i + 1)) <| zM <| zZ) ?_
    exact ⟨(i + 1), wk, ⟨by omega, all_up (d := (jE.mk (jD.mk false []) (jD.mk false []))) (by omega) hal hfi⟩, (by omega)⟩
  ·replace h2 := of_decide_eq_false h2
   have hie : i = l.length := by omega
   rw [hie, List.take_length] at hal
   refine kL <| jB <| kx [(6, (vb true))] [] (zM <| zZ) ?_
   refine jG ⟨_, (.tmp (d := (.val (.bool (true)))) rfl .nil), ?_⟩
   rw [shR_yes hlk hal]; rfl
theorem u_shortM (m : List (List jE)) (hm : vR 140737488355328 m) (c : Nat) (hc : c ≤ 1000) (n : Nat) (hn : n ≤ 1000) : jV Tryz.prog 70 [(.sl 24 1 (List.map jL m)), (.val (.int .i64 (((c : Nat) : Int)))), (.val (.int .i64 (((n : Nat) : Int))))] (.val (.bool ((shM c n m)))) := by
 have hb := hm.2
 refine jJ Tryz.func70 rfl cb70 rfl ?_
 show qI _ _ _ _ ⟨[(0, (vl 24 1 jL m)), (1, (jW c)), (2, (jW n))], []⟩
 refine jB <| kx [] [] (zM <| zZ) ?_
 refine jB <| jB <| kx [(11, (vb (decide (((c : Nat) : Int) < ((m.length : Nat) : Int)))))] [] (zM <| zE (vG vJ) <| zM <| zE hC <| zZ) ?_
 refine jH rfl (fun h1 => ?_) (fun h1 => ?_)
 ·replace h1 := of_decide_eq_true h1
  refine jB <| kx [(6, (vb false))] [] (zM <| zZ) ?_
  refine jG ⟨_, (.tmp (d := (.val (.bool (false)))) rfl .nil), ?_⟩
  rw [shM_long (by omega)]; rfl
 ·replace h1 := of_decide_eq_false h1
  have hlk := h1
  refine jF <| jB <| jB <| kx [(7, (jW 0))] [] (zM <| zZ) ?_
  refine jI <| kN (α := Nat) (fun i => ⟨[(0, (vl 24 1 jL m)), (1, (jW c)), (2, (jW n)), (7, (jW i))], []⟩) (fun i => i ≤ m.length ∧ (m.take i).all (shR c n) = true) (fun i => m.length - i) 0 wk ⟨Nat.zero_le _, by simp⟩ ?_
  rintro i ⟨hi, hal⟩
  refine jB <| jB <| kx [(15, (vb (decide (((i : Nat) : Int) < ((m.length : Nat) : Int)))))] [] (zM <| zM <| zE (vG vJ) <| zE xK <| zZ) ?_
  refine jH rfl (fun h2 => ?_) (fun h2 => ?_)
  ·replace h2 := of_decide_eq_true h2
   refine jF <| jB <| jI <| jB <| kx [(25, (vb (!(shR c n (m.getD i [])))))] [] (zM <| zM <| zE (xM vJ i ([] : List (jE))) <| zE (xZ gP) <| zM <| zM <| zE (jX (u_short (m.getD i []) (kO (d := []) hm (show i < m.length by omega)) c (by omega) n (by omega))) <| zE mM <| zZ) ?_
   refine jH (b := !(shR c n (m.getD i []))) rfl (fun h3 => ?_) (fun h3 => ?_)
   ·refine jB <| kx [(6, (vb false))] [] (zM <| zZ) ?_
    refine jG ⟨_, (.tmp (d := (.val (.bool (false)))) rfl .nil), ?_⟩
    rw [shM_no (all_no (i := i) (d := []) (by omega) (by simpa using h3))]; rfl
   ·have hfi : shR c n (m.getD i []) = true := by simpa using h3
    refine jF <| kx [(7, (jW (i + 1)))] [] (zM <| zE (vU (i + 1)) <| zM <| zZ) ?_
    exact ⟨(i + 1), wk, ⟨by omega, all_up (d := []) (by omega) hal hfi⟩, (by omega)⟩
  ·replace h2 := of_decide_eq_false h2
   have hie : i = m.length := by omega
   rw [hie, List.take_length] at hal
   refine kL <| jB <| kx [(6, (vb true))] [] (zM <| zZ) ?_
   refine jG ⟨_, (.tmp (d := (.val (.bool (true)))) rfl .nil), ?_⟩
   rw [shM_yes hlk hal]; rfl
theorem u_table (m : List (List jE)) (hm : vR 140737488355328 m) : jV Tryz.prog 17 [(.sl 24 1 (List.map jL m))] (.val (.bool ((shM 5 6 m)))) := by
 refine jJ Tryz.func17 rfl cb17 rfl ?_
 show qI _ _ _ _ ⟨[(0, (vl 24 1 jL m))], []⟩
 refine jB <| kx [] [] (zM <| zZ) ?_
 refine jB <| kx [(2, (vb (shM 5 6 m)))] [] (zM <| zE (jX (u_shortM m hm 5 (by omega) 6 (by omega))) <| zM <| zZ) ?_
 refine jG ⟨_, (.tmp (d := (.val (.bool ((shM 5 6 m))))) rfl .nil), ?_⟩
 rfl
end Go.Proofs.YtnajallgoaiahaaGreatDoor
set_option linter.unusedVariables false
set_option linter.unusedSimpArgs false
namespace Go.Fid
end Go.Fid
set_option linter.unusedVariables false
set_option linter.unusedSimpArgs false
namespace Go.Fid
end Go.Fid
set_option linter.unusedVariables false
set_option linter.unusedSimpArgs false
namespace Go.Fid
theorem den_pos (u : Rat) : ((u.den : Nat) : Int) ≠ 0 := by have := u.den_pos; omega
end Go.Fid
namespace Go.Proofs.YtnajallgoaiahaaGreatDoor
open Go.Fid
set_option maxRecDepth 4000
set_option linter.unusedVariables false
set_option linter.unusedSimpArgs false
theorem cb148 : callB Tryz.prog 148 = true := by kernel_rfl
theorem cb228 : callB Tryz.prog 228 = true := by kernel_rfl
theorem f_counted (x : jD) (a : Int) (hx : vO x a 68719476736) : jV Tryz.prog 228 [(jM x)] (jM (jZ a)) := by
 refine jJ Tryz.func228 rfl cb228 rfl ?_
 show qI _ _ _ _ ⟨[(0, (.d (jM x)))], []⟩
 refine jB <| kx [(1, (.ref 0 0)), (2, (.ref 1 0))] [(0, some (bx (jM x))), (1, some (bx (jM (jD.mk false []))))] (zN (vL 0) <| zN (qS 1 vP vQ) <| zZ) ?_
 refine jB <| jB <| kx [(4, (vb (uE x)))] [] (zR (kR jS) <| zE (jX (t_valid x (Nat.le_trans hx.l (by decide)))) <| zZ) ?_
 refine jH (b := (uE x)) rfl (fun h1 => ?_) (fun h1 => ?_)
 ·refine jB <| kx [] [(1, some (bx (jM x)))] (zR (kR jS) <| zT (qC jS) <| zZ) ?_
  refine jG ⟨_, (kU (cs := (bx (jM x))) (d := (jM x)) rfl rfl jS rfl rfl .nil), ?_⟩
  rw [← hx.v, ofZ_toZ h1]; rfl
 ·refine jF <| jB <| kx [] [(1, some (bx (jM (jZ 0))))] (zE (jX (t_of 0 (by decide) (by decide))) <| zT (qC jS) <| zZ) ?_
  refine jG ⟨_, (kU (cs := (bx (jM (jZ 0)))) (d := (jM (jZ 0))) rfl rfl jS rfl rfl .nil), ?_⟩
  rw [← hx.v, toZ_bad h1, ofZ_zero]; rfl
theorem f_newO (num : jD) (a : Int) (dZ : vO num a 68719476736) (den : jD) (b : Int) (cH : vO den b 68719476736) (hb : b ≠ 0) : jV Tryz.prog 148 [(jM num), (jM den)] (.tup [(jK (jT (Rat.divInt a b))), (.val (.int .i64 (0)))]) := by
 refine jJ Tryz.func148 rfl cb148 rfl ?_
 show qI _ _ _ _ ⟨[(0, (.d (jM num))), (1, (.d (jM den)))], []⟩
 refine jB <| kx [(2, (.ref 0 0)), (3, (.ref 1 0)), (4, (.ref 2 0))] [(0, some (bx (jM num))), (1, some (bx (jM den))), (2, some (bx (jK (jE.mk (jD.mk false []) (jD.mk false [])))))] (zN (vL 0) <| zN (vL 1) <| zN (qS 2 qX uA) <| zM <| zZ) ?_
 refine jB <| kd [] [(0, some (bx (jM (jZ a)))), (1, some (bx (jM (jZ b))))] mo (wR (kR jS) <| wE (jX (f_counted num a dZ)) <| wR (kR jS) <| wE (jX (f_counted den b cH)) <| wT (qC jS) <| wT (qC jS) <| wZ) ?_
 refine jB <| jB <| kx [(12, (vb false))] [] (zR (kR jS) <| zE (jX (s_sign (yJ (vO.ln cH)) (by decide))) <| zE (xI false nF (by exact beq_eq_false_iff_ne.2 (signI_ne hb))) <| zZ) ?_
 refine qA ?_
 refine jF <| jB <| kx [(5, (jW 0))] [(2, some (bx (jK (jT (Rat.divInt a b)))))] (zR (kR jS) <| zR (kR jS) <| zE (jX (mZ (jZ a) (jZ b) a b (yJ (vO.ln dZ)) (yJ (vO.ln cH)) (by assumption))) <| zT (qC jR) <| zM <| zZ) ?_
 refine jG ⟨_, (kU (cs := (bx (jK (jT (Rat.divInt a b))))) (d := (jK (jT (Rat.divInt a b)))) rfl rfl jR rfl rfl (.tmp (d := (.val (.int .i64 (0)))) rfl .nil)), ?_⟩
 rfl
theorem g_newO (num : jD) (a : Int) (dZ : vO num a 68719476736) (den : jD) (b : Int) (cH : vO den b 68719476736) (hb : b ≠ 0) : jV Tryz.prog 94 [(jM num), (jM den)] (.tup [(jK (jT (Rat.divInt a b))), (.val (.int .i64 (0)))]) := by
 refine jJ Tryz.func94 rfl cb94 rfl ?_
 show qI _ _ _ _ ⟨[(0, (.d (jM num))), (1, (.d (jM den)))], []⟩
 refine jB <| kx [(2, (.ref 0 0)), (3, (.ref 1 0)), (4, (.ref 2 0))] [(0, some (bx (jM num))), (1, some (bx (jM den))), (2, some (bx (jK (jE.mk (jD.mk false []) (jD.mk false [])))))] (zN (vL 0) <| zN (vL 1) <| zN (qS 2 qX uA) <| zM <| zZ) ?_
 refine jB <| jB <| kx [(8, (vb false))] [] (zR (kR jS) <| zE (jX (rs_sign cH (by decide))) <| zE (xI false nF (by exact beq_eq_false_iff_ne.2 (signI_ne hb))) <| zZ) ?_
 refine qA ?_
 refine jF <| jB <| kx [(5, (jW 0))] [(2, some (bx (jK (jT (Rat.divInt a b)))))] (zR (kR jS) <| zR (kR jS) <| zE (jX (g_reduced num den a b dZ cH (by assumption))) <| zT (qC jR) <| zM <| zZ) ?_
 refine jG ⟨_, (kU (cs := (bx (jK (jT (Rat.divInt a b))))) (d := (jK (jT (Rat.divInt a b)))) rfl rfl jR rfl rfl (.tmp (d := (.val (.int .i64 (0)))) rfl .nil)), ?_⟩
 rfl
end Go.Proofs.YtnajallgoaiahaaGreatDoor
