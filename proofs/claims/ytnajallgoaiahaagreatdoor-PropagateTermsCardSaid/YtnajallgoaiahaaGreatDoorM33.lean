/- Part 33 of a proof: rules, plain facts, and functions walked. -/
import Derived.Test.YtnajallgoaiahaaGreatDoorM32
namespace Go.Proofs.YtnajallgoaiahaaGreatDoor
open Go.Fid
set_option maxRecDepth 4000
set_option linter.unusedVariables false
set_option linter.unusedSimpArgs false
theorem cb126 : callB Tryz.prog 126 = true := by kernel_rfl
theorem e_stepV (a : Nat) (bv : List R2) (hbx : ∀ x ∈ bv, GL 1048576 x) (n : Nat) (L : List JV) (hn : n ≤ 64) (hL : L.length ≤ 1000) (ha : a < bv.length) (hbl : bv.length ≤ 1000000) : gB Tryz.prog 126 [(.ref 0 0), (.d (jS (kK.mk 1 ((a : Nat) : Int) 0 kW))), (vl 61 8 jQ (List.map uR bv))] [(0, some [(jN n), (jN 1), (vi (-1)), (.own 1 95 10 ((List.map uJ L).length)), (vb false)]), (1, some (qQ jY (List.map uJ L)))] (.d (.tup [])) [(0, some [(jN n), (jN 1), (vi (-1)), (.own 12 95 10 ((List.map uJ (L ++ [(jk (bv.getD a z2) (fun i => (if ((i : Nat) : Int) = ((a : Nat) : Int) then gw 1 else (gw 0))) n)])).length)), (vb false)]), (12, some (qQ jY (List.map uJ (L ++ [(jk (bv.getD a z2) (fun i => (if ((i : Nat) : Int) = ((a : Nat) : Int) then gw 1 else (gw 0))) n)]))))] := by
 let y2 := kW
 let y1 := (jS (kK.mk 1 ((a : Nat) : Int) 0 y2))
 refine nN Tryz.func126 rfl cb126 rfl ?_
 show qR _ _ _ _ ⟨[(0, (.ref 0 0)), (1, (.d y1)), (2, (vl 61 8 jQ (List.map uR bv)))], [(0, some [(jN n), (jN 1), (vi (-1)), (.own 1 95 10 ((List.map uJ L).length)), (vb false)]), (1, some (qQ jY (List.map uJ L)))]⟩
 refine jB<|kx [(3, (.ref 2 0)), (4, (.ref 3 0)), (5, (.ref 4 0))] [(2, some [(.ref 0 0)]), (3, some (bx y1)), (4, some (bx (.sl 61 8 (List.map jQ (List.map uR bv)))))] (zH (oBy 2)<|zH (xA 3)<|zH (xA 4)<|zZ) ?_
 refine jB<|kx [(6, (.ref 5 0))] [(5, some (bx (jQ (uR (gw 0)))))] (zE (jZ (j_whole ((0 : Nat) : Int) (by omega) (by omega)))<|zH (uU 5 xY yC)<|zT (qM uA)<|zZ) ?_
 refine jB<|kx [(7, (.clo 181 [5]))] [] (zE (oMf [5])<|zM<|zZ) ?_
 refine jB<|kx [(8, (.ref 6 0)), (9, (.ref 7 0))] [(6, some (bx (jY (dK.mk (kR.mk y2 y2) [] [])))), (7, some (bx (jY (dK.mk (kR.mk y2 y2) [] []))))] (zH (uU 6 ze95 zo95)<|zH (uU 7 ze95 zo95)<|zZ) ?_
 refine jB<|kx [(10, (jN 0))] [] (zE (qD yU)<|zR (uL fG)<|zE (oQd (.val (.int .i64 ((xV 1)))) (.val (.int .i64 (((0 : Nat) : Int)))) (jZ (j_kids 1)) (by exact rfl))<|zM<|zZ) ?_
 refine jB<|jB<|kx [(19, (vb false))] [] (zM<|zE (xL false mO)<|zZ) ?_
 refine kZ ?_
 refine jD<|jB<|jB<|kx [(29, (vb false))] [] (zM<|zE (xL false mO)<|zZ) ?_
 refine kZ ?_
 refine jD<|jB<|kx [(11, (.clo 183 [2, 6, 7]))] [] (zE (oMf [2, 6, 7])<|zM<|zZ) ?_
 refine jB<|kx [(40, (vi 1))] [] (zE (qD yU)<|zR (uL fG)<|zZ) ?_
 refine jG<|jB<|kx [(46, (vb false))] [] (zE (xL false gA)<|zM<|zZ) ?_
 refine kZ ?_
 refine jB<|kx [(53, (vb true))] [] (zE (xL true gA)<|zM<|zZ) ?_
 refine xD ?_
 refine kf [] [(0, some [(jN n), (jN 1), (vi (-1)), (.own 12 95 10 ((List.map uJ (L ++ [(jk (bv.getD a z2) (fun i => (if ((i : Nat) : Int) = ((a : Nat) : Int) then gw 1 else (gw 0))) n)])).length)), (vb false)]), (12, some (qQ jY (List.map uJ (L ++ [(jk (bv.getD a z2) (fun i => (if ((i : Nat) : Int) = ((a : Nat) : Int) then gw 1 else (gw 0))) n)])))), (1, none), (10, none), (11, none), (3, none), (4, none), (5, none), (8, none), (9, none)] (zR (uL sh159)<|zE (oMf [4, 3])<|zE (oMf [3, 5])<|zM<|zS (B2 := [(0, some [(jN n), (jN 1), (vi (-1)), (.own 1 95 10 ((List.map uJ L).length)), (vb false)]), (1, some (qQ jY (List.map uJ L))), (4, some (bx (.sl 61 8 (List.map jQ (List.map uR bv))))), (3, some (bx y1)), (5, some (bx (jQ (uR (gw 0)))))]) (B2' := [(0, some [(jN n), (jN 1), (vi (-1)), (.own 12 95 10 ((List.map uJ (L ++ [(jk (bv.getD a z2) (fun i => (if ((i : Nat) : Int) = ((a : Nat) : Int) then gw 1 else (gw 0))) n)])).length)), (vb false)]), (12, some (qQ jY (List.map uJ (L ++ [(jk (bv.getD a z2) (fun i => (if ((i : Nat) : Int) = ((a : Nat) : Int) then gw 1 else (gw 0))) n)]))))]) (M := 1000000) [0, 1, 4, 3, 5, 8, 9, 10, 11, 12] [0, 4, 3, 5] (e_nodeV n L bv hbx a (gw 0) (gl_w (z := 0) (by omega) (by omega)) hn hL ha hbl) (.cons (by exact rfl) (by kernel_rfl) (.cons (by exact rfl) (qV _ _) (.cons (by exact rfl) (qV _ _) (.cons (by exact rfl) (qV _ _) (.cons (by exact rfl) (qV _ _) .nil))))) (.cons (by exact rfl) (by kernel_rfl) (.cons (by exact rfl) (qV _ _) .nil)) (by repeat first | exact .nil | refine .hid rfl ?_ | refine .map rfl ?_ | refine .dat rfl ?_ | refine .none rfl ?_ | refine .cells rfl rfl ?_)<|zF) ?_
 refine ⟨nZ (by kernel_rfl), dB (by kernel_rfl), .inl ⟨_, .nil, ?_⟩⟩
 rfl
theorem e_stepM (a : Nat) (b : Nat) (bv : List kR) (n : Nat) (L : List JV) (hn : n ≤ 64) (hL : L.length ≤ 1000) (hLk : ∀ x ∈ L, JOk 1048576 n x) (ha : a < L.length) (hb : b < L.length) : gB Tryz.prog 126 [(.ref 0 0), (.d (jS (kK.mk 4 ((a : Nat) : Int) ((b : Nat) : Int) kW))), (vl 61 8 jQ bv)] [(0, some [(jN n), (jN 1), (vi (-1)), (.own 1 95 10 ((List.map uJ L).length)), (vb false)]), (1, some (qQ jY (List.map uJ L)))] (.d (.tup [])) [(0, some [(jN n), (jN 1), (vi (-1)), (.own 12 95 10 ((List.map uJ (L ++ [(jk (uD ((L.getD a jz).v) ((L.getD b jz).v)) (fun i => (mL (uD ((L.getD a jz).v) (((L.getD b jz).g).getD i z2)) (uD ((L.getD b jz).v) (((L.getD a jz).g).getD i z2)))) n)])).length)), (vb false)]), (12, some (qQ jY (List.map uJ (L ++ [(jk (uD ((L.getD a jz).v) ((L.getD b jz).v)) (fun i => (mL (uD ((L.getD a jz).v) (((L.getD b jz).g).getD i z2)) (uD ((L.getD b jz).v) (((L.getD a jz).g).getD i z2)))) n)]))))] := by
 have hu : JOk 1048576 n (L.getD a jz) := jok_at hLk ha
 have hv : JOk 1048576 n (L.getD b jz) := jok_at hLk hb
 let y1 := (kR.mk kW kW)
 refine nN Tryz.func126 rfl cb126 rfl ?_
 show qR _ _ _ _ ⟨[(0, (.ref 0 0)), (1, (.d (jS (kK.mk 4 ((a : Nat) : Int) ((b : Nat) : Int) kW)))), (2, (vl 61 8 jQ bv))], [(0, some [(jN n), (jN 1), (vi (-1)), (.own 1 95 10 ((List.map uJ L).length)), (vb false)]), (1, some (qQ jY (List.map uJ L)))]⟩
 refine jB<|kx [(3, (.ref 2 0)), (4, (.ref 3 0)), (5, (.ref 4 0))] [(2, some [(.ref 0 0)]), (3, some (bx (jS (kK.mk 4 ((a : Nat) : Int) ((b : Nat) : Int) kW)))), (4, some (bx (.sl 61 8 (List.map jQ bv))))] (zH (oBy 2)<|zH (xA 3)<|zH (xA 4)<|zZ) ?_
 refine jB<|kx [(6, (.ref 5 0))] [(5, some (bx (jQ (uR (gw 0)))))] (zE (jZ (j_whole ((0 : Nat) : Int) (by omega) (by omega)))<|zH (uU 5 xY yC)<|zT (qM uA)<|zZ) ?_
 refine jB<|kx [(7, (.clo 181 [5]))] [] (zE (oMf [5])<|zM<|zZ) ?_
 refine jB<|kx [(8, (.ref 6 0)), (9, (.ref 7 0))] [(6, some (bx (jY (dK.mk y1 [] [])))), (7, some (bx (jY (dK.mk y1 [] []))))] (zH (uU 6 ze95 zo95)<|zH (uU 7 ze95 zo95)<|zZ) ?_
 refine jB<|kx [(10, (jN 2))] [] (zE (qD yU)<|zR (uL fG)<|zE (oQd (.val (.int .i64 ((xV 4)))) (.val (.int .i64 (((2 : Nat) : Int)))) (jZ (j_kids 4)) (by exact rfl))<|zM<|zZ) ?_
 refine jB<|jB<|kx [(19, (vb true))] [] (zM<|zE (xL true mO)<|zZ) ?_
 refine xD ?_
 refine kd [] [(6, some (bx (jY (uJ (L.getD a jz)))))] mo (wR (uL sh159)<|wE oNc<|wE (qD fZ)<|wR (uL sh143)<|wE (qD xM)<|wR (uL yV)<|wE (oXO el143 a (hj := by first | omega | rfl | (simp only [List.length_map]; omega) | (dsimp only; omega)) (h1 := by first | omega | rfl | (simp only [List.length_map]; omega) | (dsimp only; omega)))<|wR (oQr (jY ((List.map uJ L).getD a (dK.mk y1 [] []))) (jY (uJ (L.getD a jz))) (oLA sh95 a (dK.mk y1 [] []) (h1 := by first | omega | rfl | (simp only [List.length_map]; omega) | (dsimp only; omega))) (by exact (congrArg jY (map_getD uJ L jz _ (by omega)))))<|wT (qM sh95)<|wZ) ?_
 refine jB<|jB<|kx [(29, (vb true))] [] (zM<|zE (xL true mO)<|zZ) ?_
 refine xD ?_
 refine kd [] [(7, some (bx (jY (uJ (L.getD b jz)))))] mo (wR (uL sh159)<|wE oNc<|wE (qD fZ)<|wR (uL sh143)<|wE (qD gI)<|wR (uL yV)<|wE (oXO el143 b (hj := by first | omega | rfl | (simp only [List.length_map]; omega) | (dsimp only; omega)) (h1 := by first | omega | rfl | (simp only [List.length_map]; omega) | (dsimp only; omega)))<|wR (oQr (jY ((List.map uJ L).getD b (dK.mk y1 [] []))) (jY (uJ (L.getD b jz))) (oLA sh95 b (dK.mk y1 [] []) (h1 := by first | omega | rfl | (simp only [List.length_map]; omega) | (dsimp only; omega))) (by exact (congrArg jY (map_getD uJ L jz _ (by omega)))))<|wT (qM sh95)<|wZ) ?_
 refine jB<|kx [(11, (.clo 183 [2, 6, 7]))] [] (zE (oMf [2, 6, 7])<|zM<|zZ) ?_
 refine jB<|kx [(40, (vi 4))] [] (zE (qD yU)<|zR (uL fG)<|zZ) ?_
 refine jG<|jB<|kx [(46, (vb false))] [] (zE (xL false gA)<|zM<|zZ) ?_
 refine kZ ?_
 refine jB<|kx [(53, (vb false))] [] (zE (xL false gA)<|zM<|zZ) ?_
 refine kZ ?_
 refine jB<|kx [(60, (vb false))] [] (zE (xL false gA)<|zM<|zZ) ?_
 refine kZ ?_
 refine jB<|kH (wk (l := [(0, (.ref 0 0)), (3, (.ref 2 0)), (6, (.ref 5 0)), (8, (.ref 6 0)), (9, (.ref 7 0)), (11, (.clo 183 [2, 6, 7])), (40, (vi 4)), (60, (vb false))]) (b := [(0, some [(jN n), (jN 1), (vi (-1)), (.own 1 95 10 ((List.map uJ L).length)), (vb false)]), (1, some (qQ jY (List.map uJ L))), (2, some [(.ref 0 0)]), (5, some (bx (jQ (uR (gw 0))))), (6, some (bx (jY (uJ (L.getD a jz))))), (7, some (bx (jY (uJ (L.getD b jz)))))])) ?_
 refine kx [(64, (vb false))] [] (zE (xL false gA)<|zM<|zZ) ?_
 refine kZ ?_
 refine jB<|kx [(68, (vb false))] [] (zE (xL false gA)<|zM<|zZ) ?_
 refine kZ ?_
 refine jB<|kx [(74, (vb true))] [] (zE (xL true gA)<|zM<|zZ) ?_
 refine xD ?_
 refine kf [] [(0, some [(jN n), (jN 1), (vi (-1)), (.own 12 95 10 ((List.map uJ (L ++ [(jk (uD ((L.getD a jz).v) ((L.getD b jz).v)) (fun i => (mL (uD ((L.getD a jz).v) (((L.getD b jz).g).getD i z2)) (uD ((L.getD b jz).v) (((L.getD a jz).g).getD i z2)))) n)])).length)), (vb false)]), (12, some (qQ jY (List.map uJ (L ++ [(jk (uD ((L.getD a jz).v) ((L.getD b jz).v)) (fun i => (mL (uD ((L.getD a jz).v) (((L.getD b jz).g).getD i z2)) (uD ((L.getD b jz).v) (((L.getD a jz).g).getD i z2)))) n)])))), (1, none), (10, none), (11, none), (6, none), (7, none), (8, none), (9, none)] (zR (uL sh159)<|zE (oMf [6, 7])<|zE (oMf [6, 7])<|zE (oMf [6, 7])<|zS (B2 := [(0, some [(jN n), (jN 1), (vi (-1)), (.own 1 95 10 ((List.map uJ L).length)), (vb false)]), (1, some (qQ jY (List.map uJ L))), (6, some (bx (jY (uJ (L.getD a jz))))), (7, some (bx (jY (uJ (L.getD b jz)))))]) (B2' := [(0, some [(jN n), (jN 1), (vi (-1)), (.own 12 95 10 ((List.map uJ (L ++ [(jk (uD ((L.getD a jz).v) ((L.getD b jz).v)) (fun i => (mL (uD ((L.getD a jz).v) (((L.getD b jz).g).getD i z2)) (uD ((L.getD b jz).v) (((L.getD a jz).g).getD i z2)))) n)])).length)), (vb false)]), (12, some (qQ jY (List.map uJ (L ++ [(jk (uD ((L.getD a jz).v) ((L.getD b jz).v)) (fun i => (mL (uD ((L.getD a jz).v) (((L.getD b jz).g).getD i z2)) (uD ((L.getD b jz).v) (((L.getD a jz).g).getD i z2)))) n)]))))]) (M := 1000000) [0, 1, 6, 7, 8, 9, 10, 11, 12] [0, 6, 7] (e_nodeM n L (L.getD a jz) hu (L.getD b jz) hv hn hL) (.cons (by exact rfl) (by kernel_rfl) (.cons (by exact rfl) (qV _ _) (.cons (by exact rfl) (qV _ _) (.cons (by exact rfl) (qV _ _) .nil)))) (.cons (by exact rfl) (by kernel_rfl) (.cons (by exact rfl) (qV _ _) .nil)) (by repeat first | exact .nil | refine .hid rfl ?_ | refine .map rfl ?_ | refine .dat rfl ?_ | refine .none rfl ?_ | refine .cells rfl rfl ?_)<|zF) ?_
 refine ⟨nZ (by kernel_rfl), dB (by kernel_rfl), .inl ⟨_, .nil, ?_⟩⟩
 rfl
theorem cb130 : callB Tryz.prog 130 = true := by kernel_rfl
theorem j_sizes (t : List kK) (ht : TnsOk 1048576 t) (z : Int) : jT Tryz.prog 130 [(.sl 83 7 (List.map jS t)), (.val (.int .i64 (z)))] (.tup [(.sl 3 1 (List.map jI (tmL z t))), (.val (.int .i64 ((((eY z t) : Nat) : Int))))]) := by
 refine jJ Tryz.func130 rfl cb130 rfl ?_
 show qR _ _ _ _ ⟨[(0, (vl 83 7 jS t)), (1, (vi z))], []⟩
 refine jB<|kx [] [] (zE (mP 3 1)<|zM<|zZ) ?_
 refine jB<|jB<|kx [(15, (vb (decide (z < 0) || decide (64 < z))))] [] ?_ ?_
 ·refine zM<|zE vZ<|zE (oV (vb (decide (z < 0))) (qH (by kernel_rfl)))<|?_
  rcases hb1 : (decide (z < 0)) with _ | _
  ·replace hb1 := vB hb1
   exact zM<|zE mO<|zE aO<|zZ
  ·replace hb1 := uH hb1
   exact zK<|zK<|zE hZ<|zZ
 refine jF (b := (decide (z < 0) || decide (64 < z))) rfl (fun h2 => ?_) (fun h2 => ?_)
 ·refine jB<|kx [(4, (vl 3 1 jI [])), (5, (jN 2))] [] (zE (mP 3 1)<|zM<|zZ) ?_
  refine jE ⟨_, (.tmp (d := (.sl 3 1 (List.map jI []))) rfl (.tmp (d := (.val (.int .i64 (2)))) rfl .nil)), ?_⟩
  have he := zb_t (t := t) h2
  rw [he.1, he.2]; rfl
 ·have hz0 := h2
  refine jD<|jB<|jB<|kx [(18, (vb (((t.length : Nat) : Int) == 0)))] [] (zM<|zE (vX aF)<|zE gA<|zZ) ?_
  refine jF (b := (((t.length : Nat) : Int) == 0)) rfl (fun h3 => ?_) (fun h3 => ?_)
  ·replace h3 := eq_of_beq h3
   refine jB<|kx [(4, (vl 3 1 jI [])), (5, (jN 1))] [] (zE (mP 3 1)<|zM<|zZ) ?_
   refine jE ⟨_, (.tmp (d := (.sl 3 1 (List.map jI []))) rfl (.tmp (d := (.val (.int .i64 (1)))) rfl .nil)), ?_⟩
   have he := tm_l0 hz0 (show t.length = 0 by omega)
   rw [he.1, he.2]; rfl
  ·replace h3 := ne_of_beq_false h3
   have h0 := h3
   refine jD<|jB<|jB<|kx [(21, (vb (decide (400 < ((t.length : Nat) : Int)))))] [] (zM<|zE (vX aF)<|zE mO<|zZ) ?_
   refine jF (b := decide (400 < ((t.length : Nat) : Int))) rfl (fun h4 => ?_) (fun h4 => ?_)
   ·replace h4 := uH h4
    refine jB<|kx [(4, (vl 3 1 jI [])), (5, (jN 3))] [] (zE (mP 3 1)<|zM<|zZ) ?_
    refine jE ⟨_, (.tmp (d := (.sl 3 1 (List.map jI []))) rfl (.tmp (d := (.val (.int .i64 (3)))) rfl .nil)), ?_⟩
    have he := tm_lb hz0 (show 400 < t.length by omega)
    rw [he.1, he.2]; rfl
   ·replace h4 := vB h4
    have h400 := h4
    refine jD<|jB<|kx [(6, (.own 0 3 1 t.length))] [(0, some (bm jI (List.replicate t.length 0)))] (zM<|zE (vX aF)<|zN (oMk 0 jI (0 : Int) t.length t.length qP ze3 zo3 by3)<|zM<|zZ) ?_
    refine jB<|jB<|kx [(25, (vl 83 7 jS t)), (26, (jN t.length)), (27, (jN 0))] [] (zM<|zE (vX aF)<|zM<|zZ) ?_
    refine jG<|kI (α := Nat × List Int) (fun (k, o) => ⟨[(1, (vi z)), (6, (.own 0 3 1 t.length)), (25, (vl 83 7 jS t)), (26, (jN t.length)), (27, (jN k))], [(0, some (bm jI o))]⟩) (fun (k, o) => k ≤ t.length ∧ szI t k o ∧ szUp z t k) (fun (k, o) => t.length - k) (0, List.replicate t.length 0) wk ⟨Nat.zero_le _, szI_0, szUp_0 _ _⟩ ?_
    rintro ⟨k, o⟩ ⟨hk, ho, hu⟩
    have qZ := ho.1
    refine jB<|kx [(28, (vb (decide (((k : Nat) : Int) < ((t.length : Nat) : Int)))))] [] (zE vZ<|zZ) ?_
    refine jB<|jF rfl (fun h5 => ?_) (fun h5 => ?_)
    ·replace h5 := uH h5
     have hR := tmr hz0 h5 h400 hu
     have hkl := hR.kl
     refine jD<|jB<|jG<|jB<|kx [(7, (jN k)), (8, (.ref 1 0))] [(1, some (bx (jS (t.getD k tz))))] (zM<|zE (zU aF k (tz : kK))<|zE (dM sh83)<|zH (uU 1 ze83 zo83)<|zM<|zT (qM sh83)<|zZ) ?_
     refine jB<|kx [(9, (vi (xV ((t.getD k tz).op))))] [] (zE (qD yU)<|zR (uL fG)<|zE (jZ (j_kids ((t.getD k tz).op)))<|zM<|zZ) ?_
     refine jB<|jB<|kx [(72, (vb (((decide ((xV ((t.getD k tz).op)) < 0) || (decide ((xV ((t.getD k tz).op)) < 2) && ((t.getD k tz).b != 0))) || (((t.getD k tz).op == 0) && (((t.getD k tz).a != 0) || !(kN ((t.getD k tz).n))))) || (((t.getD k tz).op != 0) && !(unsB ((t.getD k tz).n))))))] [] ?_ ?_
     ·refine zM<|zE vZ<|zE (oV (vb (decide ((xV ((t.getD k tz).op)) < 0))) (qH (by kernel_rfl)))<|?_
      rcases hb6 : (decide ((xV ((t.getD k tz).op)) < 0)) with _ | _
      ·replace hb6 := vB hb6
       refine zM<|zE vZ<|zE (oV (vb (decide ((xV ((t.getD k tz).op)) < 2))) (qH (by kernel_rfl)))<|?_
       rcases hb7 : (decide ((xV ((t.getD k tz).op)) < 2)) with _ | _
       ·replace hb7 := vB hb7
        refine zK<|zK<|zK<|zE yM<|zE yM<|zM<|zE (qD yU)<|zR (uL fG)<|zE gA<|zE (oV (vb ((t.getD k tz).op == 0)) (qH (by kernel_rfl)))<|?_
        rcases hb8 : ((t.getD k tz).op == 0) with _ | _
        ·replace hb8 := ne_of_beq_false hb8
         refine zK<|zK<|zK<|zK<|zK<|zK<|zK<|zK<|zK<|zE yM<|zE yM<|zM<|zE (qD yU)<|zR (uL fG)<|zE nR<|zE (oV (vb ((t.getD k tz).op != 0)) (qH (by kernel_rfl)))<|?_
         rcases hb9 : ((t.getD k tz).op != 0) with _ | _
         ·replace hb9 := bne_eq_false_iff_eq.1 hb9
          exact zK<|zK<|zK<|zK<|zE yM<|zE yM<|zZ
         ·replace hb9 := bne_iff_ne.1 hb9
          exact zE (qD eN)<|zR (kP jO)<|zE (jZ (j_unset ((t.getD k tz).n) (qB (t.getD k tz).n) (tn_get ht (show k < t.length by omega))))<|zE fC<|zE aJ<|zE aO<|zZ
        ·replace hb8 := eq_of_beq hb8
         refine zE (qD xM)<|zR (uL yV)<|zE nR<|zE (oV (vb ((t.getD k tz).a != 0)) (qH (by kernel_rfl)))<|?_
         rcases hb10 : ((t.getD k tz).a != 0) with _ | _
         ·replace hb10 := bne_eq_false_iff_eq.1 hb10
          refine zE (qD eN)<|zR (kP jO)<|zE (jZ (mB ((t.getD k tz).n) (qB (t.getD k tz).n) (jP (tn_get ht (show k < t.length by omega)) (by decide))))<|zE fC<|zE aO<|zE aJ<|zE aO<|zE (oV (vb (false || (true && (false || !(kN ((t.getD k tz).n)))))) (qH (by kernel_rfl)))<|?_
          rcases hb11 : (!(kN ((t.getD k tz).n))) with _ | _
          ·refine zE (qD yU)<|zR (uL fG)<|zE nR<|zE (oV (vb ((t.getD k tz).op != 0)) (qH (by kernel_rfl)))<|?_
           rcases hb12 : ((t.getD k tz).op != 0) with _ | _
           ·replace hb12 := bne_eq_false_iff_eq.1 hb12
            exact zK<|zK<|zK<|zK<|zE yM<|zE yM<|zZ
           ·replace hb12 := bne_iff_ne.1 hb12
            exact zE (qD eN)<|zR (kP jO)<|zE (jZ (j_unset ((t.getD k tz).n) (qB (t.getD k tz).n) (tn_get ht (show k < t.length by omega))))<|zE fC<|zE aJ<|zE aO<|zZ
          ·exact zK<|zK<|zK<|zK<|zK<|zK<|zK<|zK<|zK<|zE hZ<|zZ
         ·replace hb10 := bne_iff_ne.1 hb10
          exact zK<|zK<|zK<|zK<|zE hZ<|zE hZ<|zE yM<|zM<|zK<|zK<|zK<|zK<|zK<|zK<|zK<|zK<|zK<|zE hZ<|zZ
       ·replace hb7 := uH hb7
        refine zE (qD gI)<|zR (uL yV)<|zE nR<|zE aJ<|zE aO<|zE (oV (vb (false || (true && ((t.getD k tz).b != 0)))) (qH (by kernel_rfl)))<|?_
        rcases hb13 : ((t.getD k tz).b != 0) with _ | _
        ·replace hb13 := bne_eq_false_iff_eq.1 hb13
         refine zE (qD yU)<|zR (uL fG)<|zE gA<|zE (oV (vb ((t.getD k tz).op == 0)) (qH (by kernel_rfl)))<|?_
         rcases hb14 : ((t.getD k tz).op == 0) with _ | _
         ·replace hb14 := ne_of_beq_false hb14
          refine zK<|zK<|zK<|zK<|zK<|zK<|zK<|zK<|zK<|zE yM<|zE yM<|zM<|zE (qD yU)<|zR (uL fG)<|zE nR<|zE (oV (vb ((t.getD k tz).op != 0)) (qH (by kernel_rfl)))<|?_
          rcases hb15 : ((t.getD k tz).op != 0) with _ | _
          ·replace hb15 := bne_eq_false_iff_eq.1 hb15
           exact zK<|zK<|zK<|zK<|zE yM<|zE yM<|zZ
          ·replace hb15 := bne_iff_ne.1 hb15
           exact zE (qD eN)<|zR (kP jO)<|zE (jZ (j_unset ((t.getD k tz).n) (qB (t.getD k tz).n) (tn_get ht (show k < t.length by omega))))<|zE fC<|zE aJ<|zE aO<|zZ
         ·replace hb14 := eq_of_beq hb14
          refine zE (qD xM)<|zR (uL yV)<|zE nR<|zE (oV (vb ((t.getD k tz).a != 0)) (qH (by kernel_rfl)))<|?_
          rcases hb16 : ((t.getD k tz).a != 0) with _ | _
          ·replace hb16 := bne_eq_false_iff_eq.1 hb16
           refine zE (qD eN)<|zR (kP jO)<|zE (jZ (mB ((t.getD k tz).n) (qB (t.getD k tz).n) (jP (tn_get ht (show k < t.length by omega)) (by decide))))<|zE fC<|zE aO<|zE aJ<|zE aO<|zE (oV (vb (false || (true && (false || !(kN ((t.getD k tz).n)))))) (qH (by kernel_rfl)))<|?_
           rcases hb17 : (!(kN ((t.getD k tz).n))) with _ | _
           ·refine zE (qD yU)<|zR (uL fG)<|zE nR<|zE (oV (vb ((t.getD k tz).op != 0)) (qH (by kernel_rfl)))<|?_
            rcases hb18 : ((t.getD k tz).op != 0) with _ | _
            ·replace hb18 := bne_eq_false_iff_eq.1 hb18
             exact zK<|zK<|zK<|zK<|zE yM<|zE yM<|zZ
            ·replace hb18 := bne_iff_ne.1 hb18
             exact zE (qD eN)<|zR (kP jO)<|zE (jZ (j_unset ((t.getD k tz).n) (qB (t.getD k tz).n) (tn_get ht (show k < t.length by omega))))<|zE fC<|zE aJ<|zE aO<|zZ
           ·exact zK<|zK<|zK<|zK<|zK<|zK<|zK<|zK<|zK<|zE hZ<|zZ
          ·replace hb16 := bne_iff_ne.1 hb16
           exact zK<|zK<|zK<|zK<|zE hZ<|zE hZ<|zE yM<|zM<|zK<|zK<|zK<|zK<|zK<|zK<|zK<|zK<|zK<|zE hZ<|zZ
        ·replace hb13 := bne_iff_ne.1 hb13
         exact zK<|zK<|zK<|zK<|zK<|zK<|zK<|zK<|zK<|zK<|zK<|zK<|zK<|zK<|zE hZ<|zM<|zK<|zK<|zK<|zK<|zK<|zK<|zK<|zK<|zK<|zE hZ<|zZ
      ·replace hb6 := uH hb6
       exact zK<|zK<|zK<|zK<|zK<|zK<|zK<|zE hZ<|zM<|zK<|zK<|zK<|zK<|zK<|zK<|zK<|zK<|zK<|zK<|zK<|zK<|zK<|zK<|zE hZ<|zM<|zK<|zK<|zK<|zK<|zK<|zK<|zK<|zK<|zK<|zE hZ<|zZ
     refine jF rfl (fun h19 => ?_) (fun h19 => ?_)
     ·refine jB<|kx [(4, (vl 3 1 jI [])), (5, (jN 1))] [] (zE (mP 3 1)<|zM<|zZ) ?_
      refine jE ⟨_, (.tmp (d := (.sl 3 1 (List.map jI []))) rfl (.tmp (d := (.val (.int .i64 (1)))) rfl .nil)), ?_⟩
      have he := hR.bad h19
      rw [he.1, he.2]; rfl
     ·have hB := h19
      refine jD<|jB<|jB<|kx [(100, (vb ((decide (0 < (xV ((t.getD k tz).op))) && (decide ((t.getD k tz).a < 0) || decide (((k : Nat) : Int) ≤ (t.getD k tz).a))) || (decide (1 < (xV ((t.getD k tz).op))) && (decide ((t.getD k tz).b < 0) || decide (((k : Nat) : Int) ≤ (t.getD k tz).b))))))] [] ?_ ?_
      ·refine zM<|zE mO<|zE (oV (vb (decide (0 < (xV ((t.getD k tz).op))))) (qH (by kernel_rfl)))<|?_
       rcases hb20 : (decide (0 < (xV ((t.getD k tz).op)))) with _ | _
       ·replace hb20 := vB hb20
        refine zK<|zK<|zK<|zK<|zK<|zK<|zK<|zK<|zK<|zE yM<|zM<|zM<|zE mO<|zE (oV (vb (decide (1 < (xV ((t.getD k tz).op))))) (qH (by kernel_rfl)))<|?_
        rcases hb21 : (decide (1 < (xV ((t.getD k tz).op)))) with _ | _
        ·replace hb21 := vB hb21
         exact zK<|zK<|zK<|zK<|zK<|zK<|zK<|zK<|zK<|zE yM<|zE yM<|zZ
        ·replace hb21 := uH hb21
         refine zE (qD gI)<|zR (uL yV)<|zE vZ<|zE (oV (vb (decide ((t.getD k tz).b < 0))) (qH (by kernel_rfl)))<|?_
         rcases hb22 : (decide ((t.getD k tz).b < 0)) with _ | _
         ·replace hb22 := vB hb22
          exact zE (qD gI)<|zR (uL yV)<|zM<|zE oGe<|zE aO<|zE aJ<|zE aO<|zZ
         ·replace hb22 := uH hb22
          exact zK<|zK<|zK<|zK<|zE hZ<|zE hZ<|zE yM<|zZ
       ·replace hb20 := uH hb20
        refine zE (qD xM)<|zR (uL yV)<|zE vZ<|zE (oV (vb (decide ((t.getD k tz).a < 0))) (qH (by kernel_rfl)))<|?_
        rcases hb23 : (decide ((t.getD k tz).a < 0)) with _ | _
        ·replace hb23 := vB hb23
         refine zE (qD xM)<|zR (uL yV)<|zM<|zE oGe<|zE aO<|zE aJ<|zE (oV (vb (true && (false || decide (((k : Nat) : Int) ≤ (t.getD k tz).a)))) (qH (by kernel_rfl)))<|?_
         rcases hb24 : (decide (((k : Nat) : Int) ≤ (t.getD k tz).a)) with _ | _
         ·replace hb24 := vB hb24
          refine zM<|zE mO<|zE (oV (vb (decide (1 < (xV ((t.getD k tz).op))))) (qH (by kernel_rfl)))<|?_
          rcases hb25 : (decide (1 < (xV ((t.getD k tz).op)))) with _ | _
          ·replace hb25 := vB hb25
           exact zK<|zK<|zK<|zK<|zK<|zK<|zK<|zK<|zK<|zE yM<|zE yM<|zZ
          ·replace hb25 := uH hb25
           refine zE (qD gI)<|zR (uL yV)<|zE vZ<|zE (oV (vb (decide ((t.getD k tz).b < 0))) (qH (by kernel_rfl)))<|?_
           rcases hb26 : (decide ((t.getD k tz).b < 0)) with _ | _
           ·replace hb26 := vB hb26
            exact zE (qD gI)<|zR (uL yV)<|zM<|zE oGe<|zE aO<|zE aJ<|zE aO<|zZ
           ·replace hb26 := uH hb26
            exact zK<|zK<|zK<|zK<|zE hZ<|zE hZ<|zE yM<|zZ
         ·replace hb24 := uH hb24
          exact zK<|zK<|zK<|zK<|zK<|zK<|zK<|zK<|zK<|zK<|zK<|zK<|zK<|zE hZ<|zZ
        ·replace hb23 := uH hb23
         exact zK<|zK<|zK<|zK<|zE hZ<|zE hZ<|zM<|zK<|zK<|zK<|zK<|zK<|zK<|zK<|zK<|zK<|zK<|zK<|zK<|zK<|zE hZ<|zZ
      refine jF rfl (fun h27 => ?_) (fun h27 => ?_)
      ·refine jB<|kx [(4, (vl 3 1 jI [])), (5, (jN 5))] [] (zE (mP 3 1)<|zM<|zZ) ?_
       refine jE ⟨_, (.tmp (d := (.sl 3 1 (List.map jI []))) rfl (.tmp (d := (.val (.int .i64 (5)))) rfl .nil)), ?_⟩
       have he := hR.ord hB h27
       rw [he.1, he.2]; rfl
      ·have hO := h27
       refine jD<|jB<|jB<|kx [(114, (vb (((t.getD k tz).op == 1) && (decide ((t.getD k tz).a < 0) || decide (z ≤ (t.getD k tz).a)))))] [] ?_ ?_
       ·refine zE (qD yU)<|zR (uL fG)<|zE gA<|zE (oV (vb ((t.getD k tz).op == 1)) (qH (by kernel_rfl)))<|?_
        rcases hb28 : ((t.getD k tz).op == 1) with _ | _
        ·replace hb28 := ne_of_beq_false hb28
         exact zK<|zK<|zK<|zK<|zK<|zK<|zK<|zK<|zK<|zE yM<|zZ
        ·replace hb28 := eq_of_beq hb28
         refine zE (qD xM)<|zR (uL yV)<|zE vZ<|zE (oV (vb (decide ((t.getD k tz).a < 0))) (qH (by kernel_rfl)))<|?_
         rcases hb29 : (decide ((t.getD k tz).a < 0)) with _ | _
         ·replace hb29 := vB hb29
          exact zE (qD xM)<|zR (uL yV)<|zM<|zE oGe<|zE aO<|zE aJ<|zZ
         ·replace hb29 := uH hb29
          exact zK<|zK<|zK<|zK<|zE hZ<|zE hZ<|zZ
       refine jF rfl (fun h30 => ?_) (fun h30 => ?_)
       ·refine jB<|kx [(4, (vl 3 1 jI [])), (5, (jN 2))] [] (zE (mP 3 1)<|zM<|zZ) ?_
        refine jE ⟨_, (.tmp (d := (.sl 3 1 (List.map jI []))) rfl (.tmp (d := (.val (.int .i64 (2)))) rfl .nil)), ?_⟩
        have he := hR.rng hB hO h30
        rw [he.1, he.2]; rfl
       ·have hN := ndr hR hB hO h30
        refine jD<|jB<|jG<|jB<|kx [(129, (vb ((xV ((t.getD k tz).op)) == 0)))] [] (zM<|zE gA<|zM<|zZ) ?_
        refine jF (b := ((xV ((t.getD k tz).op)) == 0)) rfl (fun h31 => ?_) (fun h31 => ?_)
        ·replace h31 := eq_of_beq h31
         have hv := szN_c (ss := cG t k) h31
         have hsl : (o.set k ((1 : Int))).length = o.length := List.length_set
         refine kx [] [(0, some (bm jI (o.set k 1)))] (zM<|zM<|zE (fJ qP k)<|zT (oSp yV k (1 : Int))<|zZ) ?_
         refine jB<|kx [(164, (vb (decide (4096 < ((o.set k 1).getD k 0)))))] [] (zM<|zM<|zE (fJ qP k)<|zR (oLp yV k (0 : Int))<|zE mO<|zZ) ?_
         refine jF (b := decide (4096 < ((o.set k 1).getD k 0))) rfl (fun h32 => ?_) (fun h32 => ?_)
         ·replace h32 := uH h32
          refine jB<|kx [(4, (vl 3 1 jI [])), (5, (jN 3))] [] (zE (mP 3 1)<|zM<|zZ) ?_
          refine jE ⟨_, (.tmp (d := (.sl 3 1 (List.map jI []))) rfl (.tmp (d := (.val (.int .i64 (3)))) rfl .nil)), ?_⟩
          have he := hN.big hv (by omega) h32
          rw [he.1, he.2]; rfl
         ·replace h32 := vB h32
          refine jD<|kx [(27, (jN (k + 1)))] [] (zE (vG (k + 1))<|zM<|zZ) ?_
          exact ⟨(k + 1, o.set k 1), wk, (hN.next hv ho (by omega)), (by first|omega|(dsimp only;omega))⟩
        ·replace h31 := ne_of_beq_false h31
         have hk0 := h31
         obtain ⟨a1, a2, a3, a4, a5⟩ := hN.a ho hk0
         refine jB<|kx [(135, (vb ((t.getD k tz).op == 6)))] [] (zE (qD yU)<|zR (uL fG)<|zE gA<|zM<|zZ) ?_
         refine jF (b := ((t.getD k tz).op == 6)) rfl (fun h33 => ?_) (fun h33 => ?_)
         ·replace h33 := eq_of_beq h33
          have hv := szN_n hk0 h33 a3
          have hsl : (o.set k ((o.getD (((t.getD k tz).a).toNat) 0))).length = o.length := List.length_set
          refine kx [] [(0, some (bm jI (o.set k (o.getD (((t.getD k tz).a).toNat) 0))))] (zM<|zM<|zM<|zE (qD xM)<|zR (uL yV)<|zE (fJ qP (((t.getD k tz).a).toNat))<|zR (oLp yV (((t.getD k tz).a).toNat) (0 : Int))<|zE (fJ qP k)<|zT (oSp yV k (o.getD (((t.getD k tz).a).toNat) 0))<|zZ) ?_
          refine jB<|kx [(164, (vb (decide (4096 < ((o.set k (o.getD (((t.getD k tz).a).toNat) 0)).getD k 0)))))] [] (zM<|zM<|zE (fJ qP k)<|zR (oLp yV k (0 : Int))<|zE mO<|zZ) ?_
          refine jF rfl (fun h34 => ?_) (fun h34 => ?_)
          ·replace h34 := uH h34
           refine jB<|kx [(4, (vl 3 1 jI [])), (5, (jN 3))] [] (zE (mP 3 1)<|zM<|zZ) ?_
           refine jE ⟨_, (.tmp (d := (.sl 3 1 (List.map jI []))) rfl (.tmp (d := (.val (.int .i64 (3)))) rfl .nil)), ?_⟩
           have he := hN.big hv (by omega) h34
           rw [he.1, he.2]; rfl
          ·replace h34 := vB h34
           refine jD<|kx [(27, (jN (k + 1)))] [] (zE (vG (k + 1))<|zM<|zZ) ?_
           exact ⟨(k + 1, o.set k (o.getD (((t.getD k tz).a).toNat) 0)), wk, (hN.next hv ho (by omega)), (by first|omega|(dsimp only;omega))⟩
         ·replace h33 := ne_of_beq_false h33
          have h6 := h33
          refine jB<|kx [(147, (vb ((t.getD k tz).op == 7)))] [] (zE (qD yU)<|zR (uL fG)<|zE gA<|zM<|zZ) ?_
          refine jF (b := ((t.getD k tz).op == 7)) rfl (fun h35 => ?_) (fun h35 => ?_)
          ·replace h35 := eq_of_beq h35
           have hv := szN_q hk0 h35 a3
           have hsl : (o.set k (2 * (o.getD (((t.getD k tz).a).toNat) 0))).length = o.length := List.length_set
           refine kx [] [(0, some (bm jI (o.set k (2 * (o.getD (((t.getD k tz).a).toNat) 0)))))] (zM<|zM<|zM<|zE (qD xM)<|zR (uL yV)<|zE (fJ qP (((t.getD k tz).a).toNat))<|zR (oLp yV (((t.getD k tz).a).toNat) (0 : Int))<|zE (zMl (2 * (o.getD (((t.getD k tz).a).toNat) 0)))<|zE (fJ qP k)<|zT (oSp yV k (2 * (o.getD (((t.getD k tz).a).toNat) 0)))<|zZ) ?_
           refine jB<|kx [(164, (vb (decide (4096 < ((o.set k (2 * (o.getD (((t.getD k tz).a).toNat) 0))).getD k 0)))))] [] (zM<|zM<|zE (fJ qP k)<|zR (oLp yV k (0 : Int))<|zE mO<|zZ) ?_
           refine jF rfl (fun h36 => ?_) (fun h36 => ?_)
           ·replace h36 := uH h36
            refine jB<|kx [(4, (vl 3 1 jI [])), (5, (jN 3))] [] (zE (mP 3 1)<|zM<|zZ) ?_
            refine jE ⟨_, (.tmp (d := (.sl 3 1 (List.map jI []))) rfl (.tmp (d := (.val (.int .i64 (3)))) rfl .nil)), ?_⟩
            have he := hN.big hv (by omega) h36
            rw [he.1, he.2]; rfl
           ·replace h36 := vB h36
            refine jD<|kx [(27, (jN (k + 1)))] [] (zE (vG (k + 1))<|zM<|zZ) ?_
            exact ⟨(k + 1, o.set k (2 * (o.getD (((t.getD k tz).a).toNat) 0))), wk, (hN.next hv ho (by omega)), (by first|omega|(dsimp only;omega))⟩
          ·replace h35 := ne_of_beq_false h35
           obtain ⟨b1, b2, b3, b4, b5⟩ := hN.b ho hk0 h6 h35
           have hv := szN_b hk0 h6 h35 a3 b3
           have hsl : (o.set k ((o.getD (((t.getD k tz).a).toNat) 0) + (o.getD (((t.getD k tz).b).toNat) 0))).length = o.length := List.length_set
           refine kd [] [(0, some (bm jI (o.set k ((o.getD (((t.getD k tz).a).toNat) 0) + (o.getD (((t.getD k tz).b).toNat) 0)))))] mo (wM<|wM<|wM<|wE (qD xM)<|wR (uL yV)<|wE (fJ qP (((t.getD k tz).a).toNat))<|wR (oLp yV (((t.getD k tz).a).toNat) (0 : Int))<|wM<|wE (qD gI)<|wR (uL yV)<|wE (fJ qP (((t.getD k tz).b).toNat))<|wR (oLp yV (((t.getD k tz).b).toNat) (0 : Int))<|wE (zAd ((o.getD (((t.getD k tz).a).toNat) 0) + (o.getD (((t.getD k tz).b).toNat) 0)))<|wE (fJ qP k)<|wT (oSp yV k ((o.getD (((t.getD k tz).a).toNat) 0) + (o.getD (((t.getD k tz).b).toNat) 0)))<|wZ) ?_
           refine jB<|kx [(164, (vb (decide (4096 < ((o.set k ((o.getD (((t.getD k tz).a).toNat) 0) + (o.getD (((t.getD k tz).b).toNat) 0))).getD k 0)))))] [] (zM<|zM<|zE (fJ qP k)<|zR (oLp yV k (0 : Int))<|zE mO<|zZ) ?_
           refine jF rfl (fun h37 => ?_) (fun h37 => ?_)
           ·replace h37 := uH h37
            refine jB<|kx [(4, (vl 3 1 jI [])), (5, (jN 3))] [] (zE (mP 3 1)<|zM<|zZ) ?_
            refine jE ⟨_, (.tmp (d := (.sl 3 1 (List.map jI []))) rfl (.tmp (d := (.val (.int .i64 (3)))) rfl .nil)), ?_⟩
            have he := hN.big hv (by omega) h37
            rw [he.1, he.2]; rfl
           ·replace h37 := vB h37
            refine jD<|kx [(27, (jN (k + 1)))] [] (zE (vG (k + 1))<|zM<|zZ) ?_
            exact ⟨(k + 1, o.set k ((o.getD (((t.getD k tz).a).toNat) 0) + (o.getD (((t.getD k tz).b).toNat) 0))), wk, (hN.next hv ho (by omega)), (by first|omega|(dsimp only;omega))⟩
    ·replace h5 := vB h5
     refine kC<|jB<|kx [(4, (.own 0 3 1 t.length)), (5, (jN 0))] [] (zM<|zM<|zM<|zZ) ?_
     refine kH (vK (t := 4) (k := 0) (es := List.map jI o) rfl rfl (uI _ _ (fun _ => rfl)) (uG _ _ qZ) (vE _ _ (fun _ => rfl) qZ)) ?_
     refine jE ⟨_, (.tmp (d := (.sl 3 1 (List.map jI o))) rfl (.tmp (d := (.val (.int .i64 (0)))) rfl .nil)), ?_⟩
     have he := tm_end hz0 h0 h400 hk h5 ho hu
     rw [he.1, he.2]; rfl
theorem cb67 : callB Tryz.prog 67 = true := by kernel_rfl
theorem cb73 : callB Tryz.prog 73 = true := by kernel_rfl
theorem fo161_4 : vR Tryz.prog 161 4 = some 4 := by kernel_rfl
theorem pl161 : mT Tryz.prog 161 = some [(0, 1), (1, 1), (2, 1), (3, 1), (4, 1)] := by kernel_rfl
theorem ze161 : xH Tryz.prog 161 = some [.int .i64 0, .int .i64 0, .int .i64 0, .slice none 0 0, .bool false] := by kernel_rfl
theorem zn161 : eC [.int .i64 0, .int .i64 0, .int .i64 0, .slice none 0 0, .bool false] [.val (.int .i64 0), .val (.int .i64 0), .val (.int .i64 0), .val (.slice none 0 0), .val (.bool false)] := by simp [eC, Value.oneCell']
theorem hB12 (n : Nat) (L M : List JV) (h : L = M) : ([(0, some [(jN n), (jN 1), (vi (-1)), (.own 18 95 10 ((List.map uJ (M)).length)), (vb false)]), (18, some (qQ jY (List.map uJ (M))))] : BS).map (fun e => (e.1, e.2.map fun c => c.map (SV.ren (xn 12 18)))) = ([(0, some [(jN n), (jN 1), (vi (-1)), (.own 12 95 10 ((List.map uJ (L)).length)), (vb false)]), (12, some (qQ jY (List.map uJ (L))))] : BS).map (fun e => (xn 12 18 e.1, e.2)) := by
 subst h
 simp only [List.map_cons, List.map_nil, Option.map_some, qQ, qV]
 rfl
def StepAt (bv : List R2) (L : List JV) (x : kK) : Prop := gB Tryz.prog 126 [(.ref 0 0), (.d (jS x)), (vl 61 8 jQ (List.map uR bv))] [(0, some [(jN bv.length), (jN 1), (vi (-1)), (.own 1 95 10 ((List.map uJ (L)).length)), (vb false)]), (1, some (qQ jY (List.map uJ (L))))] (.d (.tup [])) [(0, some [(jN bv.length), (jN 1), (vi (-1)), (.own 18 95 10 ((List.map uJ (L ++ [nJ bv L x])).length)), (vb false)]), (18, some (qQ jY (List.map uJ (L ++ [nJ bv L x]))))]
theorem e_step (x : kK) (bv : List R2) (hbx : ∀ x ∈ bv, GL 1048576 x) (L : List JV) (hst : StepAt bv L x) : gB Tryz.prog 126 [(.ref 0 0), (.d (jS x)), (vl 61 8 jQ (List.map uR bv))] [(0, some [(jN bv.length), (jN 1), (vi (-1)), (.own 1 95 10 ((List.map uJ (L)).length)), (vb false)]), (1, some (qQ jY (List.map uJ (L))))] (.d (.tup [])) [(0, some [(jN bv.length), (jN 1), (vi (-1)), (.own 18 95 10 ((List.map uJ (L ++ [nJ bv L x])).length)), (vb false)]), (18, some (qQ jY (List.map uJ (L ++ [nJ bv L x]))))] := hst
structure JRunP (bv : List R2) (t : List kK) : Prop where
 run : JRun bv t
 st : ∀ k, k < t.length → StepAt bv (jU bv t k) (t.getD k tz)
theorem runs_of {bv : List R2} {ts : List (List kK)} (h : ∀ t ∈ ts, JRunP bv t) : ∀ t ∈ ts, JRun bv t := fun t ht => (h t ht).run
theorem j_chk (t : List kK) (ht : TnsOk 1048576 t) (z : Int) : jT Tryz.prog 73 [(.sl 83 7 (List.map jS t)), (.val (.int .i64 (z)))] (.val (.int .i64 ((((eY z t) : Nat) : Int)))) := by
 refine jJ Tryz.func73 rfl cb73 rfl ?_
 show qR _ _ _ _ ⟨[(0, (vl 83 7 jS t)), (1, (vi z))], []⟩
 refine jB<|kx [] [] (zM<|zZ) ?_
 refine jB<|kx [(6, (jN (eY z t)))] [] (zM<|zM<|zE (jZ (j_sizes t ht z))<|zM<|zE vP<|zE vP<|zM<|zM<|zZ) ?_
 refine jB<|kx [(4, (jN (eY z t)))] [] (zM<|zM<|zZ) ?_
 refine jE ⟨_, (.tmp (d := (.val (.int .i64 ((((eY z t) : Nat) : Int))))) rfl .nil), ?_⟩
 rfl
theorem j_jets (t : List kK) (ht : TnsOk 1048576 t) (bv : List R2) (hbx : ∀ x ∈ bv, GL 1048576 x) (hr : JRunP bv t) : jT Tryz.prog 67 [(.sl 83 7 (List.map jS t)), (.sl 61 8 (List.map jQ (List.map uR bv))), (.val (.int .i64 (((1 : Nat) : Int)))), (.val (.int .i64 (-1)))] (.tup [(jY (uJ (gX bv t))), (.val (.int .i64 (((0 : Nat) : Int))))]) := by
 have h0 := tm_0 hr.run.c0
 let y3 := (kR.mk kW kW)
 let y2 := (bx (jY (dK.mk y3 [] [])))
 let y1 := (bx (.agg [(.val (.int .i64 (((bv.length : Nat) : Int)))), (.val (.int .i64 (((1 : Nat) : Int)))), (.val (.int .i64 (-1))), (.val (.slice none 0 0)), (.val (.bool (false)))]))
 refine jJ Tryz.func67 rfl cb67 rfl ?_
 show qR _ _ _ _ ⟨[(0, (vl 83 7 jS t)), (1, (vl 61 8 jQ (List.map uR bv))), (2, (jN 1)), (3, (vi (-1)))], []⟩
 refine jB<|kx [(8, (.ref 0 0))] [(0, some y2)] (zN (uU 0 ze95 zo95)<|zM<|zZ) ?_
 refine jB<|jB<|kx [(16, (vl 61 8 jQ (List.map uR bv))), (17, (jN bv.length)), (18, (jN 0))] [] (zM<|zE (oLn fH bv.length)<|zM<|zZ) ?_
 refine jG<|kI (α := Nat) (fun i => ⟨[(0, (vl 83 7 jS t)), (1, (vl 61 8 jQ (List.map uR bv))), (2, (jN 1)), (3, (vi (-1))), (8, (.ref 0 0)), (16, (vl 61 8 jQ (List.map uR bv))), (17, (jN bv.length)), (18, (jN i))], [(0, some y2)]⟩) (fun i => i ≤ bv.length) (fun i => bv.length - i) 0 wk (Nat.zero_le _) ?_
 rintro i hi
 refine jB<|kx [(19, (vb (decide (((i : Nat) : Int) < ((bv.length : Nat) : Int)))))] [] (zE vZ<|zZ) ?_
 refine jB<|jF rfl (fun h1 => ?_) (fun h1 => ?_)
 ·replace h1 := uH h1
  refine jD<|jB<|jG<|jB<|kx [(11, (.ref 1 0))] [(1, some (bx (jQ (uR (bv.getD i z2)))))] (zE (oXm fH uR i z2)<|zE (dM uA)<|zN (uU 1 xY yC)<|zT (qM uA)<|zZ) ?_
  refine jB<|kx [(24, (vb false))] [] (zR (kP uA)<|zE (jZ (by have h := i_valid (uR (bv.getD i z2)) (cW (⟨uW (jP (jX (aC hbx (by decide) i).1) (by decide : 1048576 ≤ 1048576)), uW (jP (jX (aC hbx (by decide) i).2.1) (by decide : 1048576 ≤ 1048576))⟩) (by decide)); rw [show xR (uR (bv.getD i z2)) = true from nO (aC hbx (by decide) i).2.2] at h; exact h))<|zE fC<|zZ) ?_
  refine kZ ?_
  refine jD<|kx [(18, (jN (i + 1)))] [] (zE (vG (i + 1))<|zM<|zZ) ?_
  exact ⟨i + 1, wk, (by omega), (by first|omega|(dsimp only;omega))⟩
 ·replace h1 := vB h1
  refine kC<|jB<|jB<|kx [(36, (vb false))] [] (zM<|zE (xL false vZ)<|zM<|zM<|zE (xL false mO)<|zE yM<|zM<|zM<|zE (xL false mO)<|zE yM<|zZ) ?_
  refine kZ ?_
  refine jD<|jB<|jB<|kx [(12, (jN (eY ((bv.length : Nat) : Int) t)))] [] (zM<|zM<|zE (oLn fH bv.length)<|zE (jZ (j_chk t ht ((bv.length : Nat) : Int)))<|zM<|zZ) ?_
  refine jB<|kx [(43, (vb false))] [] (zM<|zE (xL false nR (by exact bne_eq_false_iff_eq.2 (by rw [show (eY ((bv.length : Nat) : Int) t) = 0 from hr.run.c0] <;> rfl)))<|zZ) ?_
  refine kZ ?_
  refine jD<|jB<|kx [(13, (.ref 2 0))] [(2, some y1)] (zM<|zE (oLn fH bv.length)<|zM<|zM<|zE (bS pl161 ze161 zn161)<|zN (xA 2)<|zM<|zZ) ?_
  refine jB<|jB<|fP 2 3 3 95 10 (cs := y1) (h := ?_)
  refine kH (wk (l := [(0, (vl 83 7 jS t)), (1, (vl 61 8 jQ (List.map uR bv))), (8, (.ref 0 0)), (13, (.ref 2 0))]) (b := [(0, some y2), (2, some [(jN bv.length), (jN 1), (vi (-1)), (.own 3 95 10 0), (vb false)]), (3, some (qQ jY []))])) ?_
  refine kx [(52, (vl 83 7 jS t)), (53, (jN t.length)), (54, (jN 0))] [] (zM<|zE (vX aF)<|zM<|zZ) ?_
  refine jG<|kI (α := Nat) (fun k => ⟨[(1, (vl 61 8 jQ (List.map uR bv))), (8, (.ref 0 0)), (13, (.ref 2 0)), (52, (vl 83 7 jS t)), (53, (jN t.length)), (54, (jN k))], [(0, some y2), (2, some [(jN bv.length), (jN 1), (vi (-1)), (.own 3 95 10 ((List.map uJ (jU bv t k)).length)), (vb false)]), (3, some (qQ jY (List.map uJ (jU bv t k))))]⟩) (fun k => k ≤ t.length) (fun k => t.length - k) 0 wk (Nat.zero_le _) ?_
  rintro k hk
  have hju := jU_len bv t k
  have hjm : (List.map uJ (jU bv t k)).length = k := by rw [List.length_map, hju]
  have hup := hr.run.upto hk
  refine jB<|kx [(55, (vb (decide (((k : Nat) : Int) < ((t.length : Nat) : Int)))))] [] (zE vZ<|zZ) ?_
  refine jB<|jF rfl (fun h2 => ?_) (fun h2 => ?_)
  ·replace h2 := uH h2
   refine jD<|jB<|jG<|jB<|kx [(15, (.ref 4 0))] [(4, some (bx (jS (t.getD k tz))))] (zE (zU aF k (tz : kK))<|zE (dM sh83)<|zH (uU 4 ze83 zo83)<|zT (qM sh83)<|zZ) ?_
   refine jB<|kf [] [(2, some [(jN bv.length), (jN 1), (vi (-1)), (.own 21 95 10 ((List.map uJ ((jU bv t k) ++ [(nJ bv (jU bv t k) (t.getD k tz))])).length)), (vb false)]), (21, some (qQ jY (List.map uJ ((jU bv t k) ++ [(nJ bv (jU bv t k) (t.getD k tz))])))), (10, none), (11, none), (12, none), (13, none), (14, none), (15, none), (16, none), (17, none), (18, none), (19, none), (20, none), (3, none), (5, none), (6, none), (7, none), (8, none), (9, none)] (zM<|zR (kP sh83)<|zM<|zS (B2 := [(2, some [(jN bv.length), (jN 1), (vi (-1)), (.own 3 95 10 ((List.map uJ (jU bv t k)).length)), (vb false)]), (3, some (qQ jY (List.map uJ (jU bv t k))))]) (B2' := [(2, some [(jN bv.length), (jN 1), (vi (-1)), (.own 21 95 10 ((List.map uJ ((jU bv t k) ++ [(nJ bv (jU bv t k) (t.getD k tz))])).length)), (vb false)]), (21, some (qQ jY (List.map uJ ((jU bv t k) ++ [(nJ bv (jU bv t k) (t.getD k tz))]))))]) (M := 1000000) [2, 3, 5, 6, 7, 8, 9, 10, 11, 12, 13, 14, 15, 16, 17, 18, 19, 20, 21] [2] (e_step (t.getD k tz) bv hbx (jU bv t k) (hr.st k (show k < t.length by omega))) (.cons (by exact rfl) (by kernel_rfl) (.cons (by exact rfl) (qV _ _) .nil)) (.cons (by exact rfl) (by kernel_rfl) (.cons (by exact rfl) (qV _ _) .nil)) (by repeat first | exact .nil | refine .hid rfl ?_ | refine .map rfl ?_ | refine .dat rfl ?_ | refine .none rfl ?_ | refine .cells rfl rfl ?_)<|zF) ?_
   refine kH (wk (l := [(1, (vl 61 8 jQ (List.map uR bv))), (8, (.ref 0 0)), (13, (.ref 2 0)), (52, (vl 83 7 jS t)), (53, (jN t.length)), (54, (jN k))]) (b := [(0, some y2), (2, some [(jN bv.length), (jN 1), (vi (-1)), (.own 21 95 10 ((List.map uJ ((jU bv t k) ++ [(nJ bv (jU bv t k) (t.getD k tz))])).length)), (vb false)]), (21, some (qQ jY (List.map uJ ((jU bv t k) ++ [(nJ bv (jU bv t k) (t.getD k tz))]))))])) ?_
   refine kH (sim_ren2 (S' := [(1, (vl 61 8 jQ (List.map uR bv))), (8, (.ref 0 0)), (13, (.ref 2 0)), (52, (vl 83 7 jS t)), (53, (jN t.length)), (54, (jN k))]) (B' := [(0, some y2), (2, some [(jN bv.length), (jN 1), (vi (-1)), (.own 3 95 10 ((List.map uJ ((jU bv t k) ++ [(nJ bv (jU bv t k) (t.getD k tz))])).length)), (vb false)]), (3, some (qQ jY (List.map uJ ((jU bv t k) ++ [(nJ bv (jU bv t k) (t.getD k tz))]))))]) 3 21 2) ?_
   refine jB<|kx [(65, (vb false))] [] (zM<|zE oNc<|zE (qD fo161_4)<|zR (uL sh4)<|zZ) ?_
   refine kZ ?_
   refine jD<|kx [(54, (jN (k + 1)))] [] (zE (vG (k + 1))<|zM<|zZ) ?_
   exact ⟨k + 1, wk, (by omega), (by first|omega|(dsimp only;omega))⟩
  ·replace h2 := vB h2
   refine kC<|jB<|kd [(9, (jN 0))] [(0, some (bx (jY ((List.map uJ (jU bv t k)).getD ((List.map uJ (jU bv t k)).length - 1) (dK.mk y3 [] [])))))] mo (wM<|wE oNc<|wE (qD fZ)<|wR (uL sh143)<|wM<|wE oNc<|wE (qD fZ)<|wR (uL sh143)<|wE (oLo el143)<|wE (oSb ((List.map uJ (jU bv t k)).length - 1))<|wE (oXO el143 ((List.map uJ (jU bv t k)).length - 1))<|wR (oLA sh95 ((List.map uJ (jU bv t k)).length - 1) (dK.mk y3 [] []))<|wT (qM sh95)<|wM<|wZ) ?_
   refine jE ⟨_, (kU (cs := (bx (jY ((List.map uJ (jU bv t k)).getD ((List.map uJ (jU bv t k)).length - 1) (dK.mk (kR.mk kW kW) [] []))))) (d := (jY ((List.map uJ (jU bv t k)).getD ((List.map uJ (jU bv t k)).length - 1) (dK.mk (kR.mk kW kW) [] [])))) rfl rfl sh95 rfl rfl (.tmp (d := (.val (.int .i64 (((0 : Nat) : Int))))) rfl .nil)), ?_⟩
   obtain rfl : k = t.length := by omega
   rw [List.length_map, hju, map_getD uJ _ jz _ (by omega)]
   unfold gX; rfl
end Go.Proofs.YtnajallgoaiahaaGreatDoor
