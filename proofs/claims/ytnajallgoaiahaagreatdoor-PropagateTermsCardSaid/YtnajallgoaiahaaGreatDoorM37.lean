/- Part 37 of a proof: rules, plain facts, and functions walked. -/
import Derived.Test.YtnajallgoaiahaaGreatDoorM31
import Derived.Test.YtnajallgoaiahaaGreatDoorM36
namespace Go.Proofs.YtnajallgoaiahaaGreatDoor
open Go.Fid
set_option maxRecDepth 4000
set_option linter.unusedVariables false
set_option linter.unusedSimpArgs false
theorem cb60 : callB Tryz.prog 60 = true := by kernel_rfl
theorem u_valU (t : List kK) (ht : TnsOk 1048576 t) (xs : List Rat) (hx : ∀ q ∈ xs, QL q 1048576) (k0 : Nat) (hf : VEnd xs t k0) (hxb : xs.length ≤ 1000000) : jT Tryz.prog 60 [(.sl 83 7 (List.map jS t)), (.sl 45 4 (List.map jH (List.map jM xs)))] (.tup [(jH (vlR xs t k0)), (.val (.int .i64 ((vlC t k0))))]) := by
 have hxn : ((List.map jM xs).length) = xs.length := List.length_map _
 have h0 := tm_0 hf.c0
 have hk9 := hf.hk
 let y2 := kW
 let y1 := (bx (jH y2))
 refine jJ Tryz.func60 rfl cb60 rfl ?_
 show qR _ _ _ _ ⟨[(0, (vl 83 7 jS t)), (1, (vl 45 4 jH (List.map jM xs)))], []⟩
 refine jB<|kx [(4, (.ref 0 0))] [(0, some y1)] (zN (uU 0 qA qO)<|zM<|zZ) ?_
 refine jB<|jB<|kx [(15, (vb false))] [] (zM<|zE (xL true (jZ (m_vlist (List.map jM xs) (pts_row hx (by omega)))) (by exact (vrow_of xs)))<|zE fC<|zZ) ?_
 refine kZ ?_
 refine jD<|jB<|jB<|kx [(6, (jN (eY ((xs.length : Nat) : Int) t)))] [] (zM<|zM<|zE (oLn qN xs.length)<|zE (jZ (u_chk t ht ((xs.length : Nat) : Int)))<|zM<|zZ) ?_
 refine jB<|kx [(22, (vb false))] [] (zM<|zE (xL false nR (by exact bne_eq_false_iff_eq.2 (by rw [show (eY ((xs.length : Nat) : Int) t) = 0 from hf.c0] <;> rfl)))<|zZ) ?_
 refine kZ ?_
 refine jD<|jB<|kx [(7, (.own 1 45 4 0))] [(1, some (qQ jH []))] (zN (oBo 1 qN qA qO)<|zM<|zZ) ?_
 refine jB<|jB<|kx [(26, (vl 83 7 jS t)), (27, (jN t.length)), (28, (jN 0))] [] (zM<|zE (vX aF)<|zM<|zZ) ?_
 refine jG<|kI (α := Nat × List kD) (fun (k, o) => ⟨[(1, (vl 45 4 jH (List.map jM xs))), (4, (.ref 0 0)), (7, (.own 1 45 4 o.length)), (26, (vl 83 7 jS t)), (27, (jN t.length)), (28, (jN k))], [(0, some y1), (1, some (qQ jH o))]⟩) (fun (k, o) => k ≤ k0 ∧ o = List.map jM (vU xs t k)) (fun (k, o) => t.length - k) (0, []) wk ⟨Nat.zero_le _, rfl⟩ ?_
 rintro ⟨k, o⟩ ⟨hk, ho⟩
 have hol : o.length = k := by rw [ho, List.length_map]; exact vU_len _ _ _
 have hget : ∀ j, j < k → o.getD j kW = jM ((vU xs t k).getD j 0) := fun j hj => by rw [ho]; exact map_getD jM _ 0 _ (by rw [vU_len]; exact hj)
 have hVq := (hf.up.le hk).all
 refine jB<|kx [(29, (vb (decide (((k : Nat) : Int) < ((t.length : Nat) : Int)))))] [] (zE vZ<|zZ) ?_
 refine jB<|jF rfl (fun h1 => ?_) (fun h1 => ?_)
 ·replace h1 := uH h1
  have hN := nd_at hf.c0 (show k < t.length by omega)
  refine jD<|jB<|jG<|jB<|kx [(9, (.ref 2 0))] [(2, some (bx (jS (t.getD k tz))))] (zE (zU aF k (tz : kK))<|zE (dM sh83)<|zH (uU 2 ze83 zo83)<|zT (qM sh83)<|zZ) ?_
  refine jB<|kx [(10, (.ref 3 0))] [(3, some (bx (jH ((t.getD k tz).n))))] (zE (qD eN)<|zR (kP jO)<|zH (uU 3 qA qO)<|zT (qM jO)<|zZ) ?_
  refine jB<|jB<|kx [(35, (vi ((t.getD k tz).op)))] [] (zE (qD yU)<|zR (uL fG)<|zZ) ?_
  refine jG<|jB<|kx [(36, (vb ((t.getD k tz).op == ((1 : Nat) : Int))))] [] (zE gA<|zM<|zZ) ?_
  refine jF (b := ((t.getD k tz).op == ((1 : Nat) : Int))) rfl (fun h2 => ?_) (fun h2 => ?_)
  ·replace h2 := eq_of_beq h2
   have hop := h2
   obtain ⟨a1, a2⟩ := hN.var h2
   have hlt := hf.lt hk (show k < t.length by omega) (by rw [hop]; decide)
   refine kx [] [(3, some (bx (jH (jM (xs.getD (((t.getD k tz).a).toNat) 0)))))] (zM<|zE (qD xM)<|zR (uL yV)<|zE (oXm qN jM (((t.getD k tz).a).toNat) 0)<|zE (dM jO)<|zT (qM jO)<|zZ) ?_
   refine kf [(7, (.own 1 45 4 ((o ++ [(jM (xs.getD (((t.getD k tz).a).toNat) 0))]).length)))] [(1, some (qQ jH (o ++ [(jM (xs.getD (((t.getD k tz).a).toNat) 0))])))] (zM<|zR (kP jO)<|zE (gN qN qA qO)<|zAS jH o [(jM (xs.getD (((t.getD k tz).a).toNat) 0))] rfl qN qA fF<|zM<|zF) ?_
   refine kx [(28, (jN (k + 1)))] [] (zE (vG (k + 1))<|zM<|zZ) ?_
   exact ⟨(k + 1, o ++ [jM (xs.getD ((t.getD k tz).a.toNat) 0)]), wk, ⟨by omega, by rw [ho]; exact vU_nx (vV_1 hop)⟩, (by first|omega|(dsimp only;omega))⟩
  ·replace h2 := ne_of_beq_false h2
   refine jB<|kx [(43, (vb ((t.getD k tz).op == ((2 : Nat) : Int))))] [] (zE gA<|zM<|zZ) ?_
   refine jF (b := ((t.getD k tz).op == ((2 : Nat) : Int))) rfl (fun h3 => ?_) (fun h3 => ?_)
   ·replace h3 := eq_of_beq h3
    have hop := h3
    obtain ⟨⟨a1, a2⟩, b1, b2⟩ := hN.bin (.inl h3)
    have hlt := hf.lt hk (show k < t.length by omega) (by rw [hop]; decide)
    refine kd [] [(3, some (bx (jH (jM (((vU xs t k).getD ((t.getD k tz).a.toNat) 0) + ((vU xs t k).getD ((t.getD k tz).b.toNat) 0))))))] mo (wM<|wE (qD xM)<|wR (uL yV)<|wE (oXO qN (((t.getD k tz).a).toNat))<|wR (oQr (jH (o.getD (((t.getD k tz).a).toNat) y2)) (jH (jM ((vU xs t k).getD ((t.getD k tz).a.toNat) 0))) (oLA jO (((t.getD k tz).a).toNat) y2) (by exact (congrArg jH (hget _ (show (t.getD k tz).a.toNat < k by omega)))))<|wM<|wE (qD gI)<|wR (uL yV)<|wE (oXO qN (((t.getD k tz).b).toNat))<|wR (oQr (jH (o.getD (((t.getD k tz).b).toNat) y2)) (jH (jM ((vU xs t k).getD ((t.getD k tz).b.toNat) 0))) (oLA jO (((t.getD k tz).b).toNat) y2) (by exact (congrArg jH (hget _ (show (t.getD k tz).b.toNat < k by omega)))))<|wE (jZ (g_add (jM ((vU xs t k).getD ((t.getD k tz).a.toNat) 0)) (jM ((vU xs t k).getD ((t.getD k tz).b.toNat) 0)) ((vU xs t k).getD ((t.getD k tz).a.toNat) 0) ((vU xs t k).getD ((t.getD k tz).b.toNat) 0) (jP (jX (qlg hVq (by decide) ((t.getD k tz).a.toNat))) (by decide)) (jP (jX (qlg hVq (by decide) ((t.getD k tz).b.toNat))) (by decide))))<|wT (qM jO)<|wZ) ?_
    refine kf [(7, (.own 1 45 4 ((o ++ [(jM (((vU xs t k).getD ((t.getD k tz).a.toNat) 0) + ((vU xs t k).getD ((t.getD k tz).b.toNat) 0)))]).length)))] [(1, some (qQ jH (o ++ [(jM (((vU xs t k).getD ((t.getD k tz).a.toNat) 0) + ((vU xs t k).getD ((t.getD k tz).b.toNat) 0)))])))] (zM<|zR (kP jO)<|zE (gN qN qA qO)<|zAS jH o [(jM (((vU xs t k).getD ((t.getD k tz).a.toNat) 0) + ((vU xs t k).getD ((t.getD k tz).b.toNat) 0)))] rfl qN qA fF<|zM<|zF) ?_
    refine kx [(28, (jN (k + 1)))] [] (zE (vG (k + 1))<|zM<|zZ) ?_
    exact ⟨(k + 1, o ++ [jM (((vU xs t k).getD ((t.getD k tz).a.toNat) 0) + ((vU xs t k).getD ((t.getD k tz).b.toNat) 0))]), wk, ⟨by omega, by rw [ho]; exact vU_nx (vV_2 hop)⟩, (by first|omega|(dsimp only;omega))⟩
   ·replace h3 := ne_of_beq_false h3
    refine jB<|kx [(56, (vb ((t.getD k tz).op == ((3 : Nat) : Int))))] [] (zE gA<|zM<|zZ) ?_
    refine jF (b := ((t.getD k tz).op == ((3 : Nat) : Int))) rfl (fun h4 => ?_) (fun h4 => ?_)
    ·replace h4 := eq_of_beq h4
     have hop := h4
     obtain ⟨⟨a1, a2⟩, b1, b2⟩ := hN.bin (.inr (.inl h4))
     have hlt := hf.lt hk (show k < t.length by omega) (by rw [hop]; decide)
     refine kd [] [(3, some (bx (jH (jM (((vU xs t k).getD ((t.getD k tz).a.toNat) 0) - ((vU xs t k).getD ((t.getD k tz).b.toNat) 0))))))] mo (wM<|wE (qD xM)<|wR (uL yV)<|wE (oXO qN (((t.getD k tz).a).toNat))<|wR (oQr (jH (o.getD (((t.getD k tz).a).toNat) y2)) (jH (jM ((vU xs t k).getD ((t.getD k tz).a.toNat) 0))) (oLA jO (((t.getD k tz).a).toNat) y2) (by exact (congrArg jH (hget _ (show (t.getD k tz).a.toNat < k by omega)))))<|wM<|wE (qD gI)<|wR (uL yV)<|wE (oXO qN (((t.getD k tz).b).toNat))<|wR (oQr (jH (o.getD (((t.getD k tz).b).toNat) y2)) (jH (jM ((vU xs t k).getD ((t.getD k tz).b.toNat) 0))) (oLA jO (((t.getD k tz).b).toNat) y2) (by exact (congrArg jH (hget _ (show (t.getD k tz).b.toNat < k by omega)))))<|wE (jZ (g_sub (jM ((vU xs t k).getD ((t.getD k tz).a.toNat) 0)) (jM ((vU xs t k).getD ((t.getD k tz).b.toNat) 0)) ((vU xs t k).getD ((t.getD k tz).a.toNat) 0) ((vU xs t k).getD ((t.getD k tz).b.toNat) 0) (jP (jX (qlg hVq (by decide) ((t.getD k tz).a.toNat))) (by decide)) (jP (jX (qlg hVq (by decide) ((t.getD k tz).b.toNat))) (by decide))))<|wT (qM jO)<|wZ) ?_
     refine kf [(7, (.own 1 45 4 ((o ++ [(jM (((vU xs t k).getD ((t.getD k tz).a.toNat) 0) - ((vU xs t k).getD ((t.getD k tz).b.toNat) 0)))]).length)))] [(1, some (qQ jH (o ++ [(jM (((vU xs t k).getD ((t.getD k tz).a.toNat) 0) - ((vU xs t k).getD ((t.getD k tz).b.toNat) 0)))])))] (zM<|zR (kP jO)<|zE (gN qN qA qO)<|zAS jH o [(jM (((vU xs t k).getD ((t.getD k tz).a.toNat) 0) - ((vU xs t k).getD ((t.getD k tz).b.toNat) 0)))] rfl qN qA fF<|zM<|zF) ?_
     refine kx [(28, (jN (k + 1)))] [] (zE (vG (k + 1))<|zM<|zZ) ?_
     exact ⟨(k + 1, o ++ [jM (((vU xs t k).getD ((t.getD k tz).a.toNat) 0) - ((vU xs t k).getD ((t.getD k tz).b.toNat) 0))]), wk, ⟨by omega, by rw [ho]; exact vU_nx (vV_3 hop)⟩, (by first|omega|(dsimp only;omega))⟩
    ·replace h4 := ne_of_beq_false h4
     refine jB<|kx [(69, (vb ((t.getD k tz).op == ((4 : Nat) : Int))))] [] (zE gA<|zM<|zZ) ?_
     refine jF (b := ((t.getD k tz).op == ((4 : Nat) : Int))) rfl (fun h5 => ?_) (fun h5 => ?_)
     ·replace h5 := eq_of_beq h5
      have hop := h5
      obtain ⟨⟨a1, a2⟩, b1, b2⟩ := hN.bin (.inr (.inr (.inl h5)))
      have hlt := hf.lt hk (show k < t.length by omega) (by rw [hop]; decide)
      refine kd [] [(3, some (bx (jH (jM (((vU xs t k).getD ((t.getD k tz).a.toNat) 0) * ((vU xs t k).getD ((t.getD k tz).b.toNat) 0))))))] mo (wM<|wE (qD xM)<|wR (uL yV)<|wE (oXO qN (((t.getD k tz).a).toNat))<|wR (oQr (jH (o.getD (((t.getD k tz).a).toNat) y2)) (jH (jM ((vU xs t k).getD ((t.getD k tz).a.toNat) 0))) (oLA jO (((t.getD k tz).a).toNat) y2) (by exact (congrArg jH (hget _ (show (t.getD k tz).a.toNat < k by omega)))))<|wM<|wE (qD gI)<|wR (uL yV)<|wE (oXO qN (((t.getD k tz).b).toNat))<|wR (oQr (jH (o.getD (((t.getD k tz).b).toNat) y2)) (jH (jM ((vU xs t k).getD ((t.getD k tz).b.toNat) 0))) (oLA jO (((t.getD k tz).b).toNat) y2) (by exact (congrArg jH (hget _ (show (t.getD k tz).b.toNat < k by omega)))))<|wE (jZ (g_mul (jM ((vU xs t k).getD ((t.getD k tz).a.toNat) 0)) (jM ((vU xs t k).getD ((t.getD k tz).b.toNat) 0)) ((vU xs t k).getD ((t.getD k tz).a.toNat) 0) ((vU xs t k).getD ((t.getD k tz).b.toNat) 0) (jP (jX (qlg hVq (by decide) ((t.getD k tz).a.toNat))) (by decide)) (jP (jX (qlg hVq (by decide) ((t.getD k tz).b.toNat))) (by decide))))<|wT (qM jO)<|wZ) ?_
      refine kf [(7, (.own 1 45 4 ((o ++ [(jM (((vU xs t k).getD ((t.getD k tz).a.toNat) 0) * ((vU xs t k).getD ((t.getD k tz).b.toNat) 0)))]).length)))] [(1, some (qQ jH (o ++ [(jM (((vU xs t k).getD ((t.getD k tz).a.toNat) 0) * ((vU xs t k).getD ((t.getD k tz).b.toNat) 0)))])))] (zM<|zR (kP jO)<|zE (gN qN qA qO)<|zAS jH o [(jM (((vU xs t k).getD ((t.getD k tz).a.toNat) 0) * ((vU xs t k).getD ((t.getD k tz).b.toNat) 0)))] rfl qN qA fF<|zM<|zF) ?_
      refine kx [(28, (jN (k + 1)))] [] (zE (vG (k + 1))<|zM<|zZ) ?_
      exact ⟨(k + 1, o ++ [jM (((vU xs t k).getD ((t.getD k tz).a.toNat) 0) * ((vU xs t k).getD ((t.getD k tz).b.toNat) 0))]), wk, ⟨by omega, by rw [ho]; exact vU_nx (vV_4 hop)⟩, (by first|omega|(dsimp only;omega))⟩
     ·replace h5 := ne_of_beq_false h5
      refine jB<|kx [(82, (vb ((t.getD k tz).op == ((6 : Nat) : Int))))] [] (zE gA<|zM<|zZ) ?_
      refine jF (b := ((t.getD k tz).op == ((6 : Nat) : Int))) rfl (fun h6 => ?_) (fun h6 => ?_)
      ·replace h6 := eq_of_beq h6
       have hop := h6
       obtain ⟨a1, a2⟩ := hN.un (.inl h6)
       have hlt := hf.lt hk (show k < t.length by omega) (by rw [hop]; decide)
       refine kx [] [(3, some (bx (jH (jM (-((vU xs t k).getD ((t.getD k tz).a.toNat) 0))))))] (zM<|zE (qD xM)<|zR (uL yV)<|zE (oXO qN (((t.getD k tz).a).toNat))<|zR (oQr (jH (o.getD (((t.getD k tz).a).toNat) y2)) (jH (jM ((vU xs t k).getD ((t.getD k tz).a.toNat) 0))) (oLA jO (((t.getD k tz).a).toNat) y2) (by exact (congrArg jH (hget _ (show (t.getD k tz).a.toNat < k by omega)))))<|zE (jZ (g_neg (jM ((vU xs t k).getD ((t.getD k tz).a.toNat) 0)) ((vU xs t k).getD ((t.getD k tz).a.toNat) 0) (jP (jX (qlg hVq (by decide) ((t.getD k tz).a.toNat))) (by decide))))<|zT (qM jO)<|zZ) ?_
       refine kf [(7, (.own 1 45 4 ((o ++ [(jM (-((vU xs t k).getD ((t.getD k tz).a.toNat) 0)))]).length)))] [(1, some (qQ jH (o ++ [(jM (-((vU xs t k).getD ((t.getD k tz).a.toNat) 0)))])))] (zM<|zR (kP jO)<|zE (gN qN qA qO)<|zAS jH o [(jM (-((vU xs t k).getD ((t.getD k tz).a.toNat) 0)))] rfl qN qA fF<|zM<|zF) ?_
       refine kx [(28, (jN (k + 1)))] [] (zE (vG (k + 1))<|zM<|zZ) ?_
       exact ⟨(k + 1, o ++ [jM (-((vU xs t k).getD ((t.getD k tz).a.toNat) 0))]), wk, ⟨by omega, by rw [ho]; exact vU_nx (vV_6 hop)⟩, (by first|omega|(dsimp only;omega))⟩
      ·replace h6 := ne_of_beq_false h6
       refine jB<|kx [(90, (vb ((t.getD k tz).op == ((7 : Nat) : Int))))] [] (zE gA<|zM<|zZ) ?_
       refine jF (b := ((t.getD k tz).op == ((7 : Nat) : Int))) rfl (fun h7 => ?_) (fun h7 => ?_)
       ·replace h7 := eq_of_beq h7
        have hop := h7
        obtain ⟨a1, a2⟩ := hN.un (.inr h7)
        have hlt := hf.lt hk (show k < t.length by omega) (by rw [hop]; decide)
        refine kd [] [(3, some (bx (jH (jM (((vU xs t k).getD ((t.getD k tz).a.toNat) 0) * ((vU xs t k).getD ((t.getD k tz).a.toNat) 0))))))] mo (wM<|wE (qD xM)<|wR (uL yV)<|wE (oXO qN (((t.getD k tz).a).toNat))<|wR (oQr (jH (o.getD (((t.getD k tz).a).toNat) y2)) (jH (jM ((vU xs t k).getD ((t.getD k tz).a.toNat) 0))) (oLA jO (((t.getD k tz).a).toNat) y2) (by exact (congrArg jH (hget _ (show (t.getD k tz).a.toNat < k by omega)))))<|wM<|wE (qD xM)<|wR (uL yV)<|wE (oXO qN (((t.getD k tz).a).toNat))<|wR (oQr (jH (o.getD (((t.getD k tz).a).toNat) y2)) (jH (jM ((vU xs t k).getD ((t.getD k tz).a.toNat) 0))) (oLA jO (((t.getD k tz).a).toNat) y2) (by exact (congrArg jH (hget _ (show (t.getD k tz).a.toNat < k by omega)))))<|wE (jZ (g_mul (jM ((vU xs t k).getD ((t.getD k tz).a.toNat) 0)) (jM ((vU xs t k).getD ((t.getD k tz).a.toNat) 0)) ((vU xs t k).getD ((t.getD k tz).a.toNat) 0) ((vU xs t k).getD ((t.getD k tz).a.toNat) 0) (jP (jX (qlg hVq (by decide) ((t.getD k tz).a.toNat))) (by decide)) (jP (jX (qlg hVq (by decide) ((t.getD k tz).a.toNat))) (by decide))))<|wT (qM jO)<|wZ) ?_
        refine kf [(7, (.own 1 45 4 ((o ++ [(jM (((vU xs t k).getD ((t.getD k tz).a.toNat) 0) * ((vU xs t k).getD ((t.getD k tz).a.toNat) 0)))]).length)))] [(1, some (qQ jH (o ++ [(jM (((vU xs t k).getD ((t.getD k tz).a.toNat) 0) * ((vU xs t k).getD ((t.getD k tz).a.toNat) 0)))])))] (zM<|zR (kP jO)<|zE (gN qN qA qO)<|zAS jH o [(jM (((vU xs t k).getD ((t.getD k tz).a.toNat) 0) * ((vU xs t k).getD ((t.getD k tz).a.toNat) 0)))] rfl qN qA fF<|zM<|zF) ?_
        refine kx [(28, (jN (k + 1)))] [] (zE (vG (k + 1))<|zM<|zZ) ?_
        exact ⟨(k + 1, o ++ [jM (((vU xs t k).getD ((t.getD k tz).a.toNat) 0) * ((vU xs t k).getD ((t.getD k tz).a.toNat) 0))]), wk, ⟨by omega, by rw [ho]; exact vU_nx (vV_7 hop)⟩, (by first|omega|(dsimp only;omega))⟩
       ·replace h7 := ne_of_beq_false h7
        refine jB<|kx [(103, (vb ((t.getD k tz).op == ((5 : Nat) : Int))))] [] (zE gA<|zM<|zZ) ?_
        refine jF (b := ((t.getD k tz).op == ((5 : Nat) : Int))) rfl (fun h8 => ?_) (fun h8 => ?_)
        ·replace h8 := eq_of_beq h8
         have hop := h8
         obtain ⟨⟨a1, a2⟩, b1, b2⟩ := hN.bin (.inr (.inr (.inr h8)))
         refine jB ?_
         rcases hlt0 : (decide (k < k0)) with _ | _
         ·refine kd [(11, (.ref 4 0)), (12, (vi (divC ((vU xs t k).getD ((t.getD k tz).b.toNat) 0))))] [(4, some (bx (jH (divR ((vU xs t k).getD ((t.getD k tz).a.toNat) 0) ((vU xs t k).getD ((t.getD k tz).b.toNat) 0)))))] mo (wM<|wE (qD xM)<|wR (uL yV)<|wE (oXO qN (((t.getD k tz).a).toNat))<|wR (oQr (jH (o.getD (((t.getD k tz).a).toNat) y2)) (jH (jM ((vU xs t k).getD ((t.getD k tz).a.toNat) 0))) (oLA jO (((t.getD k tz).a).toNat) y2) (by exact (congrArg jH (hget _ (show (t.getD k tz).a.toNat < k by omega)))))<|wM<|wE (qD gI)<|wR (uL yV)<|wE (oXO qN (((t.getD k tz).b).toNat))<|wR (oQr (jH (o.getD (((t.getD k tz).b).toNat) y2)) (jH (jM ((vU xs t k).getD ((t.getD k tz).b.toNat) 0))) (oLA jO (((t.getD k tz).b).toNat) y2) (by exact (congrArg jH (hget _ (show (t.getD k tz).b.toNat < k by omega)))))<|wE (jZ (g_divide (jM ((vU xs t k).getD ((t.getD k tz).a.toNat) 0)) (jM ((vU xs t k).getD ((t.getD k tz).b.toNat) 0)) ((vU xs t k).getD ((t.getD k tz).a.toNat) 0) ((vU xs t k).getD ((t.getD k tz).b.toNat) 0) (jP (jX (qlg hVq (by decide) ((t.getD k tz).a.toNat))) (by decide)) (jP (jX (qlg hVq (by decide) ((t.getD k tz).b.toNat))) (by decide))))<|wM<|wE vP<|wE vP<|wH (hc := by kernel_rfl) (uU 4 qA qO)<|wT (qM jO)<|wM<|wZ) ?_
          refine jB<|jB<|kx [(120, (vb true))] [] (zM<|zE (xL true nR (by exact bne_iff_ne.2 (by rw [divC_zero (hf.at hk (show k < t.length by omega) hlt0)]; decide)))<|zZ) ?_
          refine xD ?_
          refine jB<|kx [(5, (vi (divC ((vU xs t k).getD ((t.getD k tz).b.toNat) 0))))] [(0, some y1)] (zE (bS pl45 qA qO)<|zM<|zT (qM jO)<|zM<|zZ) ?_
          refine jE ⟨_, (kU (cs := (bx (jH kW))) (d := (jH kW)) rfl rfl jO rfl rfl (.tmp (d := (.val (.int .i64 ((divC ((vU xs t k).getD ((t.getD k tz).b.toNat) 0)))))) rfl .nil)), ?_⟩
          obtain ⟨e1, e2⟩ := hf.no hk (show k < t.length by omega) hlt0 (xs := xs)
          rw [divC_zero (hf.at hk (show k < t.length by omega) hlt0), e1, e2]; rfl
         ·refine kd [(11, (.ref 4 0)), (12, (vi 0))] [(4, some (bx (jH (jM (((vU xs t k).getD ((t.getD k tz).a.toNat) 0) / ((vU xs t k).getD ((t.getD k tz).b.toNat) 0))))))] mo (wM<|wE (qD xM)<|wR (uL yV)<|wE (oXO qN (((t.getD k tz).a).toNat))<|wR (oQr (jH (o.getD (((t.getD k tz).a).toNat) y2)) (jH (jM ((vU xs t k).getD ((t.getD k tz).a.toNat) 0))) (oLA jO (((t.getD k tz).a).toNat) y2) (by exact (congrArg jH (hget _ (show (t.getD k tz).a.toNat < k by omega)))))<|wM<|wE (qD gI)<|wR (uL yV)<|wE (oXO qN (((t.getD k tz).b).toNat))<|wR (oQr (jH (o.getD (((t.getD k tz).b).toNat) y2)) (jH (jM ((vU xs t k).getD ((t.getD k tz).b.toNat) 0))) (oLA jO (((t.getD k tz).b).toNat) y2) (by exact (congrArg jH (hget _ (show (t.getD k tz).b.toNat < k by omega)))))<|wE (jZ (by have h := g_divide (jM ((vU xs t k).getD ((t.getD k tz).a.toNat) 0)) (jM ((vU xs t k).getD ((t.getD k tz).b.toNat) 0)) ((vU xs t k).getD ((t.getD k tz).a.toNat) 0) ((vU xs t k).getD ((t.getD k tz).b.toNat) 0) (jP (jX (qlg hVq (by decide) ((t.getD k tz).a.toNat))) (by decide)) (jP (jX (qlg hVq (by decide) ((t.getD k tz).b.toNat))) (by decide)); rw [divR_ne (hf.up.dz k (uH hlt0) hop), divC_ne (hf.up.dz k (uH hlt0) hop)] at h; exact h))<|wM<|wE vP<|wE vP<|wH (hc := by kernel_rfl) (uU 4 qA qO)<|wT (qM jO)<|wM<|wZ) ?_
          refine jB<|jB<|kx [(120, (vb false))] [] (zM<|zE (xL false nR)<|zZ) ?_
          refine kZ ?_
          refine jD<|kx [] [(3, some (bx (jH (jM (((vU xs t k).getD ((t.getD k tz).a.toNat) 0) / ((vU xs t k).getD ((t.getD k tz).b.toNat) 0))))))] (zR (kP jO)<|zT (qM jO)<|zZ) ?_
          refine kH (wk (l := [(1, (vl 45 4 jH (List.map jM xs))), (4, (.ref 0 0)), (7, (.own 1 45 4 o.length)), (10, (.ref 3 0)), (26, (vl 83 7 jS t)), (27, (jN t.length)), (28, (jN k))]) (b := [(0, some y1), (1, some (qQ jH o)), (3, some (bx (jH (jM (((vU xs t k).getD ((t.getD k tz).a.toNat) 0) / ((vU xs t k).getD ((t.getD k tz).b.toNat) 0))))))])) ?_
          refine kf [(7, (.own 1 45 4 ((o ++ [(jM (((vU xs t k).getD ((t.getD k tz).a.toNat) 0) / ((vU xs t k).getD ((t.getD k tz).b.toNat) 0)))]).length)))] [(1, some (qQ jH (o ++ [(jM (((vU xs t k).getD ((t.getD k tz).a.toNat) 0) / ((vU xs t k).getD ((t.getD k tz).b.toNat) 0)))])))] (zM<|zR (kP jO)<|zE (gN qN qA qO)<|zAS jH o [(jM (((vU xs t k).getD ((t.getD k tz).a.toNat) 0) / ((vU xs t k).getD ((t.getD k tz).b.toNat) 0)))] rfl qN qA fF<|zM<|zF) ?_
          refine kx [(28, (jN (k + 1)))] [] (zE (vG (k + 1))<|zM<|zZ) ?_
          exact ⟨(k + 1, o ++ [jM (((vU xs t k).getD ((t.getD k tz).a.toNat) 0) / ((vU xs t k).getD ((t.getD k tz).b.toNat) 0))]), wk, ⟨by have := uH hlt0; omega, by rw [ho]; exact vU_nx (vV_5 hop)⟩, (by first|omega|(dsimp only;omega))⟩
        ·replace h8 := ne_of_beq_false h8
         have hop : (t.getD k tz).op = 0 := by
          have := hN.op
          omega
         have hlt := hf.lt hk (show k < t.length by omega) (by rw [hop]; decide)
         refine jD<|kf [(7, (.own 1 45 4 ((o ++ [(t.getD k tz).n]).length)))] [(1, some (qQ jH (o ++ [(t.getD k tz).n])))] (zM<|zR (kP jO)<|zE (gN qN qA qO)<|zAS jH o [(t.getD k tz).n] rfl qN qA fF<|zM<|zF) ?_
         refine kx [(28, (jN (k + 1)))] [] (zE (vG (k + 1))<|zM<|zZ) ?_
         exact ⟨(k + 1, o ++ [(t.getD k tz).n]), wk, ⟨by omega, by rw [ho]; exact vU_nc (vV_0 hop) (hN.con hop)⟩, (by first|omega|(dsimp only;omega))⟩
 ·replace h1 := vB h1
  refine kC<|jB<|kx [(5, (jN 0))] [(0, some (bx (jH (o.getD (o.length - 1) y2))))] (zM<|zM<|zE (oLo qN)<|zE (oSb (o.length - 1))<|zE (oXO qN (o.length - 1))<|zR (oLA jO (o.length - 1) y2)<|zT (qM jO)<|zM<|zZ) ?_
  refine jE ⟨_, (kU (cs := (bx (jH (o.getD (o.length - 1) kW)))) (d := (jH (o.getD (o.length - 1) kW))) rfl rfl jO rfl rfl (.tmp (d := (.val (.int .i64 (((0 : Nat) : Int))))) rfl .nil)), ?_⟩
  obtain rfl : k = t.length := by omega
  obtain rfl : k0 = t.length := by omega
  rw [hol, hget _ (show t.length - 1 < t.length by omega), vlR_y, vlC_y]; rfl
theorem u_val (t : List kK) (ht : TnsOk 1048576 t) (xs : List Rat) (hx : ∀ q ∈ xs, QL q 1048576) (hr : VRun xs t) (hxb : xs.length ≤ 1000000) : jT Tryz.prog 60 [(.sl 83 7 (List.map jS t)), (.sl 45 4 (List.map jH (List.map jM xs)))] (.tup [(jH (jM (fX xs t))), (.val (.int .i64 (((0 : Nat) : Int))))]) := by
 have h := u_valU t ht xs hx t.length hr.fin hxb
 rw [vlR_y, vlC_y] at h
 exact h
theorem u_valF (t : List kK) (ht : TnsOk 1048576 t) (xs : List Rat) (hx : ∀ q ∈ xs, QL q 1048576) (hfe : ∃ k, VFail xs t k) (hxb : xs.length ≤ 1000000) : jT Tryz.prog 60 [(.sl 83 7 (List.map jS t)), (.sl 45 4 (List.map jH (List.map jM xs)))] (.tup [(jH kW), (.val (.int .i64 (((14 : Nat) : Int))))]) := by
 obtain ⟨k, hf⟩ := hfe
 have h := u_valU t ht xs hx k hf.fin hxb
 rw [(hf.fin.no2 hf.hk).1, (hf.fin.no2 hf.hk).2] at h
 exact h
theorem cb59 : callB Tryz.prog 59 = true := by kernel_rfl
theorem cb61 : callB Tryz.prog 61 = true := by kernel_rfl
theorem cb122 : callB Tryz.prog 122 = true := by kernel_rfl
theorem u_away (a : List Int) (b : List Int) (xs : List Rat) (hx : ∀ q ∈ xs, QL q 3) (ha : okL ((xs.length : Nat) : Int) a.length a) (hb : okL ((xs.length : Nat) : Int) a.length b) (hxb : xs.length ≤ 1000000) (hal : a.length ≤ 64) : jT Tryz.prog 59 [(.sl 3 1 (List.map jI a)), (.sl 3 1 (List.map jI b)), (.sl 45 4 (List.map jH (List.map jM xs)))] (.sl 45 4 (List.map jH (List.map jM (cJ xs a b)))) := by
 have hbl := hb.1
 refine jJ Tryz.func59 rfl cb59 rfl ?_
 show qR _ _ _ _ ⟨[(0, (vl 3 1 jI a)), (1, (vl 3 1 jI b)), (2, (vl 45 4 jH (List.map jM xs)))], []⟩
 refine jB<|kx [] [] (zE (mP 45 4)<|zZ) ?_
 refine jB<|kx [(7, (.own 0 45 4 0))] [(0, some (qQ jH []))] (zN (oBo 0 qN qA qO)<|zM<|zZ) ?_
 refine jB<|jB<|kx [(11, (jN a.length)), (12, (jN 0))] [] (zM<|zE (vX qP)<|zM<|zZ) ?_
 refine jG<|kI (α := Nat × List kD) (fun (i, o) => ⟨[(0, (vl 3 1 jI a)), (1, (vl 3 1 jI b)), (2, (vl 45 4 jH (List.map jM xs))), (7, (.own 0 45 4 o.length)), (11, (jN a.length)), (12, (jN i))], [(0, some (qQ jH o))]⟩) (fun (i, o) => i ≤ a.length ∧ o = (List.range i).map (fun j => jM (dfV xs a b j))) (fun (i, o) => a.length - i) (0, []) wk ⟨Nat.zero_le _, rfl⟩ ?_
 rintro ⟨i, o⟩ ⟨hi, ho⟩
 have hol : o.length = i := by rw [ho]; simp
 refine jB<|kx [(13, (vb (decide (((i : Nat) : Int) < ((a.length : Nat) : Int)))))] [] (zE vZ<|zZ) ?_
 refine jB<|jF rfl (fun h1 => ?_) (fun h1 => ?_)
 ·replace h1 := uH h1
  obtain ⟨a1, a2⟩ := ha.2 i (by omega)
  obtain ⟨b1, b2⟩ := hb.2 i (by omega)
  refine jD<|jB<|jG<|jB<|kx [(8, (jN i))] [] (zM<|zM<|zZ) ?_
  refine kd [(7, (.own 1 45 4 ((o ++ [(jM ((xs.getD (((b.getD i 0)).toNat) 0) - (xs.getD (((a.getD i 0)).toNat) 0)))]).length)))] [(1, some (qQ jH (o ++ [(jM ((xs.getD (((b.getD i 0)).toNat) 0) - (xs.getD (((a.getD i 0)).toNat) 0)))]))), (0, none)] mo (wM<|wM<|wM<|wM<|wE (zU qP i (0 : Int))<|wE (xI yV)<|wE (oXm qN jM (((b.getD i 0)).toNat) 0)<|wE (dM jO)<|wM<|wM<|wM<|wE (zU qP i (0 : Int))<|wE (xI yV)<|wE (oXm qN jM (((a.getD i 0)).toNat) 0)<|wE (dM jO)<|wE (jZ (g_sub (jM (xs.getD (((b.getD i 0)).toNat) 0)) (jM (xs.getD (((a.getD i 0)).toNat) 0)) (xs.getD (((b.getD i 0)).toNat) 0) (xs.getD (((a.getD i 0)).toNat) 0) (jP (jX (xN hx (by decide) (((b.getD i 0)).toNat))) (by decide)) (jP (jX (xN hx (by decide) (((a.getD i 0)).toNat))) (by decide))))<|wE (gN qN qA qO)<|wAS (k := 0) 1 jH o [(jM ((xs.getD (((b.getD i 0)).toNat) 0) - (xs.getD (((a.getD i 0)).toNat) 0)))] rfl qN qA fF<|wM<|wZ) ?_
  refine kH (sim_ren (S' := [(0, (vl 3 1 jI a)), (1, (vl 3 1 jI b)), (2, (vl 45 4 jH (List.map jM xs))), (7, (.own 0 45 4 ((o ++ [(jM ((xs.getD (((b.getD i 0)).toNat) 0) - (xs.getD (((a.getD i 0)).toNat) 0)))]).length))), (11, (jN a.length)), (12, (jN i))]) (B' := [(0, some (qQ jH (o ++ [(jM ((xs.getD (((b.getD i 0)).toNat) 0) - (xs.getD (((a.getD i 0)).toNat) 0)))])))]) 0 1) ?_
  refine kx [(12, (jN (i + 1)))] [] (zE (vG (i + 1))<|zM<|zZ) ?_
  exact ⟨(i + 1, o ++ [jM ((xs.getD ((b.getD i 0).toNat) 0) - (xs.getD ((a.getD i 0).toNat) 0))]), wk, ⟨by omega, by rw [ho]; exact aw_step xs a b i⟩, (by first|omega|(dsimp only;omega))⟩
 ·replace h1 := vB h1
  refine kC<|jB<|kx [(6, (.own 0 45 4 o.length))] [] (zM<|zM<|zZ) ?_
  refine kH (vK (t := 6) (k := 0) (es := List.map jH o) rfl rfl (zI _ _ (fun _ => rfl)) (uG _ _ rfl) (yW jH o (fun _ => rfl) rfl)) ?_
  refine jE ⟨_, (.tmp (d := (.sl 45 4 (List.map jH o))) rfl .nil), ?_⟩
  obtain rfl : i = a.length := by omega
  rw [ho, show List.map jM (cJ xs a b) = (List.range a.length).map (fun j => jM (dfV xs a b j)) from (by unfold cJ; rw [List.map_map]; rfl)]; rfl
theorem u_Dot (u : List Rat) (hu : ∀ q ∈ u, QL q 7) (v : List Rat) (hv : ∀ q ∈ v, QL q 7) (hl : u.length ≤ 64) (hlv : v.length = u.length) : jT Tryz.prog 122 [(.sl 45 4 (List.map jH (List.map jM u))), (.sl 45 4 (List.map jH (List.map jM v)))] (.tup [(jH (jM (dtV u v u.length))), (.val (.int .i64 (((0 : Nat) : Int))))]) := by
 have hun : ((List.map jM u).length) = u.length := List.length_map _
 have hvn : ((List.map jM v).length) = v.length := List.length_map _
 refine jJ Tryz.func122 rfl cb122 rfl ?_
 show qR _ _ _ _ ⟨[(0, (vl 45 4 jH (List.map jM u))), (1, (vl 45 4 jH (List.map jM v)))], []⟩
 refine jB<|kx [(4, (.ref 0 0))] [(0, some (bx (jH kW)))] (zN (uU 0 qA qO)<|zM<|zZ) ?_
 refine jB<|jB<|kx [(12, (vb false))] [] (zM<|zE (oLn qN u.length)<|zM<|zE (oLn qN v.length)<|zE (xL false nR (by exact bne_eq_false_iff_eq.2 (congrArg (fun z : Nat => (z : Int)) hlv.symm)))<|zZ) ?_
 refine kZ ?_
 refine jD<|jB<|kx [(6, (.ref 1 0))] [(1, some (bx (jH (jM ((0 : Int) : Rat)))))] (zE (jZ (zV 0 (by decide) (by decide)))<|zN (uU 1 qA qO)<|zT (qM jO)<|zZ) ?_
 refine jB<|jB<|kx [(7, (jN 0))] [] (zM<|zZ) ?_
 refine jG<|kI (α := Nat × Rat) (fun (i, s) => ⟨[(0, (vl 45 4 jH (List.map jM u))), (1, (vl 45 4 jH (List.map jM v))), (4, (.ref 0 0)), (6, (.ref 1 0)), (7, (jN i))], [(0, some (bx (jH kW))), (1, some (bx (jH (jM s))))]⟩) (fun (i, s) => i ≤ u.length ∧ s = dtV u v i) (fun (i, s) => u.length - i) (0, 0) wk ⟨Nat.zero_le _, rfl⟩ ?_
 rintro ⟨i, s⟩ ⟨hi, hs⟩
 have hql : QL s 2000 := hs ▸ xP hu hv (show i ≤ 64 by omega)
 refine jB<|jB<|kx [(18, (vb (decide (((i : Nat) : Int) < ((u.length : Nat) : Int)))))] [] (zM<|zM<|zE (oLn qN u.length)<|zE vZ<|zZ) ?_
 refine jF rfl (fun h1 => ?_) (fun h1 => ?_)
 ·replace h1 := uH h1
  refine jD<|jB<|jG<|kd [] [(1, some (bx (jH (jM (s + ((u.getD i 0) * (v.getD i 0)))))))] mo (wR (kP jO)<|wM<|wM<|wE (oXm qN jM i 0)<|wE (dM jO)<|wM<|wM<|wE (oXm qN jM i 0)<|wE (dM jO)<|wE (jZ (g_mul (jM (u.getD i 0)) (jM (v.getD i 0)) (u.getD i 0) (v.getD i 0) (jP (jX (xN hu (by decide) i)) (by decide)) (jP (jX (xN hv (by decide) i)) (by decide))))<|wE (jZ (g_add (jM s) (jM ((u.getD i 0) * (v.getD i 0))) s ((u.getD i 0) * (v.getD i 0)) (jP (jX hql) (by decide)) (jP (jX (qF (k := 14) (xN hu (by decide) i) (xN hv (by decide) i) (by decide))) (by decide))))<|wT (qM jO)<|wZ) ?_
  refine kx [(7, (jN (i + 1)))] [] (zM<|zE (vG (i + 1))<|zM<|zZ) ?_
  exact ⟨(i + 1, s + (u.getD i 0) * (v.getD i 0)), wk, ⟨by omega, by rw [hs]; rfl⟩, (by first|omega|(dsimp only;omega))⟩
 ·replace h1 := vB h1
  refine kC<|jB<|kx [(5, (jN 0))] [(0, some (bx (jH (jM s))))] (zR (kP jO)<|zT (qM jO)<|zM<|zZ) ?_
  refine jE ⟨_, (kU (cs := (bx (jH (jM s)))) (d := (jH (jM s))) rfl rfl jO rfl rfl (.tmp (d := (.val (.int .i64 (((0 : Nat) : Int))))) rfl .nil)), ?_⟩
  obtain rfl : i = u.length := by omega
  rw [hs]; rfl
theorem u_dot (u : List Rat) (hu : ∀ q ∈ u, QL q 7) (v : List Rat) (hv : ∀ q ∈ v, QL q 7) (hl : u.length ≤ 64) (hlv : v.length = u.length) : jT Tryz.prog 61 [(.sl 45 4 (List.map jH (List.map jM u))), (.sl 45 4 (List.map jH (List.map jM v)))] (jH (jM (dtV u v u.length))) := by
 refine jJ Tryz.func61 rfl cb61 rfl ?_
 show qR _ _ _ _ ⟨[(0, (vl 45 4 jH (List.map jM u))), (1, (vl 45 4 jH (List.map jM v)))], []⟩
 refine jB<|kx [(4, (.ref 0 0))] [(0, some (bx (jH kW)))] (zN (uU 0 qA qO)<|zZ) ?_
 refine jB<|kx [(5, (.ref 1 0))] [(1, some (bx (jH (jM (dtV u v u.length)))))] (zM<|zM<|zE (jZ (u_Dot u hu v hv hl hlv))<|zM<|zE vP<|zE vP<|zN (uU 1 qA qO)<|zT (qM jO)<|zM<|zZ) ?_
 refine jB<|kx [] [(0, some (bx (jH (jM (dtV u v u.length)))))] (zR (kP jO)<|zT (qM jO)<|zZ) ?_
 refine jE ⟨_, (kU (cs := (bx (jH (jM (dtV u v u.length))))) (d := (jH (jM (dtV u v u.length)))) rfl rfl jO rfl rfl .nil), ?_⟩
 rfl
structure RPlc where
 a : List Int
 b : List Int
 c : List Int
 flat : A3 (A2 Int)
def cQ (x : RPlc) : kA := .agg [.sl 3 1 (x.a.map jI), .sl 3 1 (x.b.map jI), .sl 3 1 (x.c.map jI), .val (.int .i64 x.flat.a0.a0), .val (.int .i64 x.flat.a0.a1), .val (.int .i64 x.flat.a1.a0), .val (.int .i64 x.flat.a1.a1), .val (.int .i64 x.flat.a2.a0), .val (.int .i64 x.flat.a2.a1)]
theorem dU {xs : List Rat} {a b : List Int} {j : Nat} (h : j < a.length) : j < (cJ xs a b).length := by rw [awL_len]; exact h
end Go.Proofs.YtnajallgoaiahaaGreatDoor
