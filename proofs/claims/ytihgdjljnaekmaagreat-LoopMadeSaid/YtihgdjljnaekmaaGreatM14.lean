/- Part 14 of a proof: rules, plain facts, and functions walked. -/
import Derived.Test.YtihgdjljnaekmaaGreatM13
set_option linter.unusedVariables false
set_option linter.unusedSimpArgs false
namespace Go.Fid
def up : SL → SL → SL
  | [], S => S
  | p :: D, S => p :: up D S
def upB : BS → BS → BS
  | [], S => S
  | p :: D, S => p :: upB D S
def inS (D : SL) (t : Nat) : Bool := D.any fun p => Nat.beq p.1 t
def inB (D : BS) (t : Nat) : Bool := D.any fun p => Nat.beq p.1 t
def isJ : SV → Bool
  | .junk => true
  | _ => false
theorem isJ_eq {x : SV} (h : isJ x = true) : x = .junk := by cases x <;> first | rfl | cases h
theorem sget_up (D S : SL) (t : Nat) : sget (up D S) t = bif inS D t then sget D t else sget S t := by
  induction D with
  | nil => rfl
  | cons p D ih =>
    obtain ⟨j, x⟩ := p
    show sget ((j, x) :: up D S) t = bif (Nat.beq j t || inS D t) then _ else _
    rw [sget_cons, sget_cons, ih]
    by_cases h : j = t
    · subst h; simp
    · have : Nat.beq j t = false := by rw [← Bool.not_eq_true]; exact fun e => h (Nat.eq_of_beq_eq_true e)
      rw [if_neg h, if_neg h, this, Bool.false_or]
theorem bget_up (D S : BS) (t : Nat) : bget (upB D S) t = bif inB D t then bget D t else bget S t := by
  induction D with
  | nil => rfl
  | cons p D ih =>
    obtain ⟨j, x⟩ := p
    show bget ((j, x) :: upB D S) t = bif (Nat.beq j t || inB D t) then _ else _
    rw [bget_cons, bget_cons, ih]
    by_cases h : j = t
    · subst h; simp
    · have : Nat.beq j t = false := by rw [← Bool.not_eq_true]; exact fun e => h (Nat.eq_of_beq_eq_true e)
      rw [if_neg h, if_neg h, this, Bool.false_or]
theorem sget_out {D : SL} {t : Nat} (h : inS D t = false) : sget D t = .junk := by
  induction D with
  | nil => rfl
  | cons p D ih =>
    obtain ⟨j, x⟩ := p
    simp only [inS, List.any_cons, Bool.or_eq_false_iff] at h
    rw [sget_cons, if_neg (fun e => by subst e; simp at h), ih h.2]
theorem up_app (W S : SL) : up W S = W ++ S := by
  induction W with
  | nil => rfl
  | cons p W ih => show p :: up W S = p :: (W ++ S); rw [ih]
theorem upB_app (W S : BS) : upB W S = W ++ S := by
  induction W with
  | nil => rfl
  | cons p W ih => show p :: upB W S = p :: (W ++ S); rw [ih]
structure FinS (S0 D Sf : SL) : Prop where
  d : D.map (fun p => sget Sf p.1) = D.map (·.2)
  k : Sf.drop (Sf.length - S0.length) = S0
  j : ((Sf.take (Sf.length - S0.length)).all fun p => inS D p.1 || isJ (sget S0 p.1)) = true
structure FinB (B0 E Bf : BS) : Prop where
  d : (E.filter fun p => p.2.isSome).map (fun p => bget Bf p.1) = (E.filter fun p => p.2.isSome).map (·.2)
  k : Bf.drop (Bf.length - B0.length) = B0
  j : ((Bf.take (Bf.length - B0.length)).all fun p => inB E p.1) = true
structure FinF (S0 D Sf : SL) : Prop where
  d : D.map (fun p => sget Sf p.1) = D.map (·.2)
  j : ((S0.filter fun p => !inS D p.1).map fun p => sget S0 p.1) = ((S0.filter fun p => !inS D p.1).map fun p => sget Sf p.1)
theorem FinS.get {S0 D Sf : SL} (h : FinS S0 D Sf) (t : Nat) : sget (up D S0) t = .junk ∨ sget (up D S0) t = sget Sf t := by
  rw [sget_up]
  cases hD : inS D t with
  | true => exact sget_eq_or h.d t
  | false =>
    rw [cond_false]
    have e : Sf = up (Sf.take (Sf.length - S0.length)) S0 := by rw [up_app]; conv => lhs; rw [← List.take_append_drop (Sf.length - S0.length) Sf, h.k]
    cases hW : inS (Sf.take (Sf.length - S0.length)) t with
    | false => right; conv => rhs; rw [e, sget_up, hW, cond_false]
    | true =>
      left
      simp only [inS, List.any_eq_true] at hW
      obtain ⟨p, hp, hpt⟩ := hW
      have := List.all_eq_true.1 h.j p hp
      rw [Nat.eq_of_beq_eq_true hpt, hD, Bool.false_or] at this
      exact isJ_eq this
theorem FinF.get {S0 D Sf : SL} (h : FinF S0 D Sf) (t : Nat) : sget (up D S0) t = .junk ∨ sget (up D S0) t = sget Sf t := by
  rw [sget_up]
  cases hD : inS D t with
  | true => exact sget_eq_or h.d t
  | false =>
    rw [cond_false]
    cases hS : inS S0 t with
    | false => left; exact sget_out hS
    | true =>
      right
      simp only [inS, List.any_eq_true] at hS
      obtain ⟨p, hp, hpt⟩ := hS
      have hpt := Nat.eq_of_beq_eq_true hpt
      subst hpt
      exact List.map_inj_left.1 h.j p (List.mem_filter.2 ⟨hp, by rw [hD]; rfl⟩)
theorem FinB.get {B0 E Bf : BS} (h : FinB B0 E Bf) {k : Nat} {c : List SV} (hc : bget (upB E B0) k = some c) : bget Bf k = some c := by
  rw [bget_up] at hc
  cases hD : inB E k with
  | true =>
    rw [hD, cond_true] at hc
    exact List.map_inj_left.1 h.d (k, some c) (List.mem_filter.2 ⟨bget_mem hc, rfl⟩)
  | false =>
    rw [hD, cond_false] at hc
    have e : Bf = upB (Bf.take (Bf.length - B0.length)) B0 := by rw [upB_app]; conv => lhs; rw [← List.take_append_drop (Bf.length - B0.length) Bf, h.k]
    cases hW : inB (Bf.take (Bf.length - B0.length)) k with
    | false => rw [e, bget_up, hW, cond_false]; exact hc
    | true =>
      simp only [inB, List.any_eq_true] at hW
      obtain ⟨p, hp, hpt⟩ := hW
      have := List.all_eq_true.1 h.j p hp
      rw [Nat.eq_of_beq_eq_true hpt, hD] at this
      cases this
theorem sim_get {S B S' B'} (h1 : ∀ t, sget S' t = .junk ∨ sget S' t = sget S t) (h2 : ∀ k c, bget B' k = some c → bget B k = some c) : SimImp ⟨S, B⟩ ⟨S', B'⟩ := fun C a w ⟨D, β, hs⟩ =>
  ⟨D, β, hs.base, ⟨fun k cs hk => hs.mem.ok k cs (h2 _ _ hk), fun k1 k2 c1 c2 q1 q2 => hs.mem.inj k1 k2 c1 c2 (h2 _ _ q1) (h2 _ _ q2)⟩, fun k c hk => hs.high k c (h2 _ _ hk), fun t => by
    rcases h1 t with h | h
    · show RepS w D β _ (sget S' t)
      rw [h]; trivial
    · show RepS w D β _ (sget S' t)
      rw [h]; exact hs.slots t⟩
theorem wk {st : PS} {l : SL} {b : BS} (h1 : l.map (fun p => sget st.sl p.1) = l.map (·.2) := by kernel_rfl) (h2 : b.map (fun p => bget st.bs p.1) = b.map (·.2) := by kernel_rfl) : SimImp st ⟨l, b⟩ := weak h1 h2
def SK (P : Program) (n : Fr) (ops : Array Oper) (K : SL → BS → Prop) (S : SL) (B : BS) (l : List Oper) : Prop := ∃ st1, Steps P n ops ⟨S, B⟩ l st1 ∧ K st1.sl st1.bs
def DK (P : Program) (n : Fr) (ops : Array Oper) (K : SL → BS → Prop) (news : List Nat) (acc0 : List (List Nat × List Nat)) (S : SL) (B : BS) (l : List Oper) : Prop :=
  ∃ st1 acc, DSteps P n ops news ⟨S, B⟩ l acc st1 ∧ orderB ops (acc0 ++ acc) = true ∧ K st1.sl st1.bs
def KS (S0 : SL) (B0 : BS) (D : SL) (E : BS) (Sf : SL) (Bf : BS) : Prop := FinS S0 D Sf ∧ FinB B0 E Bf
def KF (S0 : SL) (B0 : BS) (D : SL) (E : BS) (Sf : SL) (Bf : BS) : Prop := FinF S0 D Sf ∧ FinB B0 E Bf
def dO (o : Oper) : Tmp := o.dst.getD 0
def goK (n : Fr) (ops : Array Oper) (S : SL) (o : Oper) : Bool := match o.dst with
  | some d => match guardSt ops S o with
    | some true => dstB n (some d)
    | _ => false
  | none => false
theorem goK_spec {n : Fr} {ops : Array Oper} {S : SL} {o : Oper} (h : goK n ops S o = true) : o.dst = some (dO o) ∧ guardSt ops S o = some true ∧ dstB n (some (dO o)) = true := by
  unfold goK at h
  unfold dO
  split at h
  · rename_i d hd
    split at h
    · rename_i hg; rw [hd]; exact ⟨rfl, hg, h⟩
    · cases h
  · cases h
def goF (n : Fr) (ops : Array Oper) (S : SL) (o : Oper) : Bool := match o.dst with
  | some d => match guardSt ops S o with
    | some false => dstB n (some d)
    | _ => false
  | none => false
theorem goF_spec {n : Fr} {ops : Array Oper} {S : SL} {o : Oper} (h : goF n ops S o = true) : o.dst = some (dO o) ∧ guardSt ops S o = some false ∧ dstB n (some (dO o)) = true := by
  unfold goF at h
  unfold dO
  split at h
  · rename_i d hd
    split at h
    · rename_i hg; rw [hd]; exact ⟨rfl, hg, h⟩
    · cases h
  · cases h
def goT (ops : Array Oper) (S : SL) (o : Oper) : Bool := match o.dst with
  | some _ => false
  | none => match guardSt ops S o with
    | some true => true
    | _ => false
theorem goT_spec {ops : Array Oper} {S : SL} {o : Oper} (h : goT ops S o = true) : o.dst = none ∧ guardSt ops S o = some true := by
  unfold goT at h
  split at h
  · cases h
  · rename_i hd
    split at h
    · rename_i hg; exact ⟨hd, hg⟩
    · cases h
def mvV (S : SL) (o : Oper) : SV := match o.op with
  | .move x => ev (sget S) x
  | .assign x => ev (sget S) x
  | _ => .junk
def mvK (o : Oper) : Bool := match o.op with
  | .move _ => true
  | .assign _ => true
  | _ => false
def ROk (P : Program) (o : Oper) (S : SL) (B : BS) (k : Nat) (x : SV) : Prop := ∃ cs, EOk P o (sget S) [(k, cs)] x ∧ bget B k = some cs
def TK (P : Program) (o : Oper) (S : SL) (B : BS) (k : Nat) (cs : List SV) : Prop := ∃ old, TOk P o (sget S) k old cs ∧ bget B k = some old
section
variable {P : Program} {n : Fr} {ops : Array Oper} {K : SL → BS → Prop} {S : SL} {B : BS} {l : List Oper} {o : Oper} {news : List Nat} {acc0 : List (List Nat × List Nat)}
theorem mv_ok (h : mvK o = true) : EOk P o (sget S) [] (mvV S o) := by
  unfold mvK at h
  unfold mvV
  split at h
  · rename_i x hx; exact e_move (.inl hx)
  · rename_i x hx; exact e_move (.inr hx)
  · cases h
theorem zE {x : SV} (h : EOk P o (sget S) [] x) (r : SK P n ops K ((dO o, x) :: S) B l) (g : goK n ops S o = true := by kernel_rfl) : SK P n ops K S B (o :: l) := by
  obtain ⟨st1, r1, r2⟩ := r
  obtain ⟨hd, hg, hb⟩ := goK_spec g
  have hs := Step.e (P := P) (n := n) (ops := ops) (st := ⟨S, B⟩) (o := o) h hg (by rw [hd]; exact hb) (by simp)
  rw [hd] at hs
  exact ⟨st1, .cons hs r1, r2⟩
theorem zM (r : SK P n ops K ((dO o, mvV S o) :: S) B l) (h : mvK o = true := by kernel_rfl) (g : goK n ops S o = true := by kernel_rfl) : SK P n ops K S B (o :: l) := zE (mv_ok h) r g
theorem zR {k : Nat} {x : SV} (h : ROk P o S B k x) (r : SK P n ops K ((dO o, x) :: S) B l) (g : goK n ops S o = true := by kernel_rfl) : SK P n ops K S B (o :: l) := by
  obtain ⟨st1, r1, r2⟩ := r
  obtain ⟨cs, h, hbk⟩ := h
  obtain ⟨hd, hg, hb⟩ := goK_spec g
  have hs := Step.e (P := P) (n := n) (ops := ops) (st := ⟨S, B⟩) (o := o) h hg (by rw [hd]; exact hb) (by simpa using hbk)
  rw [hd] at hs
  exact ⟨st1, .cons hs r1, r2⟩
theorem zN {k : Nat} {cs : List SV} {x : SV} (h : NOk P o (sget S) k cs x) (r : SK P n ops K ((dO o, x) :: S) ((k, some cs) :: B) l) (g : goK n ops S o = true := by kernel_rfl) (hf : freshB k ⟨S, B⟩ = true := by kernel_rfl) : SK P n ops K S B (o :: l) := by
  obtain ⟨st1, r1, r2⟩ := r
  obtain ⟨hd, hg, hb⟩ := goK_spec g
  have hs := Step.n (P := P) (n := n) (ops := ops) (st := ⟨S, B⟩) (o := o) h hg (by rw [hd]; exact hb) hf
  rw [hd] at hs
  exact ⟨st1, .cons hs r1, r2⟩
theorem zH {k : Nat} {cs : List SV} {x : SV} (h : NOk P o (sget S) k cs x) (r : SK P n ops K ((dO o, x) :: S) ((k, some cs) :: B) l) (g : goK n ops S o = true := by kernel_rfl) (h1 : (S.all fun p => !p.2.names k) = true := by kernel_rfl)
    (h2 : FrB k B := by repeat first | exact frb_nil _ | refine frb_map rfl ?_ | refine frb_d rfl ?_ | refine frb_cs rfl rfl ?_ | refine frb_none rfl ?_) : SK P n ops K S B (o :: l) := zN h r g (freshB_of h1 h2)
theorem zT {k : Nat} {cs : List SV} (h : TK P o S B k cs) (r : SK P n ops K S ((k, some cs) :: B) l) (g : goT ops S o = true := by kernel_rfl) : SK P n ops K S B (o :: l) := by
  obtain ⟨st1, r1, r2⟩ := r
  obtain ⟨old, h, hb⟩ := h
  obtain ⟨hd, hg⟩ := goT_spec g
  have hs := Step.t (P := P) (n := n) (ops := ops) (st := ⟨S, B⟩) (o := o) h hg (by rw [hd]; rfl) hb
  rw [hd] at hs
  exact ⟨st1, .cons hs r1, r2⟩
theorem zK (r : SK P n ops K ((dO o, .d (.tup [])) :: S) B l) (g : goF n ops S o = true := by kernel_rfl) : SK P n ops K S B (o :: l) := by
  obtain ⟨st1, r1, r2⟩ := r
  obtain ⟨hd, hg, hb⟩ := goF_spec g
  have hs := Step.skip (P := P) (n := n) (ops := ops) (st := ⟨S, B⟩) (o := o) hg (by rw [hd]; exact hb)
  rw [hd] at hs
  exact ⟨st1, .cons hs r1, r2⟩
theorem zX {S1 : SL} {B1 : BS} (h : ∀ (C : Ctx) (a : Act) (w : World) (Q : Exit → Act → World → Prop), C.n = n → Sim C a w ⟨S, B⟩ → o.wp P a w (fun a' w' => Sim C a' w' ⟨S1, B1⟩) Q) (hg : guardSt ops S o = some true) (r : SK P n ops K S1 B1 l) : SK P n ops K S B (o :: l) := by
  obtain ⟨st1, r1, r2⟩ := r
  exact ⟨st1, .cons (.sem h hg) r1, r2⟩
section
variable {S0 : SL} {B0 : BS} {D : SL} {E : BS}
theorem zZ (h1 : D.map (fun p => sget S p.1) = D.map (·.2) := by kernel_rfl) (h2 : S.drop (S.length - S0.length) = S0 := by kernel_rfl) (h3 : ((S.take (S.length - S0.length)).all fun p => inS D p.1 || isJ (sget S0 p.1)) = true := by kernel_rfl)
    (h4 : (E.filter fun p => p.2.isSome).map (fun p => bget B p.1) = (E.filter fun p => p.2.isSome).map (·.2) := by kernel_rfl) (h5 : B.drop (B.length - B0.length) = B0 := by kernel_rfl) (h6 : ((B.take (B.length - B0.length)).all fun p => inB E p.1) = true := by kernel_rfl) : SK P n ops (KS S0 B0 D E) S B [] :=
  ⟨⟨S, B⟩, .nil, ⟨h1, h2, h3⟩, ⟨h4, h5, h6⟩⟩
theorem zF (h1 : D.map (fun p => sget S p.1) = D.map (·.2) := by kernel_rfl) (h2 : ((S0.filter fun p => !inS D p.1).map fun p => sget S0 p.1) = ((S0.filter fun p => !inS D p.1).map fun p => sget S p.1) := by kernel_rfl)
    (h4 : (E.filter fun p => p.2.isSome).map (fun p => bget B p.1) = (E.filter fun p => p.2.isSome).map (·.2) := by kernel_rfl) (h5 : B.drop (B.length - B0.length) = B0 := by kernel_rfl) (h6 : ((B.take (B.length - B0.length)).all fun p => inB E p.1) = true := by kernel_rfl) : SK P n ops (KF S0 B0 D E) S B [] :=
  ⟨⟨S, B⟩, .nil, ⟨h1, h2⟩, ⟨h4, h5, h6⟩⟩
theorem wZ (h1 : D.map (fun p => sget S p.1) = D.map (·.2) := by kernel_rfl) (h2 : S.drop (S.length - S0.length) = S0 := by kernel_rfl) (h3 : ((S.take (S.length - S0.length)).all fun p => inS D p.1 || isJ (sget S0 p.1)) = true := by kernel_rfl)
    (h4 : (E.filter fun p => p.2.isSome).map (fun p => bget B p.1) = (E.filter fun p => p.2.isSome).map (·.2) := by kernel_rfl) (h5 : B.drop (B.length - B0.length) = B0 := by kernel_rfl) (h6 : ((B.take (B.length - B0.length)).all fun p => inB E p.1) = true := by kernel_rfl) (h7 : orderB ops acc0 = true := by kernel_rfl) : DK P n ops (KS S0 B0 D E) news acc0 S B [] :=
  ⟨⟨S, B⟩, [], .nil, by simpa using h7, ⟨h1, h2, h3⟩, ⟨h4, h5, h6⟩⟩
theorem kx {id : Nat} {Q : Exit → PS → Prop} (D : SL) (E : BS) (h : SK P n l.toArray (KS S0 B0 D E) S0 B0 l) (hq : Q .normal ⟨up D S0, upB E B0⟩) (hp : l.all plainB = true := by kernel_rfl) : PWp P n (.region id l.toArray false) Q ⟨S0, B0⟩ := fun C a w N hn hs => by
  obtain ⟨st1, h1, h2, h3⟩ := h
  subst hn
  exact wpIn_region_lit (steps_sound (C := C) h1 hp rfl (fun a' w' hs' => ⟨_, sim_get h2.get (fun k c => h3.get) C a' w' hs', hq⟩) hs)
theorem kf {id : Nat} {Q : Exit → PS → Prop} (D : SL) (E : BS) (h : SK P n l.toArray (KF S0 B0 D E) S0 B0 l) (hq : Q .normal ⟨up D S0, upB E B0⟩) (hp : l.all plainB = true := by kernel_rfl) : PWp P n (.region id l.toArray false) Q ⟨S0, B0⟩ := fun C a w N hn hs => by
  obtain ⟨st1, h1, h2, h3⟩ := h
  subst hn
  exact wpIn_region_lit (steps_sound (C := C) h1 hp rfl (fun a' w' hs' => ⟨_, sim_get h2.get (fun k c => h3.get) C a' w' hs', hq⟩) hs)
theorem kd {id : Nat} {Q : Exit → PS → Prop} (D : SL) (E : BS) (hm : P.follows .mixedOrders = true) (h : DK P n l.toArray (KS S0 B0 D E) [] [] S0 B0 l) (hq : Q .normal ⟨up D S0, upB E B0⟩) (hb : backB l.toArray = true := by kernel_rfl) (hp : l.all plainB = true := by kernel_rfl) : PWp P n (.region id l.toArray true) Q ⟨S0, B0⟩ := fun C a w N hn hs => by
  obtain ⟨st1, acc, h1, h0, h2, h3⟩ := h
  subst hn
  exact wpIn_region_any hm (draw_sound (C := C) rfl (by simpa using h1) (by simpa using h0) hb (by simpa using hp) (fun a' w' hs' => ⟨_, sim_get h2.get (fun k c => h3.get) C a' w' hs', hq⟩) hs)
end
theorem wE {x : SV} (h : EOk P o (sget S) [] x) (r : DK P n ops K news (acc0 ++ [([], [])]) ((dO o, x) :: S) B l) (g : goK n ops S o = true := by kernel_rfl) (hn : clearR ops S o news x = true := by kernel_rfl) : DK P n ops K news acc0 S B (o :: l) := by
  obtain ⟨st1, acc, r1, r0, r2⟩ := r
  obtain ⟨hd, hg, hb⟩ := goK_spec g
  have hs := DStep.e (P := P) (n := n) (ops := ops) (news := news) (st := ⟨S, B⟩) (o := o) h hg (by rw [hd]; exact hb) (by simp) hn
  rw [hd] at hs
  exact ⟨st1, ([], []) :: acc, .cons hs r1, by simpa using r0, r2⟩
theorem wM (r : DK P n ops K news (acc0 ++ [([], [])]) ((dO o, mvV S o) :: S) B l) (h : mvK o = true := by kernel_rfl) (g : goK n ops S o = true := by kernel_rfl) (hn : clearR ops S o news (mvV S o) = true := by kernel_rfl) : DK P n ops K news acc0 S B (o :: l) := wE (mv_ok h) r g hn
theorem wR {k : Nat} {x : SV} (h : ROk P o S B k x) (r : DK P n ops K news (acc0 ++ [([k], [])]) ((dO o, x) :: S) B l) (g : goK n ops S o = true := by kernel_rfl) (hn : clearR ops S o news x = true := by kernel_rfl) : DK P n ops K news acc0 S B (o :: l) := by
  obtain ⟨st1, acc, r1, r0, r2⟩ := r
  obtain ⟨cs, h, hbk⟩ := h
  obtain ⟨hd, hg, hb⟩ := goK_spec g
  have hs := DStep.e (P := P) (n := n) (ops := ops) (news := news) (st := ⟨S, B⟩) (o := o) h hg (by rw [hd]; exact hb) (by simpa using hbk) hn
  rw [hd] at hs
  exact ⟨st1, ([k], []) :: acc, .cons hs r1, by simpa using r0, r2⟩
theorem wN {k : Nat} {cs : List SV} {x : SV} (h : NOk P o (sget S) k cs x) (r : DK P n ops K (k :: news) (acc0 ++ [([], [k])]) ((dO o, x) :: S) ((k, some cs) :: B) l) (g : goK n ops S o = true := by kernel_rfl) (hf : freshB k ⟨S, B⟩ = true := by kernel_rfl) (hn : clear1 news x = true := by kernel_rfl) (hc : clearL news cs = true := by kernel_rfl) : DK P n ops K news acc0 S B (o :: l) := by
  obtain ⟨st1, acc, r1, r0, r2⟩ := r
  obtain ⟨hd, hg, hb⟩ := goK_spec g
  have hs := DStep.n (P := P) (n := n) (ops := ops) (news := news) (st := ⟨S, B⟩) (o := o) h hg (by rw [hd]; exact hb) hf hn hc
  rw [hd] at hs
  exact ⟨st1, ([], [k]) :: acc, .cons hs r1, by simpa using r0, r2⟩
theorem wH {k : Nat} {cs : List SV} {x : SV} (h : NOk P o (sget S) k cs x) (r : DK P n ops K (k :: news) (acc0 ++ [([], [k])]) ((dO o, x) :: S) ((k, some cs) :: B) l) (hc : clearL news cs = true) (g : goK n ops S o = true := by kernel_rfl) (h1 : (S.all fun p => !p.2.names k) = true := by kernel_rfl)
    (h2 : FrB k B := by repeat first | exact frb_nil _ | refine frb_map rfl ?_ | refine frb_d rfl ?_ | refine frb_cs rfl rfl ?_ | refine frb_none rfl ?_) (hn : clear1 news x = true := by kernel_rfl) : DK P n ops K news acc0 S B (o :: l) := wN h r g (freshB_of h1 h2) hn hc
theorem wT {k : Nat} {cs : List SV} (h : TK P o S B k cs) (r : DK P n ops K news (acc0 ++ [([k], [k])]) S ((k, some cs) :: B) l) (g : goT ops S o = true := by kernel_rfl) (hc : clearLR ops S o news cs = true := by kernel_rfl) : DK P n ops K news acc0 S B (o :: l) := by
  obtain ⟨st1, acc, r1, r0, r2⟩ := r
  obtain ⟨old, h, hb⟩ := h
  obtain ⟨hd, hg⟩ := goT_spec g
  have hs := DStep.t (P := P) (n := n) (ops := ops) (news := news) (st := ⟨S, B⟩) (o := o) h hg (by rw [hd]; rfl) hb hc
  rw [hd] at hs
  exact ⟨st1, ([k], [k]) :: acc, .cons hs r1, by simpa using r0, r2⟩
theorem wK (r : DK P n ops K news (acc0 ++ [([], [])]) ((dO o, .d (.tup [])) :: S) B l) (g : goF n ops S o = true := by kernel_rfl) : DK P n ops K news acc0 S B (o :: l) := by
  obtain ⟨st1, acc, r1, r0, r2⟩ := r
  obtain ⟨hd, hg, hb⟩ := goF_spec g
  have hs := DStep.skip (P := P) (n := n) (ops := ops) (news := news) (st := ⟨S, B⟩) (o := o) hg (by rw [hd]; exact hb)
  rw [hd] at hs
  exact ⟨st1, ([], []) :: acc, .cons hs r1, by simpa using r0, r2⟩
end
end Go.Fid
