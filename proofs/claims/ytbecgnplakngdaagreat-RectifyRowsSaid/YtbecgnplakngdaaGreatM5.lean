/- Part 5 of a proof: rules, plain facts, and functions walked. -/
import Derived.Test.YtbecgnplakngdaaGreatM4
import Derived.Test.YtbecgnplakngdaaGreatM3
import Derived.Test.YtbecgnplakngdaaGreatChecked
import Derived.RangeFuncBox
import Derived.Shelf.Abstract
import Derived.OwnWalkIn
import Derived.TacticsInMore
import Derived.LoopNIn
import Derived.LoopIn
set_option linter.unusedVariables false
set_option linter.unusedSimpArgs false
namespace Go.Fid
def up : SL → SL → SL
  | [], S => S
  | p :: D, S => p :: up D S
def upB : BS → BS → BS
  | [], S => S
  | p :: D, S => p :: upB D S
def inS (D : SL) (t : Nat) : Bool := D.any fun p => Nat.beq p.1 t
def inB (D : BS) (t : Nat) : Bool := D.any fun p => Nat.beq p.1 t
def isJ : SV → Bool
  | .junk => true
  | _ => false
theorem isJ_eq {x : SV} (h : isJ x = true) : x = .junk := by cases x <;> first | rfl | cases h
theorem sget_up (D S : SL) (t : Nat) : qB (up D S) t = bif inS D t then qB D t else qB S t := by
  induction D with
  | nil => rfl
  | cons p D ih =>
    obtain ⟨j, x⟩ := p
    show qB ((j, x) :: up D S) t = bif (Nat.beq j t || inS D t) then _ else _
    rw [vS, vS, ih]
    by_cases h : j = t
    · subst h; simp
    · have : Nat.beq j t = false := by rw [← Bool.not_eq_true]; exact fun e => h (Nat.eq_of_beq_eq_true e)
      rw [if_neg h, if_neg h, this, Bool.false_or]
theorem bget_up (D S : BS) (t : Nat) : uJ (upB D S) t = bif inB D t then uJ D t else uJ S t := by
  induction D with
  | nil => rfl
  | cons p D ih =>
    obtain ⟨j, x⟩ := p
    show uJ ((j, x) :: upB D S) t = bif (Nat.beq j t || inB D t) then _ else _
    rw [kX, kX, ih]
    by_cases h : j = t
    · subst h; simp
    · have : Nat.beq j t = false := by rw [← Bool.not_eq_true]; exact fun e => h (Nat.eq_of_beq_eq_true e)
      rw [if_neg h, if_neg h, this, Bool.false_or]
theorem sget_out {D : SL} {t : Nat} (h : inS D t = false) : qB D t = .junk := by
  induction D with
  | nil => rfl
  | cons p D ih =>
    obtain ⟨j, x⟩ := p
    simp only [inS, List.any_cons, Bool.or_eq_false_iff] at h
    rw [vS, if_neg (fun e => by subst e; simp at h), ih h.2]
theorem up_app (W S : SL) : up W S = W ++ S := by
  induction W with
  | nil => rfl
  | cons p W ih => show p :: up W S = p :: (W ++ S); rw [ih]
theorem upB_app (W S : BS) : upB W S = W ++ S := by
  induction W with
  | nil => rfl
  | cons p W ih => show p :: upB W S = p :: (W ++ S); rw [ih]
structure FinS (S0 D Sf : SL) : Prop where
  d : D.map (fun p => qB Sf p.1) = D.map (·.2)
  k : Sf.drop (Sf.length - S0.length) = S0
  j : ((Sf.take (Sf.length - S0.length)).all fun p => inS D p.1 || isJ (qB S0 p.1)) = true
structure FinB (B0 E Bf : BS) : Prop where
  d : (E.filter fun p => p.2.isSome).map (fun p => uJ Bf p.1) = (E.filter fun p => p.2.isSome).map (·.2)
  k : Bf.drop (Bf.length - B0.length) = B0
  j : ((Bf.take (Bf.length - B0.length)).all fun p => inB E p.1) = true
structure FinF (S0 D Sf : SL) : Prop where
  d : D.map (fun p => qB Sf p.1) = D.map (·.2)
  j : ((S0.filter fun p => !inS D p.1).map fun p => qB S0 p.1) = ((S0.filter fun p => !inS D p.1).map fun p => qB Sf p.1)
theorem FinS.get {S0 D Sf : SL} (h : FinS S0 D Sf) (t : Nat) : qB (up D S0) t = .junk ∨ qB (up D S0) t = qB Sf t := by
  rw [sget_up]
  cases hD : inS D t with
  | true => exact sget_eq_or h.d t
  | false =>
    rw [cond_false]
    have e : Sf = up (Sf.take (Sf.length - S0.length)) S0 := by rw [up_app]; conv => lhs; rw [← List.take_append_drop (Sf.length - S0.length) Sf, h.k]
    cases hW : inS (Sf.take (Sf.length - S0.length)) t with
    | false => right; conv => rhs; rw [e, sget_up, hW, cond_false]
    | true =>
      left
      simp only [inS, List.any_eq_true] at hW
      obtain ⟨p, hp, hpt⟩ := hW
      have := List.all_eq_true.1 h.j p hp
      rw [Nat.eq_of_beq_eq_true hpt, hD, Bool.false_or] at this
      exact isJ_eq this
theorem FinF.get {S0 D Sf : SL} (h : FinF S0 D Sf) (t : Nat) : qB (up D S0) t = .junk ∨ qB (up D S0) t = qB Sf t := by
  rw [sget_up]
  cases hD : inS D t with
  | true => exact sget_eq_or h.d t
  | false =>
    rw [cond_false]
    cases hS : inS S0 t with
    | false => left; exact sget_out hS
    | true =>
      right
      simp only [inS, List.any_eq_true] at hS
      obtain ⟨p, hp, hpt⟩ := hS
      have hpt := Nat.eq_of_beq_eq_true hpt
      subst hpt
      exact List.map_inj_left.1 h.j p (List.mem_filter.2 ⟨hp, by rw [hD]; rfl⟩)
theorem FinB.get {B0 E Bf : BS} (h : FinB B0 E Bf) {k : Nat} {c : List SV} (hc : uJ (upB E B0) k = some c) : uJ Bf k = some c := by
  rw [bget_up] at hc
  cases hD : inB E k with
  | true =>
    rw [hD, cond_true] at hc
    exact List.map_inj_left.1 h.d (k, some c) (List.mem_filter.2 ⟨bget_mem hc, rfl⟩)
  | false =>
    rw [hD, cond_false] at hc
    have e : Bf = upB (Bf.take (Bf.length - B0.length)) B0 := by rw [upB_app]; conv => lhs; rw [← List.take_append_drop (Bf.length - B0.length) Bf, h.k]
    cases hW : inB (Bf.take (Bf.length - B0.length)) k with
    | false => rw [e, bget_up, hW, cond_false]; exact hc
    | true =>
      simp only [inB, List.any_eq_true] at hW
      obtain ⟨p, hp, hpt⟩ := hW
      have := List.all_eq_true.1 h.j p hp
      rw [Nat.eq_of_beq_eq_true hpt, hD] at this
      cases this
theorem sim_get {S B S' B'} (h1 : ∀ t, qB S' t = .junk ∨ qB S' t = qB S t) (h2 : ∀ k c, uJ B' k = some c → uJ B k = some c) : jW ⟨S, B⟩ ⟨S', B'⟩ := fun C a w ⟨D, β, hs⟩ =>
  ⟨D, β, hs.base, ⟨fun k cs hk => hs.mem.ok k cs (h2 _ _ hk), fun k1 k2 c1 c2 q1 q2 => hs.mem.inj k1 k2 c1 c2 (h2 _ _ q1) (h2 _ _ q2)⟩, fun k c hk => hs.high k c (h2 _ _ hk), fun t => by
    rcases h1 t with h | h
    · show vG w D β _ (qB S' t)
      rw [h]; trivial
    · show vG w D β _ (qB S' t)
      rw [h]; exact hs.slots t⟩
theorem wk {st : PS} {l : SL} {b : BS} (h1 : l.map (fun p => qB st.sl p.1) = l.map (·.2) := by kernel_rfl) (h2 : b.map (fun p => uJ st.bs p.1) = b.map (·.2) := by kernel_rfl) : jW st ⟨l, b⟩ := weak h1 h2
def SK (P : Program) (n : Fr) (ops : Array Oper) (K : SL → BS → Prop) (S : SL) (B : BS) (l : List Oper) : Prop := ∃ st1, Steps P n ops ⟨S, B⟩ l st1 ∧ K st1.sl st1.bs
def DK (P : Program) (n : Fr) (ops : Array Oper) (K : SL → BS → Prop) (news : List Nat) (acc0 : List (List Nat × List Nat)) (S : SL) (B : BS) (l : List Oper) : Prop :=
  ∃ st1 acc, DSteps P n ops news ⟨S, B⟩ l acc st1 ∧ orderB ops (acc0 ++ acc) = true ∧ K st1.sl st1.bs
def KS (S0 : SL) (B0 : BS) (D : SL) (E : BS) (Sf : SL) (Bf : BS) : Prop := FinS S0 D Sf ∧ FinB B0 E Bf
def KF (S0 : SL) (B0 : BS) (D : SL) (E : BS) (Sf : SL) (Bf : BS) : Prop := FinF S0 D Sf ∧ FinB B0 E Bf
def dO (o : Oper) : Tmp := o.dst.getD 0
def goK (n : Fr) (ops : Array Oper) (S : SL) (o : Oper) : Bool := match o.dst with
  | some d => match yG ops S o with
    | some true => hN n (some d)
    | _ => false
  | none => false
theorem nP {n : Fr} {ops : Array Oper} {S : SL} {o : Oper} (h : goK n ops S o = true) : o.dst = some (dO o) ∧ yG ops S o = some true ∧ hN n (some (dO o)) = true := by
  unfold goK at h
  unfold dO
  split at h
  · rename_i d hd
    split at h
    · rename_i hg; rw [hd]; exact ⟨rfl, hg, h⟩
    · cases h
  · cases h
def goF (n : Fr) (ops : Array Oper) (S : SL) (o : Oper) : Bool := match o.dst with
  | some d => match yG ops S o with
    | some false => hN n (some d)
    | _ => false
  | none => false
theorem goF_spec {n : Fr} {ops : Array Oper} {S : SL} {o : Oper} (h : goF n ops S o = true) : o.dst = some (dO o) ∧ yG ops S o = some false ∧ hN n (some (dO o)) = true := by
  unfold goF at h
  unfold dO
  split at h
  · rename_i d hd
    split at h
    · rename_i hg; rw [hd]; exact ⟨rfl, hg, h⟩
    · cases h
  · cases h
def goT (ops : Array Oper) (S : SL) (o : Oper) : Bool := match o.dst with
  | some _ => false
  | none => match yG ops S o with
    | some true => true
    | _ => false
theorem goT_spec {ops : Array Oper} {S : SL} {o : Oper} (h : goT ops S o = true) : o.dst = none ∧ yG ops S o = some true := by
  unfold goT at h
  split at h
  · cases h
  · rename_i hd
    split at h
    · rename_i hg; exact ⟨hd, hg⟩
    · cases h
def mvV (S : SL) (o : Oper) : SV := match o.op with
  | .move x => ev (qB S) x
  | .assign x => ev (qB S) x
  | _ => .junk
def mvK (o : Oper) : Bool := match o.op with
  | .move _ => true
  | .assign _ => true
  | _ => false
def ROk (P : Program) (o : Oper) (S : SL) (B : BS) (k : Nat) (x : SV) : Prop := ∃ cs, vO P o (qB S) [(k, cs)] x ∧ uJ B k = some cs
def TK (P : Program) (o : Oper) (S : SL) (B : BS) (k : Nat) (cs : List SV) : Prop := ∃ old, TOk P o (qB S) k old cs ∧ uJ B k = some old
section
variable {P : Program} {n : Fr} {ops : Array Oper} {K : SL → BS → Prop} {S : SL} {B : BS} {l : List Oper} {o : Oper} {news : List Nat} {acc0 : List (List Nat × List Nat)}
theorem vX (h : mvK o = true) : vO P o (qB S) [] (mvV S o) := by
  unfold mvK at h
  unfold mvV
  split at h
  · rename_i x hx; exact e_move (.inl hx)
  · rename_i x hx; exact e_move (.inr hx)
  · cases h
theorem zE {x : SV} (h : vO P o (qB S) [] x) (r : SK P n ops K ((dO o, x) :: S) B l) (g : goK n ops S o = true := by kernel_rfl) : SK P n ops K S B (o :: l) := by
  obtain ⟨st1, r1, r2⟩ := r
  obtain ⟨hd, hg, hb⟩ := nP g
  have hs := Step.e (P := P) (n := n) (ops := ops) (st := ⟨S, B⟩) (o := o) h hg (by rw [hd]; exact hb) (by simp)
  rw [hd] at hs
  exact ⟨st1, .cons hs r1, r2⟩
theorem zM (r : SK P n ops K ((dO o, mvV S o) :: S) B l) (h : mvK o = true := by kernel_rfl) (g : goK n ops S o = true := by kernel_rfl) : SK P n ops K S B (o :: l) := zE (vX h) r g
theorem zR {k : Nat} {x : SV} (h : ROk P o S B k x) (r : SK P n ops K ((dO o, x) :: S) B l) (g : goK n ops S o = true := by kernel_rfl) : SK P n ops K S B (o :: l) := by
  obtain ⟨st1, r1, r2⟩ := r
  obtain ⟨cs, h, hbk⟩ := h
  obtain ⟨hd, hg, hb⟩ := nP g
  have hs := Step.e (P := P) (n := n) (ops := ops) (st := ⟨S, B⟩) (o := o) h hg (by rw [hd]; exact hb) (by simpa using hbk)
  rw [hd] at hs
  exact ⟨st1, .cons hs r1, r2⟩
theorem zN {k : Nat} {cs : List SV} {x : SV} (h : NOk P o (qB S) k cs x) (r : SK P n ops K ((dO o, x) :: S) ((k, some cs) :: B) l) (g : goK n ops S o = true := by kernel_rfl) (hf : gQ k ⟨S, B⟩ = true := by kernel_rfl) : SK P n ops K S B (o :: l) := by
  obtain ⟨st1, r1, r2⟩ := r
  obtain ⟨hd, hg, hb⟩ := nP g
  have hs := Step.n (P := P) (n := n) (ops := ops) (st := ⟨S, B⟩) (o := o) h hg (by rw [hd]; exact hb) hf
  rw [hd] at hs
  exact ⟨st1, .cons hs r1, r2⟩
theorem zH {k : Nat} {cs : List SV} {x : SV} (h : NOk P o (qB S) k cs x) (r : SK P n ops K ((dO o, x) :: S) ((k, some cs) :: B) l) (g : goK n ops S o = true := by kernel_rfl) (h1 : (S.all fun p => !p.2.names k) = true := by kernel_rfl)
    (h2 : FrB k B := by repeat first | exact frb_nil _ | refine frb_map rfl ?_ | refine frb_d rfl ?_ | refine frb_cs rfl rfl ?_ | refine frb_none rfl ?_) : SK P n ops K S B (o :: l) := zN h r g (freshB_of h1 h2)
theorem zT {k : Nat} {cs : List SV} (h : TK P o S B k cs) (r : SK P n ops K S ((k, some cs) :: B) l) (g : goT ops S o = true := by kernel_rfl) : SK P n ops K S B (o :: l) := by
  obtain ⟨st1, r1, r2⟩ := r
  obtain ⟨old, h, hb⟩ := h
  obtain ⟨hd, hg⟩ := goT_spec g
  have hs := Step.t (P := P) (n := n) (ops := ops) (st := ⟨S, B⟩) (o := o) h hg (by rw [hd]; rfl) hb
  rw [hd] at hs
  exact ⟨st1, .cons hs r1, r2⟩
theorem zK (r : SK P n ops K ((dO o, .d (.tup [])) :: S) B l) (g : goF n ops S o = true := by kernel_rfl) : SK P n ops K S B (o :: l) := by
  obtain ⟨st1, r1, r2⟩ := r
  obtain ⟨hd, hg, hb⟩ := goF_spec g
  have hs := Step.skip (P := P) (n := n) (ops := ops) (st := ⟨S, B⟩) (o := o) hg (by rw [hd]; exact hb)
  rw [hd] at hs
  exact ⟨st1, .cons hs r1, r2⟩
theorem zX {S1 : SL} {B1 : BS} (h : ∀ (C : Ctx) (a : Act) (w : World) (Q : Exit → Act → World → Prop), C.n = n → cS C a w ⟨S, B⟩ → o.wp P a w (fun a' w' => cS C a' w' ⟨S1, B1⟩) Q) (hg : yG ops S o = some true) (r : SK P n ops K S1 B1 l) : SK P n ops K S B (o :: l) := by
  obtain ⟨st1, r1, r2⟩ := r
  exact ⟨st1, .cons (.sem h hg) r1, r2⟩
section
variable {S0 : SL} {B0 : BS} {D : SL} {E : BS}
theorem zZ (h1 : D.map (fun p => qB S p.1) = D.map (·.2) := by kernel_rfl) (h2 : S.drop (S.length - S0.length) = S0 := by kernel_rfl) (h3 : ((S.take (S.length - S0.length)).all fun p => inS D p.1 || isJ (qB S0 p.1)) = true := by kernel_rfl)
    (h4 : (E.filter fun p => p.2.isSome).map (fun p => uJ B p.1) = (E.filter fun p => p.2.isSome).map (·.2) := by kernel_rfl) (h5 : B.drop (B.length - B0.length) = B0 := by kernel_rfl) (h6 : ((B.take (B.length - B0.length)).all fun p => inB E p.1) = true := by kernel_rfl) : SK P n ops (KS S0 B0 D E) S B [] :=
  ⟨⟨S, B⟩, .nil, ⟨h1, h2, h3⟩, ⟨h4, h5, h6⟩⟩
theorem zF (h1 : D.map (fun p => qB S p.1) = D.map (·.2) := by kernel_rfl) (h2 : ((S0.filter fun p => !inS D p.1).map fun p => qB S0 p.1) = ((S0.filter fun p => !inS D p.1).map fun p => qB S p.1) := by kernel_rfl)
    (h4 : (E.filter fun p => p.2.isSome).map (fun p => uJ B p.1) = (E.filter fun p => p.2.isSome).map (·.2) := by kernel_rfl) (h5 : B.drop (B.length - B0.length) = B0 := by kernel_rfl) (h6 : ((B.take (B.length - B0.length)).all fun p => inB E p.1) = true := by kernel_rfl) : SK P n ops (KF S0 B0 D E) S B [] :=
  ⟨⟨S, B⟩, .nil, ⟨h1, h2⟩, ⟨h4, h5, h6⟩⟩
theorem wZ (h1 : D.map (fun p => qB S p.1) = D.map (·.2) := by kernel_rfl) (h2 : S.drop (S.length - S0.length) = S0 := by kernel_rfl) (h3 : ((S.take (S.length - S0.length)).all fun p => inS D p.1 || isJ (qB S0 p.1)) = true := by kernel_rfl)
    (h4 : (E.filter fun p => p.2.isSome).map (fun p => uJ B p.1) = (E.filter fun p => p.2.isSome).map (·.2) := by kernel_rfl) (h5 : B.drop (B.length - B0.length) = B0 := by kernel_rfl) (h6 : ((B.take (B.length - B0.length)).all fun p => inB E p.1) = true := by kernel_rfl) (h7 : orderB ops acc0 = true := by kernel_rfl) : DK P n ops (KS S0 B0 D E) news acc0 S B [] :=
  ⟨⟨S, B⟩, [], .nil, by simpa using h7, ⟨h1, h2, h3⟩, ⟨h4, h5, h6⟩⟩
theorem kx {id : Nat} {Q : Exit → PS → Prop} (D : SL) (E : BS) (h : SK P n l.toArray (KS S0 B0 D E) S0 B0 l) (hq : Q .normal ⟨up D S0, upB E B0⟩) (hp : l.all gZ = true := by kernel_rfl) : uY P n (.region id l.toArray false) Q ⟨S0, B0⟩ := fun C a w N hn hs => by
  obtain ⟨st1, h1, h2, h3⟩ := h
  subst hn
  exact wpIn_region_lit (steps_sound (C := C) h1 hp rfl (fun a' w' hs' => ⟨_, sim_get h2.get (fun k c => h3.get) C a' w' hs', hq⟩) hs)
theorem kf {id : Nat} {Q : Exit → PS → Prop} (D : SL) (E : BS) (h : SK P n l.toArray (KF S0 B0 D E) S0 B0 l) (hq : Q .normal ⟨up D S0, upB E B0⟩) (hp : l.all gZ = true := by kernel_rfl) : uY P n (.region id l.toArray false) Q ⟨S0, B0⟩ := fun C a w N hn hs => by
  obtain ⟨st1, h1, h2, h3⟩ := h
  subst hn
  exact wpIn_region_lit (steps_sound (C := C) h1 hp rfl (fun a' w' hs' => ⟨_, sim_get h2.get (fun k c => h3.get) C a' w' hs', hq⟩) hs)
theorem kd {id : Nat} {Q : Exit → PS → Prop} (D : SL) (E : BS) (hm : P.follows .mixedOrders = true) (h : DK P n l.toArray (KS S0 B0 D E) [] [] S0 B0 l) (hq : Q .normal ⟨up D S0, upB E B0⟩) (hb : backB l.toArray = true := by kernel_rfl) (hp : l.all gZ = true := by kernel_rfl) : uY P n (.region id l.toArray true) Q ⟨S0, B0⟩ := fun C a w N hn hs => by
  obtain ⟨st1, acc, h1, h0, h2, h3⟩ := h
  subst hn
  exact wpIn_region_any hm (draw_sound (C := C) rfl (by simpa using h1) (by simpa using h0) hb (by simpa using hp) (fun a' w' hs' => ⟨_, sim_get h2.get (fun k c => h3.get) C a' w' hs', hq⟩) hs)
end
theorem wE {x : SV} (h : vO P o (qB S) [] x) (r : DK P n ops K news (acc0 ++ [([], [])]) ((dO o, x) :: S) B l) (g : goK n ops S o = true := by kernel_rfl) (hn : clearR ops S o news x = true := by kernel_rfl) : DK P n ops K news acc0 S B (o :: l) := by
  obtain ⟨st1, acc, r1, r0, r2⟩ := r
  obtain ⟨hd, hg, hb⟩ := nP g
  have hs := mW.e (P := P) (n := n) (ops := ops) (news := news) (st := ⟨S, B⟩) (o := o) h hg (by rw [hd]; exact hb) (by simp) hn
  rw [hd] at hs
  exact ⟨st1, ([], []) :: acc, .cons hs r1, by simpa using r0, r2⟩
theorem wM (r : DK P n ops K news (acc0 ++ [([], [])]) ((dO o, mvV S o) :: S) B l) (h : mvK o = true := by kernel_rfl) (g : goK n ops S o = true := by kernel_rfl) (hn : clearR ops S o news (mvV S o) = true := by kernel_rfl) : DK P n ops K news acc0 S B (o :: l) := wE (vX h) r g hn
theorem wR {k : Nat} {x : SV} (h : ROk P o S B k x) (r : DK P n ops K news (acc0 ++ [([k], [])]) ((dO o, x) :: S) B l) (g : goK n ops S o = true := by kernel_rfl) (hn : clearR ops S o news x = true := by kernel_rfl) : DK P n ops K news acc0 S B (o :: l) := by
  obtain ⟨st1, acc, r1, r0, r2⟩ := r
  obtain ⟨cs, h, hbk⟩ := h
  obtain ⟨hd, hg, hb⟩ := nP g
  have hs := mW.e (P := P) (n := n) (ops := ops) (news := news) (st := ⟨S, B⟩) (o := o) h hg (by rw [hd]; exact hb) (by simpa using hbk) hn
  rw [hd] at hs
  exact ⟨st1, ([k], []) :: acc, .cons hs r1, by simpa using r0, r2⟩
theorem wN {k : Nat} {cs : List SV} {x : SV} (h : NOk P o (qB S) k cs x) (r : DK P n ops K (k :: news) (acc0 ++ [([], [k])]) ((dO o, x) :: S) ((k, some cs) :: B) l) (g : goK n ops S o = true := by kernel_rfl) (hf : gQ k ⟨S, B⟩ = true := by kernel_rfl) (hn : clear1 news x = true := by kernel_rfl) (hc : clearL news cs = true := by kernel_rfl) : DK P n ops K news acc0 S B (o :: l) := by
  obtain ⟨st1, acc, r1, r0, r2⟩ := r
  obtain ⟨hd, hg, hb⟩ := nP g
  have hs := mW.n (P := P) (n := n) (ops := ops) (news := news) (st := ⟨S, B⟩) (o := o) h hg (by rw [hd]; exact hb) hf hn hc
  rw [hd] at hs
  exact ⟨st1, ([], [k]) :: acc, .cons hs r1, by simpa using r0, r2⟩
theorem wH {k : Nat} {cs : List SV} {x : SV} (h : NOk P o (qB S) k cs x) (r : DK P n ops K (k :: news) (acc0 ++ [([], [k])]) ((dO o, x) :: S) ((k, some cs) :: B) l) (hc : clearL news cs = true) (g : goK n ops S o = true := by kernel_rfl) (h1 : (S.all fun p => !p.2.names k) = true := by kernel_rfl)
    (h2 : FrB k B := by repeat first | exact frb_nil _ | refine frb_map rfl ?_ | refine frb_d rfl ?_ | refine frb_cs rfl rfl ?_ | refine frb_none rfl ?_) (hn : clear1 news x = true := by kernel_rfl) : DK P n ops K news acc0 S B (o :: l) := wN h r g (freshB_of h1 h2) hn hc
theorem wT {k : Nat} {cs : List SV} (h : TK P o S B k cs) (r : DK P n ops K news (acc0 ++ [([k], [k])]) S ((k, some cs) :: B) l) (g : goT ops S o = true := by kernel_rfl) (hc : clearL news cs = true := by kernel_rfl) : DK P n ops K news acc0 S B (o :: l) := by
  obtain ⟨st1, acc, r1, r0, r2⟩ := r
  obtain ⟨old, h, hb⟩ := h
  obtain ⟨hd, hg⟩ := goT_spec g
  have hs := mW.t (P := P) (n := n) (ops := ops) (news := news) (st := ⟨S, B⟩) (o := o) h hg (by rw [hd]; rfl) hb hc
  rw [hd] at hs
  exact ⟨st1, ([k], [k]) :: acc, .cons hs r1, by simpa using r0, r2⟩
theorem wK (r : DK P n ops K news (acc0 ++ [([], [])]) ((dO o, .d (.tup [])) :: S) B l) (g : goF n ops S o = true := by kernel_rfl) : DK P n ops K news acc0 S B (o :: l) := by
  obtain ⟨st1, acc, r1, r0, r2⟩ := r
  obtain ⟨hd, hg, hb⟩ := goF_spec g
  have hs := mW.skip (P := P) (n := n) (ops := ops) (news := news) (st := ⟨S, B⟩) (o := o) hg (by rw [hd]; exact hb)
  rw [hd] at hs
  exact ⟨st1, ([], []) :: acc, .cons hs r1, by simpa using r0, r2⟩
end
end Go.Fid
set_option linter.unusedVariables false
set_option linter.unusedSimpArgs false
namespace Go.Fid
def yH : SV → kY
  | .d x => x
  | _ => .tup []
def isD : SV → Bool
  | .d _ => true
  | _ => false
def vY : IntKind → Int
  | .i64 => -9223372036854775808
  | .u64 => 0
  | .u32 => 0
  | .u8 => 0
  | _ => 1
def vZ : IntKind → Int
  | .i64 => 9223372036854775807
  | .u64 => 18446744073709551615
  | .u32 => 4294967295
  | .u8 => 255
  | _ => 0
theorem qG {k : IntKind} {m r : Int} (h : m = r) (h1 : vY k ≤ r) (h2 : r ≤ vZ k) : k.wrap m = r := by
  cases k <;> simp only [vY, vZ] at h1 h2 <;> first | exact wi64 h h1 h2 | exact wu64 h h1 h2 | exact wu32 h h1 h2 | exact wu8 h h1 h2 | (exfalso; omega)
def kHiN : IntKind → Nat
  | .i64 => 9223372036854775807
  | .u64 => 18446744073709551615
  | .u32 => 4294967295
  | .u8 => 255
  | _ => 0
theorem wNat {k : IntKind} {m : Int} {r : Nat} (h : m = ((r : Nat) : Int)) (h2 : r ≤ kHiN k) (h1 : vY k ≤ 0) : k.wrap m = ((r : Nat) : Int) := by
  refine qG h (Int.le_trans h1 (Int.natCast_nonneg _)) ?_
  cases k <;> simp only [vZ, kHiN] at h2 ⊢ <;> first | omega | (exfalso; revert h1; decide)
theorem qAny {k : IntKind} (a b : Nat) (h : a ≤ kHiN k) (h1 : vY k ≤ 0) : k.wrap (Int.tdiv (a : Int) (b : Int)) = ((a / b : Nat) : Int) :=
  wNat rfl (Nat.le_trans (Nat.div_le_self a b) h) h1
theorem isD_eq {x : SV} (h : isD x = true) : x = .d (yH x) := by cases x <;> first | rfl | cases h
section
variable {P : Program} {o : Oper} {S : Nat → SV} {T T' : TypeId} {x y c : Operand} {k l : IntKind} {m n : Int}
theorem uI (r : Nat) (ho : o.op = .binOp .add T x y T' := by exact rfl) (hx : ev S x = .d (.val (.int k m)) := by exact rfl) (hy : ev S y = .d (.val (.int k n)) := by exact rfl) (hr : k.wrap (m + n) = ((r : Nat) : Int) := by exact wNat (by first | rfl | omega | (dsimp only; omega)) (by simp only [kHiN]; omega) (by decide)) : vO P o S [] (.d (.val (.int k ((r : Nat) : Int)))) := e_add ho hx hy hr
theorem oSb (r : Nat) (ho : o.op = .binOp .sub T x y T' := by exact rfl) (hx : ev S x = .d (.val (.int k m)) := by exact rfl) (hy : ev S y = .d (.val (.int k n)) := by exact rfl) (hr : k.wrap (m - n) = ((r : Nat) : Int) := by exact wNat (by first | rfl | omega | (dsimp only; omega)) (by simp only [kHiN]; omega) (by decide)) : vO P o S [] (.d (.val (.int k ((r : Nat) : Int)))) := e_sub ho hx hy hr
theorem oMl (r : Nat) (ho : o.op = .binOp .mul T x y T' := by exact rfl) (hx : ev S x = .d (.val (.int k m)) := by exact rfl) (hy : ev S y = .d (.val (.int k n)) := by exact rfl) (hr : k.wrap (m * n) = ((r : Nat) : Int) := by exact wNat (by first | rfl | omega | (dsimp only; omega)) (by simp only [kHiN]; omega) (by decide)) : vO P o S [] (.d (.val (.int k ((r : Nat) : Int)))) := e_mul ho hx hy hr
theorem zAd (r : Int) (ho : o.op = .binOp .add T x y T' := by exact rfl) (hx : ev S x = .d (.val (.int k m)) := by exact rfl) (hy : ev S y = .d (.val (.int k n)) := by exact rfl) (hr : k.wrap (m + n) = r := by exact qG (by first | omega | (dsimp only; omega)) (by simp only [vY]; omega) (by simp only [vZ]; omega)) : vO P o S [] (.d (.val (.int k r))) := e_add ho hx hy hr
theorem dJ (r : Int) (ho : o.op = .binOp .sub T x y T' := by exact rfl) (hx : ev S x = .d (.val (.int k m)) := by exact rfl) (hy : ev S y = .d (.val (.int k n)) := by exact rfl) (hr : k.wrap (m - n) = r := by exact qG (by first | omega | (dsimp only; omega)) (by simp only [vY]; omega) (by simp only [vZ]; omega)) : vO P o S [] (.d (.val (.int k r))) := e_sub ho hx hy hr
theorem gY (r : Int) (ho : o.op = .binOp .mul T x y T' := by exact rfl) (hx : ev S x = .d (.val (.int k m)) := by exact rfl) (hy : ev S y = .d (.val (.int k n)) := by exact rfl) (hr : k.wrap (m * n) = r := by exact qG (by first | omega | (dsimp only; omega)) (by simp only [vY]; omega) (by simp only [vZ]; omega)) : vO P o S [] (.d (.val (.int k r))) := e_mul ho hx hy hr
theorem oQu (r : Nat) (ho : o.op = .binOp .quo T x y T' := by exact rfl) (hx : ev S x = .d (.val (.int k m)) := by exact rfl) (hy : ev S y = .d (.val (.int k n)) := by exact rfl) (h0 : n ≠ 0 := by first | decide | omega) (hr : k.wrap (m.tdiv n) = ((r : Nat) : Int) := by exact qAny _ _ (by simp only [kHiN]; omega) (by decide)) : vO P o S [] (.d (.val (.int k ((r : Nat) : Int)))) := e_quo ho hx hy h0 hr
theorem oRe (r : Nat) (ho : o.op = .binOp .rem T x y T' := by exact rfl) (hx : ev S x = .d (.val (.int k m)) := by exact rfl) (hy : ev S y = .d (.val (.int k n)) := by exact rfl) (h0 : n ≠ 0 := by first | decide | omega) (hr : m.tmod n = ((r : Nat) : Int) := by exact tmod_nat _ _) : vO P o S [] (.d (.val (.int k ((r : Nat) : Int)))) := e_rem ho hx hy h0 hr
theorem oEq (ho : o.op = .binOp .eql T x y T' := by exact rfl) (hx : ev S x = .d (.val (.int k m)) := by exact rfl) (hy : ev S y = .d (.val (.int k n)) := by exact rfl) : vO P o S [] (.d (.val (.bool (m == n)))) := e_eql ho hx hy
theorem dL (ho : o.op = .binOp .neq T x y T' := by exact rfl) (hx : ev S x = .d (.val (.int k m)) := by exact rfl) (hy : ev S y = .d (.val (.int k n)) := by exact rfl) : vO P o S [] (.d (.val (.bool (m != n)))) := e_neq ho hx hy
theorem qM (ho : o.op = .binOp .lss T x y T' := by exact rfl) (hx : ev S x = .d (.val (.int k m)) := by exact rfl) (hy : ev S y = .d (.val (.int k n)) := by exact rfl) : vO P o S [] (.d (.val (.bool (decide (m < n))))) := e_lss ho hx hy
theorem oLe (ho : o.op = .binOp .leq T x y T' := by exact rfl) (hx : ev S x = .d (.val (.int k m)) := by exact rfl) (hy : ev S y = .d (.val (.int k n)) := by exact rfl) : vO P o S [] (.d (.val (.bool (decide (m ≤ n))))) := e_leq ho hx hy
theorem hM (ho : o.op = .binOp .gtr T x y T' := by exact rfl) (hx : ev S x = .d (.val (.int k m)) := by exact rfl) (hy : ev S y = .d (.val (.int k n)) := by exact rfl) : vO P o S [] (.d (.val (.bool (decide (n < m))))) := e_gtr ho hx hy
theorem oGe (ho : o.op = .binOp .geq T x y T' := by exact rfl) (hx : ev S x = .d (.val (.int k m)) := by exact rfl) (hy : ev S y = .d (.val (.int k n)) := by exact rfl) : vO P o S [] (.d (.val (.bool (decide (n ≤ m))))) := e_geq ho hx hy
theorem oEb (hT : boolB P T = true) {p q : Bool} (ho : o.op = .binOp .eql T x y T' := by exact rfl) (hx : ev S x = .d (.val (.bool p)) := by exact rfl) (hy : ev S y = .d (.val (.bool q)) := by exact rfl) : vO P o S [] (.d (.val (.bool (p == q)))) := e_eqlb ho hT hx hy
theorem oNb (hT : boolB P T = true) {p q : Bool} (ho : o.op = .binOp .neq T x y T' := by exact rfl) (hx : ev S x = .d (.val (.bool p)) := by exact rfl) (hy : ev S y = .d (.val (.bool q)) := by exact rfl) : vO P o S [] (.d (.val (.bool (!(p == q))))) := e_neqb ho hT hx hy
theorem oNt {b : Bool} (ho : o.op = .unOp .not T x := by exact rfl) (hx : ev S x = .d (.val (.bool b)) := by exact rfl) : vO P o S [] (.d (.val (.bool !b))) := e_not ho hx
theorem oNg (r : Int) (ho : o.op = .unOp .neg T x := by exact rfl) (hx : ev S x = .d (.val (.int k n)) := by exact rfl) (hr : k.wrap (0 - n) = r := by exact qG (by first | omega | (dsimp only; omega)) (by simp only [vY]; omega) (by simp only [vZ]; omega)) : vO P o S [] (.d (.val (.int k r))) := e_neg ho hx hr
theorem nS {src dst : TypeId} (hs : (P.underlying src).isSome = true) (hd : intB P dst = some l) (r : Nat) (ho : o.op = .convert src dst x := by exact rfl) (hx : ev S x = .d (.val (.int k n)) := by exact rfl) (hr : l.wrap n = ((r : Nat) : Int) := by exact wNat (by first | rfl | omega | (dsimp only; omega)) (by simp only [kHiN]; omega) (by decide)) : vO P o S [] (.d (.val (.int l ((r : Nat) : Int)))) := e_conv ho hs hd hx hr
theorem oMx (r : Nat) (ho : o.op = .call { callee := .builtin .max, args := #[x, y], argTypes := #[T, T'] } := by exact rfl) (hx : ev S x = .d (.val (.int k m)) := by exact rfl) (hy : ev S y = .d (.val (.int k n)) := by exact rfl) (hr : (if m < n then n else m) = ((r : Nat) : Int) := by omega) : vO P o S [] (.d (.val (.int k ((r : Nat) : Int)))) := e_maxn ho hx hy hr
theorem qN (c : Bool) {b : Bool} (h : vO P o S [] (.d (.val (.bool b)))) (e : b = c := by decide) : vO P o S [] (.d (.val (.bool c))) := e ▸ h
theorem oV {z : SV} (w : SV) (h : vO P o S [] z) (e : z = w := by kernel_rfl) : vO P o S [] w := e ▸ h
theorem mX (ho : o.op = .pick c x y := by exact rfl) (hc : ev S c = .d (.val (.bool true)) := by kernel_rfl) : vO P o S [] (ev S x) := e_pkt ho hc rfl
theorem mV (ho : o.op = .pick c x y := by exact rfl) (hc : ev S c = .d (.val (.bool false)) := by kernel_rfl) : vO P o S [] (ev S y) := e_pkf ho hc rfl
theorem oPa {q : Bool} (ho : o.op = .pick c x y := by exact rfl) (hc : ev S c = .d (.val (.bool true)) := by kernel_rfl) (hx : ev S x = .d (.val (.bool q)) := by exact rfl) : vO P o S [] (.d (.val (.bool (true && q)))) := e_pkta ho hc hx
theorem oPo {q : Bool} (ho : o.op = .pick c x y := by exact rfl) (hc : ev S c = .d (.val (.bool false)) := by kernel_rfl) (hy : ev S y = .d (.val (.bool q)) := by exact rfl) : vO P o S [] (.d (.val (.bool (false || q)))) := e_pkfo ho hc hy
def nilK (o : Oper) : Bool := match o.op with
  | .move (.const (.slice none 0 0)) => true
  | .assign (.const (.slice none 0 0)) => true
  | _ => false
theorem nilK_eq (h : nilK o = true) : o.op = .move (.const (.slice none 0 0)) ∨ o.op = .assign (.const (.slice none 0 0)) := by
  unfold nilK at h
  split at h
  · exact .inl (by assumption)
  · exact .inr (by assumption)
  · cases h
theorem oNl (t s : Nat) (h : nilK o = true := by kernel_rfl) : vO P o S [] (.d (.sl t s [])) := e_nil t s (nilK_eq h)
theorem oNc {k q : Nat} (ho : o.op = .nilCheck x := by exact rfl) (hx : ev S x = .ref k q := by exact rfl) : vO P o S [] (.ref k q) := e_nckr ho hx
theorem kO {f off b p : Nat} (hf : xD P T f = some off) (ho : o.op = .fieldAddr T x f := by exact rfl) (hx : ev S x = .ref b p := by exact rfl) : vO P o S [] (.ref b (p + off)) := e_fieldAddr_ref ho hx hf
theorem oFc {t : TypeId} {f off p : Nat} {cs : List kY} (hf : xD P T f = some off) (ho : o.op = .fieldAddr T x f := by exact rfl) (hx : ev S x = .d (.cptr t cs p) := by exact rfl) : vO P o S [] (.d (.cptr t cs (p + off))) := e_fieldAddr_cptr ho hx hf
theorem vM {E : TypeId} {N s b p : Nat} (hT : cX P T = some (N, E, s)) (j : Nat) (ho : o.op = .indexAddr T x y := by exact rfl) (hx : ev S x = .ref b p := by exact rfl) (hi : ev S y = .d (.val (.int k ((j : Nat) : Int))) := by exact rfl) (h1 : Nat.blt j N = true := by kernel_rfl) : vO P o S [] (.ref b (p + j * s)) := e_ixar ho hT hx hi rfl (Nat.le_of_ble_eq_true h1) rfl
theorem oXo {E t : TypeId} {N b : Nat} (hT : xO P T = some (E, 1)) (j : Nat) (ho : o.op = .indexAddr T x y := by exact rfl) (hx : ev S x = .own b t 1 N := by exact rfl) (hi : ev S y = .d (.val (.int k n)) := by exact rfl) (hj : n = ((j : Nat) : Int) := by omega) (h1 : j < N := by omega) : vO P o S [] (.ref b j) := e_ixo ho hT hx hi hj h1 (Nat.mul_one j)
theorem zS {E t : TypeId} {s : Nat} {es : List kY} (hT : xO P T = some (E, s)) (j : Nat) (ho : o.op = .indexAddr T x y := by exact rfl) (hx : ev S x = .d (.sl t s es) := by exact rfl) (hi : ev S y = .d (.val (.int k ((j : Nat) : Int))) := by exact rfl) (h1 : Nat.blt j es.length = true := by kernel_rfl) : vO P o S [] (.d (.cptr t (es.getD j (.tup [])).cells 0)) :=
  e_ixs ho hT hx hi rfl (by
    have h1 := Nat.le_of_ble_eq_true h1
    simp [List.getElem?_eq_getElem h1, List.getD])
theorem oXl {α : Type} {E t : TypeId} {s : Nat} {F : α → kY} {L : List α} (hT : xO P T = some (E, s)) (j : Nat) (d : α) (ho : o.op = .indexAddr T x y := by exact rfl) (hx : ev S x = .d (.sl t s (L.map F)) := by exact rfl) (hi : ev S y = .d (.val (.int k n)) := by exact rfl) (hj : n = ((j : Nat) : Int) := by omega) (h1 : j < L.length := by omega) : vO P o S [] (.d (.cptr t (F (L.getD j d)).cells 0)) :=
  e_ixs ho hT hx hi hj (ixm F L j d h1)
theorem xT {t : TypeId} {off : Nat} {cs : List kY} (hs : qY P T = some (false, 1)) (ho : o.op = .load T x := by exact rfl) (hx : ev S x = .d (.cptr t cs off) := by exact rfl) (hl : Nat.blt off cs.length = true := by kernel_rfl) : vO P o S [] (.d (cs.getD off (.tup []))) :=
  e_lc1 ho hx hs (by
    have hl := Nat.le_of_ble_eq_true hl
    simp [List.getElem?_eq_getElem hl, List.getD])
theorem eD {t : TypeId} {off sz : Nat} {cs : List kY} (hs : qY P T = some (true, sz)) (ho : o.op = .load T x := by exact rfl) (hx : ev S x = .d (.cptr t cs off) := by exact rfl) (hl : Nat.ble (off + sz) cs.length = true := by kernel_rfl) : vO P o S [] (gF true (((cs.drop off).take sz).map .d)) := e_lca ho hx hs hl rfl
theorem uG {i : Nat} {ds : List kY} (ho : o.op = .extract x i := by exact rfl) (hx : ev S x = .d (.tup ds) := by exact rfl) (hi : Nat.blt i ds.length = true := by kernel_rfl) : vO P o S [] (.d (ds.getD i (.tup []))) :=
  e_exD ho hx (by
    have hi := Nat.le_of_ble_eq_true hi
    simp [List.getElem?_eq_getElem hi, List.getD])
theorem oFv {t : TypeId} {f off sz : Nat} {cs : List kY} (hf : aN P T f = some (off, t)) (hs : qY P t = some (true, sz)) (ho : o.op = .field T x f := by exact rfl) (hx : ev S x = .d (.agg cs) := by exact rfl) (hle : Nat.ble (off + sz) cs.length = true := by kernel_rfl) : vO P o S [] (gF true (((cs.drop off).take sz).map .d)) := e_fldv ho hx hf hs hle rfl
theorem oF1 {t : TypeId} {f off : Nat} {cs : List kY} (hf : aN P T f = some (off, t)) (hs : qY P t = some (false, 1)) (ho : o.op = .field T x f := by exact rfl) (hx : ev S x = .d (.agg cs) := by exact rfl) (hle : Nat.ble (off + 1) cs.length = true := by kernel_rfl) : vO P o S [] (gF false (((cs.drop off).take 1).map .d)) := e_fld1 ho hx hf hs hle rfl
theorem oXa {E : TypeId} {N s sz : Nat} {agg : Bool} {cs : List kY} (hT : cX P T = some (N, E, s)) (hs : qY P E = some (agg, sz)) (h1 : agg = false → sz = 1) (j : Nat) (ho : o.op = .index T x y := by exact rfl) (hx : ev S x = .d (.agg cs) := by exact rfl) (hi : ev S y = .d (.val (.int k ((j : Nat) : Int))) := by exact rfl) (hn : Nat.blt j N = true := by kernel_rfl) (hle : Nat.ble (j * s + sz) cs.length = true := by kernel_rfl) : vO P o S [] (gF agg (((cs.drop (j * s)).take sz).map .d)) := e_ixa ho hx hT hs h1 hi rfl hn hle rfl
theorem nX {α : Type} {E t : TypeId} {s : Nat} {F : α → kY} {L : List α} (hT : xO P T = some (E, s)) (ho : o.op = .call { callee := .builtin .len, args := #[x], argTypes := #[T] } := by exact rfl) (hx : ev S x = .d (.sl t s (L.map F)) := by exact rfl) : vO P o S [] (.d (.val (.int .i64 ((L.length : Nat) : Int)))) := e_ln ho hT hx (by simp)
theorem oLn {E t : TypeId} {s : Nat} {es : List kY} (hT : xO P T = some (E, s)) (r : Nat) (ho : o.op = .call { callee := .builtin .len, args := #[x], argTypes := #[T] } := by exact rfl) (hx : ev S x = .d (.sl t s es) := by exact rfl) (hr : (es.length : Int) = ((r : Nat) : Int) := by simp) : vO P o S [] (.d (.val (.int .i64 ((r : Nat) : Int)))) := e_ln ho hT hx hr
theorem oLo {E t : TypeId} {s b N : Nat} (hT : xO P T = some (E, s)) (ho : o.op = .call { callee := .builtin .len, args := #[x], argTypes := #[T] } := by exact rfl) (hx : ev S x = .own b t s N := by exact rfl) : vO P o S [] (.d (.val (.int .i64 ((N : Nat) : Int)))) := e_len_own ho hT hx
theorem oBd {ps : List (Nat × Operand)} {pl : List (Nat × Nat)} {zv : List Value} {zd : List kY} (hT : nT P T = some pl) (hz : xC P T = some zv) (hzd : nV zv zd) (ho : o.op = .build T ps.toArray := by exact rfl)
    (hps : (ps.all fun p => isD (ev S p.2) && (yH (ev S p.2)).ok1) = true := by kernel_rfl) (hr : (dE (fun i => pl[i]?) zd (ps.map fun p => (p.1, (yH (ev S p.2)).cells))).isSome = true := by kernel_rfl) :
    vO P o S [] (.d (.agg ((dE (fun i => pl[i]?) zd (ps.map fun p => (p.1, (yH (ev S p.2)).cells))).getD []))) := by
  rw [List.all_eq_true] at hps
  obtain ⟨r, hr⟩ := Option.isSome_iff_exists.1 hr
  have h := e_build (P := P) (o := o) (S := S) (pd := ps.map fun p => (p.1, yH (ev S p.2))) ho hT hz hzd (by
    rw [List.map_map]
    refine List.map_congr_left fun p hp => ?_
    have := hps p hp
    rw [Bool.and_eq_true] at this
    show (p.1, ev S p.2) = (p.1, SV.d (yH (ev S p.2)))
    rw [← isD_eq this.1]) (by
    rw [List.all_eq_true]
    intro q hq
    obtain ⟨p, hp, rfl⟩ := List.mem_map.1 hq
    have := hps p hp
    rw [Bool.and_eq_true] at this
    exact this.2) (by rw [List.map_map]; exact hr)
  rw [hr]; exact h
theorem oBa {E : TypeId} {N s : Nat} {ps : List (Nat × Operand)} {zv : List Value} {zd : List kY} (hT : cX P T = some (N, E, s)) (hz : xC P T = some zv) (hzd : nV zv zd) (ho : o.op = .build T ps.toArray := by exact rfl)
    (hps : (ps.all fun p => isD (ev S p.2) && (yH (ev S p.2)).ok1) = true := by kernel_rfl) (hr : (dE (fun i => some (i * s, s)) zd (ps.map fun p => (p.1, (yH (ev S p.2)).cells))).isSome = true := by kernel_rfl) :
    vO P o S [] (.d (.agg ((dE (fun i => some (i * s, s)) zd (ps.map fun p => (p.1, (yH (ev S p.2)).cells))).getD []))) := by
  rw [List.all_eq_true] at hps
  obtain ⟨r, hr⟩ := Option.isSome_iff_exists.1 hr
  have h := e_build_arr (P := P) (o := o) (S := S) (pd := ps.map fun p => (p.1, yH (ev S p.2))) ho hT hz hzd (by
    rw [List.map_map]
    refine List.map_congr_left fun p hp => ?_
    have := hps p hp
    rw [Bool.and_eq_true] at this
    show (p.1, ev S p.2) = (p.1, SV.d (yH (ev S p.2)))
    rw [← isD_eq this.1]) (by
    rw [List.all_eq_true]
    intro q hq
    obtain ⟨p, hp, rfl⟩ := List.mem_map.1 hq
    have := hps p hp
    rw [Bool.and_eq_true] at this
    exact this.2) (by rw [List.map_map]; exact hr)
  rw [hr]; exact h
theorem oBf {E : TypeId} {N s : Nat} {ps : List (Nat × Operand)} {zv : List Value} {zd : List kY} (hT : cX P T = some (N, E, s)) (hz : xC P T = some zv) (hzd : nV zv zd) (ho : o.op = .build T ps.toArray := by exact rfl)
    (hps : ps.map (fun p => (p.1, ev S p.2)) = (ps.map fun p => yH (ev S p.2)).zipIdx.map (fun p => (p.2, .d p.1)) := by kernel_rfl) (hok : (ps.all fun p => (yH (ev S p.2)).ok1 && Nat.beq (yH (ev S p.2)).cells.length s) = true := by kernel_rfl) (hl : Nat.beq zd.length (ps.length * s) = true := by kernel_rfl) :
    vO P o S [] (.d (.agg (uR (ps.map fun p => yH (ev S p.2))))) := by
  rw [List.all_eq_true] at hok
  refine e_bldF (ds := ps.map fun p => yH (ev S p.2)) ho hT hz hzd hps ?_ ?_ (by rw [List.length_map]; exact hl) rfl
  · rw [List.all_eq_true]
    intro d hd
    obtain ⟨p, hp, rfl⟩ := List.mem_map.1 hd
    have := hok p hp
    rw [Bool.and_eq_true] at this
    exact this.1
  · rw [List.all_eq_true]
    intro d hd
    obtain ⟨p, hp, rfl⟩ := List.mem_map.1 hd
    have := hok p hp
    rw [Bool.and_eq_true] at this
    exact this.2
theorem bs_fill {s len : Nat} {ps : List (Nat × Operand)} {zd : List kY} (hzl : Nat.beq zd.length s = true) (hps : ps.map (fun p => (p.1, ev S p.2)) = (ps.map fun p => yH (ev S p.2)).zipIdx.map (fun p => (p.2, .d p.1)))
    (hok : (ps.all fun p => (yH (ev S p.2)).ok1 && Nat.beq (yH (ev S p.2)).cells.length s) = true) (hl : Nat.beq ps.length len = true) :
    (∀ e ∈ ps.map (fun p => yH (ev S p.2)), e.cells.length = s) ∧ dE (fun i => some (i * s, s)) (List.replicate len zd).flatten (((ps.map fun p => yH (ev S p.2)).zipIdx.map fun p => (p.2, p.1)).map fun p => (p.1, p.2.cells)) = some (uR (ps.map fun p => yH (ev S p.2))) := by
  have hzl := Nat.eq_of_beq_eq_true hzl
  have hl := Nat.eq_of_beq_eq_true hl
  have hs : ∀ e ∈ ps.map (fun p => yH (ev S p.2)), e.cells.length = s := fun d hd => by
    obtain ⟨p, hp, rfl⟩ := List.mem_map.1 hd
    have := List.all_eq_true.1 hok p hp
    rw [Bool.and_eq_true] at this
    exact Nat.eq_of_beq_eq_true this.2
  refine ⟨hs, ?_⟩
  have h := fillL_all (ps.map fun p => yH (ev S p.2)) 0 [] (List.replicate len zd).flatten (by simp) (by
    rw [List.length_map, hl, List.length_flatten, List.map_replicate, hzl]; simp) hs
  rw [List.nil_append, List.nil_append] at h
  rw [List.map_map]
  exact h
theorem nM {E : TypeId} {s len : Nat} {ps : List (Nat × Operand)} {zv : List Value} {zd : List kY} (hT : xO P T = some (E, s)) (hz : xC P E = some zv) (hzd : nV zv zd) (ho : o.op = .buildSlice T len ps.toArray := by exact rfl)
    (hzl : Nat.beq zd.length s = true := by kernel_rfl) (hps : ps.map (fun p => (p.1, ev S p.2)) = (ps.map fun p => yH (ev S p.2)).zipIdx.map (fun p => (p.2, .d p.1)) := by kernel_rfl) (hok : (ps.all fun p => (yH (ev S p.2)).ok1 && Nat.beq (yH (ev S p.2)).cells.length s) = true := by kernel_rfl) (hl : Nat.beq ps.length len = true := by kernel_rfl)
    (hbig : Nat.ble (len * s) 16777216 = true := by kernel_rfl) (hbig' : Nat.ble len 16777216 = true := by kernel_rfl) : vO P o S [] (.d (.sl E s (ps.map fun p => yH (ev S p.2)))) := by
  obtain ⟨h1, h2⟩ := bs_fill hzl hps hok hl
  refine e_buildSlice (pd := (ps.map fun p => yH (ev S p.2)).zipIdx.map fun p => (p.2, p.1)) ho hT hz hzd (Nat.eq_of_beq_eq_true hzl) (by rw [hps, List.map_map]; rfl) ?_ (Nat.le_of_ble_eq_true hbig) (Nat.le_of_ble_eq_true hbig') (by rw [List.length_map]; exact Nat.eq_of_beq_eq_true hl) h1 h2
  rw [List.all_eq_true]
  intro q hq
  obtain ⟨p, hp, rfl⟩ := List.mem_map.1 hq
  obtain ⟨p', hp', he⟩ := List.mem_map.1 (List.fst_mem_of_mem_zipIdx hp)
  have := List.all_eq_true.1 hok p' hp'
  rw [Bool.and_eq_true] at this
  rw [← he]
  exact this.1
theorem oBe {E : TypeId} {s : Nat} (hT : xO P T = some (E, s)) (ho : o.op = .buildSlice T 0 #[] := by exact rfl) : vO P o S [] .emp := e_bse ho hT
theorem oBo {E : TypeId} {s len : Nat} {ps : List (Nat × Operand)} {zv : List Value} {zd : List kY} (b : Nat) (hT : xO P T = some (E, s)) (hz : xC P E = some zv) (hzd : nV zv zd) (ho : o.op = .buildSlice T len ps.toArray := by exact rfl)
    (hzl : Nat.beq zd.length s = true := by kernel_rfl) (hps : ps.map (fun p => (p.1, ev S p.2)) = (ps.map fun p => yH (ev S p.2)).zipIdx.map (fun p => (p.2, .d p.1)) := by kernel_rfl) (hok : (ps.all fun p => (yH (ev S p.2)).ok1 && Nat.beq (yH (ev S p.2)).cells.length s) = true := by kernel_rfl) (hl : Nat.beq ps.length len = true := by kernel_rfl)
    (hbig : Nat.ble (len * s) 16777216 = true := by kernel_rfl) (hbig' : Nat.ble len 16777216 = true := by kernel_rfl) : NOk P o S b ((uR (ps.map fun p => yH (ev S p.2))).map .d) (.own b E s len) := by
  obtain ⟨h1, h2⟩ := bs_fill hzl hps hok hl
  refine n_bso (pd := (ps.map fun p => yH (ev S p.2)).zipIdx.map fun p => (p.2, p.1)) b ho hT hz hzd (Nat.eq_of_beq_eq_true hzl) (by rw [hps, List.map_map]; rfl) ?_ hbig hbig' (by rw [List.length_map]; exact Nat.eq_of_beq_eq_true hl) ?_ h2 rfl
  · rw [List.all_eq_true]
    intro q hq
    obtain ⟨p, hp, rfl⟩ := List.mem_map.1 hq
    obtain ⟨p', hp', he⟩ := List.mem_map.1 (List.fst_mem_of_mem_zipIdx hp)
    have := List.all_eq_true.1 hok p' hp'
    rw [Bool.and_eq_true] at this
    rw [← he]
    exact this.1
  · refine List.eq_replicate_iff.2 ⟨by rw [List.length_map, List.length_map]; exact Nat.eq_of_beq_eq_true hl, fun z hz => ?_⟩
    obtain ⟨e, he, rfl⟩ := List.mem_map.1 hz
    exact h1 e he
theorem vN {d : kY} (b : Nat) (ho : o.op = .box T x := by exact rfl) (hx : ev S x = .d d := by exact rfl) (h1 : d.ok1 = true := by kernel_rfl) : NOk P o S b (bx d) (.ref b 0) := n_box b ho hx h1
theorem qP {zv : List Value} {zd : List kY} (b : Nat) (hz : xC P T = some zv) (hzd : nV zv zd) (ho : o.op = .alloc T := by exact rfl) : NOk P o S b (zd.map .d) (.ref b 0) := n_alloc b ho hz hzd
theorem oMk {α : Type} {E : TypeId} {s bytes : Nat} {kl kc : IntKind} {zv : List Value} {zd : List kY} {x y : Operand} (b : Nat) (F : α → kY) (z : α) (N M : Nat) (hT : xO P T = some (E, s)) (hz : xC P E = some zv) (hzd : nV zv zd) (hby : nK P E = some bytes) (ho : o.op = .makeSlice T x y := by exact rfl)
    (hl : ev S x = .d (.val (.int kl m)) := by exact rfl) (hc : ev S y = .d (.val (.int kc n)) := by exact rfl) (hlN : m = ((N : Nat) : Int) := by omega) (hcM : n = ((M : Nat) : Int) := by omega) (hzl : Nat.beq zd.length s = true := by kernel_rfl) (hnm : N ≤ M := by omega) (hb : bytes * M ≤ 281474976710656 := by omega) (hm : M ≤ maxLen := by unfold maxLen; omega) (hzF : zd = [F z] := by kernel_rfl) :
    NOk P o S b ((List.replicate M z).map (fun g => SV.d (F g))) (.own b E s N) := by
  subst hlN; subst hcM; subst hzF
  exact n_mks b ho hT hz hzd (Nat.eq_of_beq_eq_true hzl) hby hl hc hnm hb hm (own_zero F M z)
end
section
variable {P : Program} {o : Oper} {S : SL} {B : BS} {T : TypeId} {x y : Operand} {k off : Nat}
theorem uM {cs : List SV} (hs : qY P T = some (false, 1)) (ho : o.op = .load T x := by exact rfl) (hx : ev (qB S) x = .ref k off := by exact rfl) (hb : uJ B k = some cs := by exact rfl) (hl : Nat.blt off cs.length = true := by kernel_rfl) : ROk P o S B k (cs.getD off .junk) :=
  ⟨cs, e_ld1 ho hx hs (by
    have hl := Nat.le_of_ble_eq_true hl
    simp [List.getElem?_eq_getElem hl, List.getD]), hb⟩
theorem jZ {sz : Nat} {cs : List SV} (hs : qY P T = some (true, sz)) (ho : o.op = .load T x := by exact rfl) (hx : ev (qB S) x = .ref k off := by exact rfl) (hb : uJ B k = some cs := by exact rfl) (hl : Nat.ble (off + sz) cs.length = true := by kernel_rfl) : ROk P o S B k (gF true ((cs.drop off).take sz)) := ⟨cs, e_lda ho hx hs hl rfl, hb⟩
theorem oLp {α : Type} {F : α → kY} {L : List α} (hs : qY P T = some (false, 1)) (j : Nat) (d : α) (ho : o.op = .load T x := by exact rfl) (hx : ev (qB S) x = .ref k j := by exact rfl) (hb : uJ B k = some (L.map fun g => SV.d (F g)) := by exact rfl) (h1 : j < L.length := by omega) : ROk P o S B k (.d (F (L.getD j d))) := ⟨_, e_ld1 ho hx hs (own_get F L j d h1), hb⟩
theorem kU {sz : Nat} {agg : Bool} {old : List SV} {d : kY} (hs : qY P T = some (agg, sz)) (ho : o.op = .store T x y := by exact rfl) (hx : ev (qB S) x = .ref k off := by exact rfl) (hy : ev (qB S) y = .d d := by exact rfl) (hb : uJ B k = some old := by exact rfl) (h1 : d.ok1 = true := by kernel_rfl) (vR : Nat.beq d.cells.length sz = true := by kernel_rfl) (hle : Nat.ble (off + sz) old.length = true := by kernel_rfl) : TK P o S B k (patch old off (d.cells.map .d)) :=
  ⟨old, t_std ho hx hy hs h1 (Nat.eq_of_beq_eq_true vR) hle rfl, hb⟩
theorem oSo {j E s N : Nat} {u : SV} (hs : qY P T = some (false, 1)) (ho : o.op = .store T x y := by exact rfl) (hx : ev (qB S) x = .ref k 0 := by exact rfl) (hy : ev (qB S) y = .own j E s N := by exact rfl) (hb : uJ B k = some [u] := by exact rfl) : TK P o S B k [.own j E s N] := ⟨_, t_sto ho hx hy hs, hb⟩
theorem oSp {α : Type} {F : α → kY} {L : List α} (hs : qY P T = some (false, 1)) (j : Nat) (v : α) (ho : o.op = .store T x y := by exact rfl) (hx : ev (qB S) x = .ref k j := by exact rfl) (hb : uJ B k = some (L.map fun g => SV.d (F g)) := by exact rfl) (hy : ev (qB S) y = .d (F v) := by kernel_rfl) (h2 : (F v).ok1 = true := by kernel_rfl) (h3 : (F v).cells = [F v] := by kernel_rfl) (h1 : j < L.length := by omega) : TK P o S B k ((L.set j v).map fun g => SV.d (F g)) :=
  ⟨_, t_st1 ho hx hy hs h2 h3 (own_len F L j h1) (own_set F L j v), hb⟩
theorem jX {S : Nat → SV} {xs : List Operand} {ats : Array TypeId} {f : FuncId} {ds : List kY} {r : kY} (hf : kD P f ds r) (ho : o.op = .call { callee := .value y, args := xs.toArray, argTypes := ats } := by exact rfl) (hy : ev S y = .d (.val (.func (.func f) #[] #[])) := by kernel_rfl) (hx : xs.map (ev S) = ds.map .d := by kernel_rfl) : vO P o S [] (.d r) := e_cl hf ho hy hx
theorem oCo {xs : List Operand} {ats : Array TypeId} {f : FuncId} {ds : List kY} {α : Type} {F : α → kY} {L : List α} {Tt s N : Nat} {S : Nat → SV} (b : Nat) (hf : TakesO P f ds Tt s N (L.map F)) (ho : o.op = .call { callee := .value y, args := xs.toArray, argTypes := ats } := by exact rfl) (hy : ev S y = .d (.val (.func (.func f) #[] #[])) := by kernel_rfl) (hx : xs.map (ev S) = ds.map .d := by kernel_rfl) : NOk P o S b (L.map (fun g => SV.d (F g))) (.own b Tt s N) := n_own b hf ho hy hx (by rw [List.map_map]; rfl)
end
inductive NilL : List kY → List kY → Prop
  | nil : NilL [] []
  | same {d : kY} {l l' : List kY} (h : NilL l l') : NilL (d :: l) (d :: l')
  | cut (t s : Nat) {l l' : List kY} (h : NilL l l') : NilL (.sl t s [] :: l) (.val (.slice none 0 0) :: l')
theorem NilL.rep {ds ds' : List kY} (h : NilL ds ds') {w : World} {D : uT} : ds.length = ds'.length ∧ ∀ (i : Nat) (v : Value) (d : kY), ds[i]? = some d → (∀ d', ds'[i]? = some d' → xF w D v d') → xF w D v d := by
  induction h with
  | nil => exact ⟨rfl, fun i v d h => by simp at h⟩
  | same h ih =>
    refine ⟨by simp [ih.1], fun i v d hd hr => ?_⟩
    cases i with
    | zero => exact hr d (by simpa using hd)
    | succ i => exact ih.2 i v d (by simpa using hd) (fun d' hd' => hr d' (by simpa using hd'))
  | cut t s h ih =>
    refine ⟨by simp [ih.1], fun i v d hd hr => ?_⟩
    cases i with
    | zero =>
      have e := hr (.val (.slice none 0 0)) (by simp)
      simp only [List.getElem?_cons_zero, Option.some.injEq] at hd
      subst hd
      exact nil_sl t s w D (fun _ => none) v e
    | succ i => exact ih.2 i v d (by simpa using hd) (fun d' hd' => hr d' (by simpa using hd'))
theorem clr_none {k j : Nat} {bs : BS} (h : Clr k bs) : Clr k ((j, none) :: bs) := fun i c hi hb => by
  rw [kX] at hb
  split at hb
  · cases hb
  · exact h i c hi hb
section
variable {P : Program} {n : Fr} {ops : Array Oper} {K : SL → BS → Prop} {S : SL} {B : BS} {l : List Oper} {o : Oper} {α : Type} {T E t' : TypeId} {x y : Operand} {k s m bytes : Nat} {zv : List Value}
theorem app_go (F : α → kY) {L L' : List α} {m2 : Nat} (hF : ∀ g, (F g).cells.length = s) (ho : o.op = .call { callee := .builtin .append, args := #[x, y], argTypes := #[T, T] }) (g : goK n ops S o = true) (hT : xO P T = some (E, s)) (hz : xC P E = some zv) (hzl : zv.length = s) (hby : nK P E = some bytes)
    (hx : ev (qB S) x = .own k E s m) (hb : uJ B k = some (fZ F L)) (hL : L.length = m) (hy : ev (qB S) y = .d (.sl t' s (L'.map F))) (hbig : m + L'.length ≤ maxLen) (hbig' : (m + L'.length) * bytes ≤ 140737488355328) (hB : Clr k B) (hm : m + L'.length = m2)
    (r : SK P n ops K ((dO o, .own k E s m2) :: hP k S) ((k, some (fZ F (L ++ L'))) :: B) l) : SK P n ops K S B (o :: l) := by
  obtain ⟨hd, hg, hdB⟩ := nP g
  refine zX (S1 := (dO o, .own k E s m2) :: hP k S) (B1 := (k, some (fZ F (L ++ L'))) :: B) (fun C a w Q hn hs => ?_) hg r
  subst hm
  have := app_sound (st := ⟨S, B⟩) (N := n) (es := L.map F) (es' := L'.map F) ho (by rw [hd]; exact hdB) hT hz hzl hby hx hb rfl (by rw [eL F hF, hL]) hy (by simpa using hbig) (by simpa using hbig') hB C a w Q hn hs
  rw [hd, ← List.map_append, List.length_map] at this
  exact this
theorem zA (F : α → kY) (L L' : List α) (hL : L.length = m) (hT : xO P T = some (E, 1)) (hz : xC P E = some zv) (hby : nK P E = some bytes) (r : SK P n ops K ((dO o, .own k E 1 (L ++ L').length) :: hP k S) ((k, some ((L ++ L').map (fun g => SV.d (F g)))) :: B) l)
    (ho : o.op = .call { callee := .builtin .append, args := #[x, y], argTypes := #[T, T] } := by exact rfl) (g : goK n ops S o = true := by kernel_rfl) (hx : ev (qB S) x = .own k E 1 m := by exact rfl) (hb : uJ B k = some (L.map (fun g => SV.d (F g))) := by kernel_rfl) (hy : ev (qB S) y = .d (.sl t' 1 (L'.map F)) := by exact rfl) (hF : ∀ g, (F g).cells = [F g] := by intro g; kernel_rfl) (hzl : zv.length = 1 := by kernel_rfl)
    (hbig : m + L'.length ≤ maxLen := by first | (simp only [List.length_cons, List.length_nil, maxLen]; omega) | (simp [maxLen]; omega)) (hbig' : (m + L'.length) * bytes ≤ 140737488355328 := by first | omega | (simp only [List.length_cons, List.length_nil]; omega) | (simp; omega))
    (hB : Clr k B := by repeat first | exact clr_nil _ | refine clr_self ?_ | refine clr_map ?_ | refine clr_none ?_ | refine clr_bx ?_ | refine clr_d ?_) : SK P n ops K S B (o :: l) :=
  app_go F (s := 1) (m2 := (L ++ L').length) (fun g => by rw [hF g]; rfl) ho g hT hz hzl hby hx (by rw [bxs_one F hF]; exact hb) hL hy hbig hbig' hB (by rw [List.length_append, hL]) (by rw [bxs_one F hF]; exact r)
theorem zAS (F : α → kY) (L L' : List α) (hL : L.length = m) (hT : xO P T = some (E, s)) (hz : xC P E = some zv) (hby : nK P E = some bytes) (r : SK P n ops K ((dO o, .own k E s (L ++ L').length) :: hP k S) ((k, some (fZ F (L ++ L'))) :: B) l)
    (ho : o.op = .call { callee := .builtin .append, args := #[x, y], argTypes := #[T, T] } := by exact rfl) (g : goK n ops S o = true := by kernel_rfl) (hx : ev (qB S) x = .own k E s m := by exact rfl) (hb : uJ B k = some (fZ F L) := by kernel_rfl) (hy : ev (qB S) y = .d (.sl t' s (L'.map F)) := by exact rfl) (hF : ∀ g, (F g).cells.length = s := by intro g; kernel_rfl) (hzl : zv.length = s := by kernel_rfl)
    (hbig : m + L'.length ≤ maxLen := by first | (simp only [List.length_cons, List.length_nil, maxLen]; omega) | (simp [maxLen]; omega)) (hbig' : (m + L'.length) * bytes ≤ 140737488355328 := by first | omega | (simp only [List.length_cons, List.length_nil]; omega) | (simp; omega))
    (hB : Clr k B := by repeat first | exact clr_nil _ | refine clr_self ?_ | refine clr_map ?_ | refine clr_none ?_ | refine clr_bx ?_ | refine clr_d ?_) : SK P n ops K S B (o :: l) :=
  app_go F (m2 := (L ++ L').length) hF ho g hT hz hzl hby hx hb hL hy hbig hbig' hB (by rw [List.length_append, hL]) r
theorem zAQ (F : α → kY) (L L' : List α) (hL : L.length = m) (hT : xO P T = some (E, 1)) (hz : xC P E = some zv) (hby : nK P E = some bytes) (r : SK P n ops K ((dO o, .d (.sl E 1 ((L ++ L').map F))) :: hP k S) ((k, none) :: B) l)
    (ho : o.op = .call { callee := .builtin .append, args := #[x, y], argTypes := #[T, T] } := by exact rfl) (g : goK n ops S o = true := by kernel_rfl) (hx : ev (qB S) x = .own k E 1 m := by exact rfl) (hb : uJ B k = some (L.map (fun g => SV.d (F g))) := by kernel_rfl) (hy : ev (qB S) y = .d (.sl t' 1 (L'.map F)) := by exact rfl) (hF : ∀ g, (F g).cells = [F g] := by intro g; kernel_rfl) (hzl : zv.length = 1 := by kernel_rfl)
    (hbig : m + L'.length ≤ maxLen := by first | (simp only [List.length_cons, List.length_nil, maxLen]; omega) | (simp [maxLen]; omega)) (hbig' : (m + L'.length) * bytes ≤ 140737488355328 := by first | omega | (simp only [List.length_cons, List.length_nil]; omega) | (simp; omega))
    (hB : Clr k B := by repeat first | exact clr_nil _ | refine clr_self ?_ | refine clr_map ?_ | refine clr_none ?_ | refine clr_bx ?_ | refine clr_d ?_) : SK P n ops K S B (o :: l) := by
  obtain ⟨hd, hg, hdB⟩ := nP g
  exact zX (appP_sem F L L' (fun g => by rw [hF g]; rfl) ho hd hdB hT hz hzl hby hx (by rw [bxs_one F hF]; exact hb) hL hy hbig hbig' hB) hg r
theorem zO (k E s : Nat) (r : SK P n ops K ((dO o, .own k E s 0) :: S) ((k, some []) :: B) l) (h : nilK o = true := by kernel_rfl) (g : goK n ops S o = true := by kernel_rfl) (hf : gQ k ⟨S, B⟩ = true := by kernel_rfl) : SK P n ops K S B (o :: l) := by
  obtain ⟨hd, hg, hdB⟩ := nP g
  exact zX (nilOwn_sem k E s ((nilK_eq h).elim .inr .inl) hd hdB hf) hg r
end
section
variable {P : Program} {n : Fr} {Q : Exit → PS → Prop} {st : PS} {c : Operand} {x y : Code}
theorem jY (h1 : uY P n x Q st) (hc : ev (qB st.sl) c = .d (.val (.bool true)) := by kernel_rfl) : uY P n (.cond c x y) Q st := jS (b := true) hc (fun _ => h1) (fun h => by cases h)
theorem kG (h2 : uY P n y Q st) (hc : ev (qB st.sl) c = .d (.val (.bool false)) := by kernel_rfl) : uY P n (.cond c x y) Q st := jS (b := false) hc (fun h => by cases h) (fun _ => h2)
end
end Go.Fid
namespace Go.Proofs.YtbecgnplakngdaaGreat
open Go.Fid
set_option maxRecDepth 4000
set_option linter.unusedVariables false
set_option linter.unusedSimpArgs false
theorem nA : nK Tryz.prog 152 = some 4 := by kernel_rfl
theorem cb179 : callB Tryz.prog 179 = true := by kernel_rfl
theorem cb193 : callB Tryz.prog 193 = true := by kernel_rfl
theorem cb194 : callB Tryz.prog 194 = true := by kernel_rfl
theorem cb206 : callB Tryz.prog 206 = true := by kernel_rfl
theorem cb213 : callB Tryz.prog 213 = true := by kernel_rfl
theorem kP : xO Tryz.prog 38 = some (152, 1) := by kernel_rfl
theorem gH : intB Tryz.prog 152 = some .u32 := by kernel_rfl
theorem yO : intB Tryz.prog 154 = some .u64 := by kernel_rfl
theorem uN : qY Tryz.prog 152 = some (false, 1) := by kernel_rfl
theorem yV : (Tryz.prog.underlying 152).isSome = true := by kernel_rfl
theorem gR : (Tryz.prog.underlying 154).isSome = true := by kernel_rfl
theorem xE : xC Tryz.prog 152 = some [.int .u32 0] := by kernel_rfl
theorem yS : nV [.int .u32 0] [.val (.int .u32 0)] := by simp [nV, Value.oneCell']
theorem t_at (l : List Nat) (i : Nat) : kD Tryz.prog 213 [(.sl 152 1 (List.map jB l)), (.val (.int .i64 (((i : Nat) : Int))))] (.val (.int .u32 ((((l.getD i 0) : Nat) : Int)))) := by
 refine jK Tryz.func213 rfl cb213 rfl ?_
 show uY _ _ _ _ ⟨[(0, (vl 152 1 jB l)), (1, (kE i))], []⟩
 refine jA <| kx [] [] (zM <| zZ) ?_
 refine jA <| jA <| kx [(8, (vb (decide (((i : Nat) : Int) < ((l.length : Nat) : Int)))))] [] (zM <| zM <| zE (nX kP) <| zE qM <| zZ) ?_
 refine jS rfl (fun h1 => ?_) (fun h1 => ?_)
 ·replace h1 := of_decide_eq_true h1
  refine jA <| kx [(4, (eE (l.getD i 0)))] [] (zM <| zM <| zE (oXl kP i (0 : Nat)) <| zE (xT uN) <| zM <| zZ) ?_
  refine jH ⟨_, (.tmp (d := (.val (.int .u32 ((((l.getD i 0) : Nat) : Int))))) rfl .nil), ?_⟩
  rfl
 ·replace h1 := of_decide_eq_false h1
  refine jD <| jA <| kx [(4, (eE 0))] [] (zM <| zZ) ?_
  refine jH ⟨_, (.tmp (d := (.val (.int .u32 (0)))) rfl .nil), ?_⟩
  rw [show l.getD i 0 = 0 from getD_out (by omega)]; rfl
theorem t_trim (l0 : List Nat) (hd : Dig l0) (hb : l0.length ≤ 17592186044416) : kD Tryz.prog 206 [(.sl 152 1 (List.map jB l0))] (.sl 152 1 (List.map jB (ofNat (val l0)))) := by
 refine jK Tryz.func206 rfl cb206 rfl ?_
 show uY _ _ _ _ ⟨[(0, (vl 152 1 jB l0))], []⟩
 refine jA <| kx [] [] (zE (oNl 152 1) <| zZ) ?_
 refine jA <| jE <| uZ (α := List Nat) (fun l => ⟨[(0, (vl 152 1 jB l))], []⟩) (fun l => Dig l ∧ val l = val l0 ∧ l.length ≤ l0.length) (fun l => l.length) l0 wk ⟨hd, rfl, Nat.le_refl _⟩ ?_
 rintro l ⟨hl, hv, hle⟩
 refine jA <| jA <| kx [(14, (vb (decide (0 < ((l.length : Nat) : Int)) && ((((l.getD (l.length - 1) 0) : Nat) : Int) == 0))))] [] ?_ ?_
 ·refine zM <| zE (nX kP) <| zE hM <| zE (oV (vb (decide (0 < ((l.length : Nat) : Int)))) (vX (by kernel_rfl))) <| ?_
  rcases hb1 : (decide (0 < ((l.length : Nat) : Int))) with _ | _
  ·replace hb1 := of_decide_eq_false hb1
   exact zK <| zK <| zK <| zK <| zK <| zK <| zK <| zE mV <| zZ
  ·replace hb1 := of_decide_eq_true hb1
   exact zM <| zM <| zE (nX kP) <| zE (oSb (l.length - 1)) <| zE (oXl kP (l.length - 1) (0 : Nat)) <| zE (xT uN) <| zE oEq <| zE oPa <| zZ
 refine jS rfl (fun h2 => ?_) (fun h2 => ?_)
 ·obtain ⟨hp, _⟩ := trim_cond h2
  refine jD <| jE <| kx [(0, (vl 152 1 jB (List.take (l.length - 1) l)))] [] (zM <| zM <| zE (nX kP) <| zE (oSb (l.length - 1)) <| zE (e_slc (l := 0) (h := (l.length - 1)) (kl := .i64) (kh := .i64) (es' := List.map jB (List.take (l.length - 1) l)) (by exact rfl) kP (by exact rfl) (by exact rfl) (by exact rfl) (Nat.zero_le _) (by simp only [List.length_map]; omega) (by rw [List.drop_zero, List.map_take])) <| zM <| zZ) ?_
  exact ⟨(l.take (l.length - 1)), wk, (trim_step hl hv hle h2), (trim_less h2)⟩
 ·refine kK <| jA <| kx [(2, (vl 152 1 jB l))] [] (zM <| zM <| zZ) ?_
  refine jH ⟨_, (.tmp (d := (.sl 152 1 (List.map jB l))) rfl .nil), ?_⟩
  rw [trim_end hl hv h2]; rfl
theorem t_plus (a b : List Nat) (hda : Dig a) (hdb : Dig b) (hla : a.length ≤ 8796093022208) (hlb : b.length ≤ 8796093022208) : kD Tryz.prog 193 [(.sl 152 1 (List.map jB a)), (.sl 152 1 (List.map jB b))] (.sl 152 1 (List.map jB (ofNat (val a + val b)))) := by
 refine jK Tryz.func193 rfl cb193 rfl ?_
 show uY _ _ _ _ ⟨[(0, (vl 152 1 jB a)), (1, (vl 152 1 jB b))], []⟩
 refine jA <| kx [] [] (zE (oNl 152 1) <| zZ) ?_
 refine jA <| kx [(5, (.own 0 152 1 ((max a.length b.length) + 1)))] [(0, some (bm jB (List.replicate ((max a.length b.length) + 1) 0)))] (zM <| zE (nX kP) <| zM <| zE (nX kP) <| zE (oMx (max a.length b.length)) <| zE (uI ((max a.length b.length) + 1)) <| zN (oMk 0 jB (0 : Nat) ((max a.length b.length) + 1) ((max a.length b.length) + 1) kP xE yS nA) <| zM <| zZ) ?_
 refine jA <| kx [(6, (eE 0))] [] (zM <| zZ) ?_
 refine jA <| jA <| kx [(17, (kE ((max a.length b.length) + 1))), (18, (kE 0))] [] (zM <| zE (oLo kP) <| zM <| zZ) ?_
 refine jE <| uZ (α := Nat × List Nat × Nat) (fun (i, out, c) => ⟨[(0, (vl 152 1 jB a)), (1, (vl 152 1 jB b)), (5, (.own 0 152 1 ((max a.length b.length) + 1))), (6, (eE c)), (17, (kE ((max a.length b.length) + 1))), (18, (kE i))], [(0, some (bm jB out))]⟩) (fun (i, out, c) => out.length = max a.length b.length + 1 ∧ Dig out ∧ i ≤ max a.length b.length + 1 ∧ c ≤ 1 ∧ val (out.take i) + pw i * c = val (a.take i) + val (b.take i)) (fun (i, out, c) => max a.length b.length + 1 - i) (0, List.replicate (max a.length b.length + 1) 0, 0) wk ⟨by simp, zW _, Nat.zero_le _, Nat.zero_le _, by simp [val]⟩ ?_
 rintro ⟨i, out, c⟩ ⟨vR, hdo, hi, hc, hv⟩
 have hai := hda.getD i
 have hbi := hdb.getD i
 refine jA <| kx [(19, (vb (decide (((i : Nat) : Int) < ((((max a.length b.length) + 1) : Nat) : Int)))))] [] (zE qM <| zZ) ?_
 refine jA <| jS rfl (fun h1 => ?_) (fun h1 => ?_)
 ·replace h1 := of_decide_eq_true h1
  refine jD <| jA <| jE <| jA <| kx [(7, (kE i))] [] (zM <| zM <| zZ) ?_
  refine jA <| kx [(8, (eE (((a.getD i 0) + (b.getD i 0)) + c)))] [] (zM <| zM <| zE (jX (t_at a i)) <| zM <| zM <| zE (jX (t_at b i)) <| zE (uI ((a.getD i 0) + (b.getD i 0))) <| zM <| zE (uI (((a.getD i 0) + (b.getD i 0)) + c)) <| zM <| zZ) ?_
  refine jA <| kx [(6, (eE 0))] [] (zM <| zZ) ?_
  refine jA <| jA <| kx [(31, (vb (decide (1000000000 ≤ (((((a.getD i 0) + (b.getD i 0)) + c) : Nat) : Int)))))] [] (zM <| zE oGe <| zZ) ?_
  refine jS rfl (fun h2 => ?_) (fun h2 => ?_)
  ·replace h2 := of_decide_eq_true h2
   refine kx [(6, (eE 1)), (8, (eE ((((a.getD i 0) + (b.getD i 0)) + c) - 1000000000)))] [] (zM <| zE (oSb ((((a.getD i 0) + (b.getD i 0)) + c) - 1000000000)) <| zM <| zM <| zZ) ?_
   refine kx [] [(0, some (bm jB (out.set i ((((a.getD i 0) + (b.getD i 0)) + c) - 1000000000))))] (zM <| zM <| zM <| zE (oXo kP i) <| zT (oSp uN i ((((a.getD i 0) + (b.getD i 0)) + c) - 1000000000)) <| zZ) ?_
   refine kx [(18, (kE (i + 1)))] [] (zE (uI (i + 1)) <| zM <| zZ) ?_
   exact ⟨(i + 1, out.set i (a.getD i 0 + b.getD i 0 + c - 1000000000), 1), wk, (by obtain ⟨q1, q2, q3⟩ := plus_step (s := a.getD i 0 + b.getD i 0 + c - 1000000000) (c' := 1) vR hdo (by omega) hv (by omega) (by omega); exact ⟨q1, q2, by omega, by omega, q3⟩), (by first | omega | (dsimp only; omega))⟩
  ·replace h2 := of_decide_eq_false h2
   refine jD <| kx [] [(0, some (bm jB (out.set i (((a.getD i 0) + (b.getD i 0)) + c))))] (zM <| zM <| zM <| zE (oXo kP i) <| zT (oSp uN i (((a.getD i 0) + (b.getD i 0)) + c)) <| zZ) ?_
   refine kx [(18, (kE (i + 1)))] [] (zE (uI (i + 1)) <| zM <| zZ) ?_
   exact ⟨(i + 1, out.set i (a.getD i 0 + b.getD i 0 + c), 0), wk, (by obtain ⟨q1, q2, q3⟩ := plus_step (s := a.getD i 0 + b.getD i 0 + c) (c' := 0) vR hdo (by omega) hv (by omega) (by omega); exact ⟨q1, q2, by omega, by omega, q3⟩), (by first | omega | (dsimp only; omega))⟩
 ·replace h1 := of_decide_eq_false h1
  have hie : i = max a.length b.length + 1 := by omega
  rw [hie] at hv
  refine kK <| jA <| kV (xX (t := 5) (k := 0) (es := List.map jB out) rfl rfl (xL _ _ (fun _ => rfl)) (xQ _ _ vR) (zP _ _ (fun _ => rfl) vR)) ?_
  refine kx [(4, (vl 152 1 jB (ofNat (val out))))] [] (zM <| zE (jX (t_trim out (by assumption) (by omega))) <| zM <| zZ) ?_
  refine jH ⟨_, (.tmp (d := (.sl 152 1 (List.map jB (ofNat (val out))))) rfl .nil), ?_⟩
  rw [plus_end hda hdb vR hv]; rfl
theorem t_minus (a b : List Nat) (hda : Dig a) (hdb : Dig b) (hba : val b ≤ val a) (hla : a.length ≤ 8796093022208) : kD Tryz.prog 194 [(.sl 152 1 (List.map jB a)), (.sl 152 1 (List.map jB b))] (.sl 152 1 (List.map jB (ofNat (val a - val b)))) := by
 refine jK Tryz.func194 rfl cb194 rfl ?_
 show uY _ _ _ _ ⟨[(0, (vl 152 1 jB a)), (1, (vl 152 1 jB b))], []⟩
 refine jA <| kx [] [] (zE (oNl 152 1) <| zZ) ?_
 refine jA <| kx [(5, (.own 0 152 1 a.length))] [(0, some (bm jB (List.replicate a.length 0)))] (zM <| zE (nX kP) <| zN (oMk 0 jB (0 : Nat) a.length a.length kP xE yS nA) <| zM <| zZ) ?_
 refine jA <| kx [(6, (eE 0))] [] (zM <| zZ) ?_
 refine jA <| jA <| kx [(13, (kE a.length)), (14, (kE 0))] [] (zM <| zE (oLo kP) <| zM <| zZ) ?_
 refine jE <| uZ (α := Nat × List Nat × Nat) (fun (i, out, c) => ⟨[(0, (vl 152 1 jB a)), (1, (vl 152 1 jB b)), (5, (.own 0 152 1 a.length)), (6, (eE c)), (13, (kE a.length)), (14, (kE i))], [(0, some (bm jB out))]⟩) (fun (i, out, c) => out.length = a.length ∧ Dig out ∧ i ≤ a.length ∧ c ≤ 1 ∧ val (out.take i) + val (b.take i) = val (a.take i) + pw i * c) (fun (i, out, c) => a.length - i) (0, List.replicate a.length 0, 0) wk ⟨by simp, zW _, Nat.zero_le _, Nat.zero_le _, by simp [val]⟩ ?_
 rintro ⟨i, out, c⟩ ⟨vR, hdo, hi, hc, hv⟩
 have hai := hda.getD i
 have hbi := hdb.getD i
 refine jA <| kx [(15, (vb (decide (((i : Nat) : Int) < ((a.length : Nat) : Int)))))] [] (zE qM <| zZ) ?_
 refine jA <| jS rfl (fun h1 => ?_) (fun h1 => ?_)
 ·replace h1 := of_decide_eq_true h1
  refine jD <| jA <| jE <| jA <| kx [(7, (kE i))] [] (zM <| zM <| zZ) ?_
  refine jA <| kx [(8, (eE ((b.getD i 0) + c)))] [] (zM <| zM <| zE (jX (t_at b i)) <| zM <| zE (uI ((b.getD i 0) + c)) <| zM <| zZ) ?_
  refine jA <| kx [(6, (eE 0))] [] (zM <| zZ) ?_
  refine jA <| kx [(27, (vb (decide ((((a.getD i 0) : Nat) : Int) < ((((b.getD i 0) + c) : Nat) : Int)))))] [] (zM <| zM <| zE (oXl kP i (0 : Nat)) <| zE (xT uN) <| zM <| zE qM <| zZ) ?_
  refine jS rfl (fun h2 => ?_) (fun h2 => ?_)
  ·replace h2 := of_decide_eq_true h2
   refine kx [(6, (eE 1))] [(0, some (bm jB (out.set i (((a.getD i 0) + 1000000000) - ((b.getD i 0) + c)))))] (zM <| zM <| zM <| zM <| zE (oXl kP i (0 : Nat)) <| zE (xT uN) <| zE (uI ((a.getD i 0) + 1000000000)) <| zM <| zE (oSb (((a.getD i 0) + 1000000000) - ((b.getD i 0) + c))) <| zE (oXo kP i) <| zT (oSp uN i (((a.getD i 0) + 1000000000) - ((b.getD i 0) + c))) <| zM <| zZ) ?_
   refine kx [(14, (kE (i + 1)))] [] (zE (uI (i + 1)) <| zM <| zZ) ?_
   exact ⟨(i + 1, out.set i (a.getD i 0 + 1000000000 - (b.getD i 0 + c)), 1), wk, (by obtain ⟨q1, q2, q3⟩ := minus_step (s := a.getD i 0 + 1000000000 - (b.getD i 0 + c)) (c' := 1) vR hdo (by omega) hv (by omega) (by omega); exact ⟨q1, q2, by omega, by omega, q3⟩), (by first | omega | (dsimp only; omega))⟩
  ·replace h2 := of_decide_eq_false h2
   refine kx [] [(0, some (bm jB (out.set i ((a.getD i 0) - ((b.getD i 0) + c)))))] (zM <| zM <| zM <| zM <| zE (oXl kP i (0 : Nat)) <| zE (xT uN) <| zM <| zE (oSb ((a.getD i 0) - ((b.getD i 0) + c))) <| zE (oXo kP i) <| zT (oSp uN i ((a.getD i 0) - ((b.getD i 0) + c))) <| zZ) ?_
   refine kx [(14, (kE (i + 1)))] [] (zE (uI (i + 1)) <| zM <| zZ) ?_
   exact ⟨(i + 1, out.set i (a.getD i 0 - (b.getD i 0 + c)), 0), wk, (by obtain ⟨q1, q2, q3⟩ := minus_step (s := a.getD i 0 - (b.getD i 0 + c)) (c' := 0) vR hdo (by omega) hv (by omega) (by omega); exact ⟨q1, q2, by omega, by omega, q3⟩), (by first | omega | (dsimp only; omega))⟩
 ·replace h1 := of_decide_eq_false h1
  have hie : i = a.length := by omega
  rw [hie] at hv
  refine kK <| jA <| kV (xX (t := 5) (k := 0) (es := List.map jB out) rfl rfl (xL _ _ (fun _ => rfl)) (xQ _ _ vR) (zP _ _ (fun _ => rfl) vR)) ?_
  refine kx [(4, (vl 152 1 jB (ofNat (val out))))] [] (zM <| zE (jX (t_trim out (by assumption) (by omega))) <| zM <| zZ) ?_
  refine jH ⟨_, (.tmp (d := (.sl 152 1 (List.map jB (ofNat (val out))))) rfl .nil), ?_⟩
  rw [minus_end hda hdb hdo hba vR hv]; rfl
theorem t_times (a b : List Nat) (hda : Dig a) (hdb : Dig b) (hla : a.length ≤ 4398046511104) (hlb : b.length ≤ 4398046511104) : kD Tryz.prog 179 [(.sl 152 1 (List.map jB a)), (.sl 152 1 (List.map jB b))] (.sl 152 1 (List.map jB (ofNat (val a * val b)))) := by
 refine jK Tryz.func179 rfl cb179 rfl ?_
 show uY _ _ _ _ ⟨[(0, (vl 152 1 jB a)), (1, (vl 152 1 jB b))], []⟩
 refine jA <| kx [] [] (zE (oNl 152 1) <| zZ) ?_
 refine jA <| kx [(5, (.own 0 152 1 (a.length + b.length)))] [(0, some (bm jB (List.replicate (a.length + b.length) 0)))] (zM <| zE (nX kP) <| zM <| zE (nX kP) <| zE (uI (a.length + b.length)) <| zN (oMk 0 jB (0 : Nat) (a.length + b.length) (a.length + b.length) kP xE yS nA) <| zM <| zZ) ?_
 refine jA <| jA <| kx [(18, (vl 152 1 jB a)), (19, (kE a.length)), (20, (kE 0))] [] (zM <| zE (nX kP) <| zM <| zZ) ?_
 refine jE <| uZ (α := Nat × List Nat) (fun (i, out) => ⟨[(1, (vl 152 1 jB b)), (5, (.own 0 152 1 (a.length + b.length))), (18, (vl 152 1 jB a)), (19, (kE a.length)), (20, (kE i))], [(0, some (bm jB out))]⟩) (fun (i, out) => out.length = a.length + b.length ∧ Dig out ∧ i ≤ a.length ∧ (∀ k, i + b.length ≤ k → out.getD k 0 = 0) ∧ val out = val (a.take i) * val b) (fun (i, out) => a.length - i) (0, List.replicate (a.length + b.length) 0) wk ⟨by simp, zW _, Nat.zero_le _, fun k _ => dW _ k, by simp [val, cJ]⟩ ?_
 rintro ⟨i, out⟩ ⟨vR, hdo, hi, hz, hv⟩
 have hai := hda.getD i
 refine jA <| kx [(21, (vb (decide (((i : Nat) : Int) < ((a.length : Nat) : Int)))))] [] (zE qM <| zZ) ?_
 refine jA <| jS rfl (fun h1 => ?_) (fun h1 => ?_)
 ·replace h1 := of_decide_eq_true h1
  refine jD <| jA <| jE <| jA <| kx [(6, (kE i)), (7, (eE (a.getD i 0)))] [] (zM <| zE (oXl kP i (0 : Nat)) <| zE (xT uN) <| zM <| zM <| zZ) ?_
  refine jA <| kx [(8, (yY 0))] [] (zM <| zZ) ?_
  refine jA <| jA <| kx [(25, (vl 152 1 jB b)), (26, (kE b.length)), (27, (kE 0))] [] (zM <| zE (nX kP) <| zM <| zZ) ?_
  refine jE <| uZ (α := Nat × List Nat × Nat) (fun (j, o2, c) => ⟨[(1, (vl 152 1 jB b)), (5, (.own 0 152 1 (a.length + b.length))), (6, (kE i)), (7, (eE (a.getD i 0))), (8, (yY c)), (18, (vl 152 1 jB a)), (19, (kE a.length)), (20, (kE i)), (25, (vl 152 1 jB b)), (26, (kE b.length)), (27, (kE j))], [(0, some (bm jB o2))]⟩) (fun (j, o2, c) => o2.length = a.length + b.length ∧ Dig o2 ∧ j ≤ b.length ∧ c < 1000000000 ∧ (∀ k, i + b.length ≤ k → o2.getD k 0 = 0) ∧ val o2 + pw (i + j) * c = val (a.take i) * val b + pw i * (a.getD i 0 * val (b.take j))) (fun (j, o2, c) => b.length - j) (0, out, 0) wk ⟨vR, hdo, Nat.zero_le _, by decide, hz, by simp [val, hv]⟩ ?_
  rintro ⟨j, o2, c⟩ ⟨hlen2, hdo2, hj, hc, hz2, hv2⟩
  have hbj := hdb.getD j
  have hoj := hdo2.getD (i + j)
  have hpq : a.getD i 0 * b.getD j 0 ≤ 999999999 * 999999999 := Nat.mul_le_mul (by omega) (by omega)
  refine jA <| kx [(28, (vb (decide (((j : Nat) : Int) < ((b.length : Nat) : Int)))))] [] (zE qM <| zZ) ?_
  refine jA <| jS rfl (fun h2 => ?_) (fun h2 => ?_)
  ·replace h2 := of_decide_eq_true h2
   refine jD <| jA <| jE <| jA <| kx [(9, (kE j)), (10, (eE (b.getD j 0)))] [] (zM <| zE (oXl kP j (0 : Nat)) <| zE (xT uN) <| zM <| zM <| zZ) ?_
   refine jA <| kx [(11, (yY (((o2.getD (i + j) 0) + ((a.getD i 0) * (b.getD j 0))) + c)))] [] (zM <| zM <| zM <| zE (uI (i + j)) <| zE (oXo kP (i + j)) <| zR (oLp uN (i + j) (0 : Nat)) <| zE (nS yV yO (o2.getD (i + j) 0)) <| zM <| zE (nS yV yO (a.getD i 0)) <| zM <| zE (nS yV yO (b.getD j 0)) <| zE (oMl ((a.getD i 0) * (b.getD j 0))) <| zE (uI ((o2.getD (i + j) 0) + ((a.getD i 0) * (b.getD j 0)))) <| zM <| zE (uI (((o2.getD (i + j) 0) + ((a.getD i 0) * (b.getD j 0))) + c)) <| zM <| zZ) ?_
   refine kx [(8, (yY ((((o2.getD (i + j) 0) + ((a.getD i 0) * (b.getD j 0))) + c) / 1000000000)))] [(0, some (bm jB (o2.set (i + j) ((((o2.getD (i + j) 0) + ((a.getD i 0) * (b.getD j 0))) + c) % 1000000000))))] (zM <| zM <| zM <| zE (uI (i + j)) <| zM <| zE (oRe ((((o2.getD (i + j) 0) + ((a.getD i 0) * (b.getD j 0))) + c) % 1000000000)) <| zE (nS gR gH ((((o2.getD (i + j) 0) + ((a.getD i 0) * (b.getD j 0))) + c) % 1000000000)) <| zM <| zE (oQu ((((o2.getD (i + j) 0) + ((a.getD i 0) * (b.getD j 0))) + c) / 1000000000)) <| zE (oXo kP (i + j)) <| zT (oSp uN (i + j) ((((o2.getD (i + j) 0) + ((a.getD i 0) * (b.getD j 0))) + c) % 1000000000)) <| zM <| zZ) ?_
   refine kx [(27, (kE (j + 1)))] [] (zE (uI (j + 1)) <| zM <| zZ) ?_
   exact ⟨(j + 1, o2.set (i + j) ((o2.getD (i + j) 0 + a.getD i 0 * b.getD j 0 + c) % 1000000000), (o2.getD (i + j) 0 + a.getD i 0 * b.getD j 0 + c) / 1000000000), wk, (by obtain ⟨q1, q2⟩ := times_step (by omega) hdo2 hv2 rfl (val_take_succ b j); exact ⟨by simpa using hlen2, q1, by omega, by omega, zero_set (by omega) hz2, q2⟩), (by first | omega | (dsimp only; omega))⟩
  ·replace h2 := of_decide_eq_false h2
   have hje : j = b.length := by omega
   rw [hje] at hv2
   refine kK <| kx [] [(0, some (bm jB (o2.set (i + b.length) c)))] (zM <| zM <| zM <| zE (nX kP) <| zE (uI (i + b.length)) <| zM <| zE (nS gR gH c) <| zE (oXo kP (i + b.length)) <| zT (oSp uN (i + b.length) c) <| zZ) ?_
   refine kx [(20, (kE (i + 1)))] [] (zE (uI (i + 1)) <| zM <| zZ) ?_
   exact ⟨(i + 1, o2.set (i + b.length) c), wk, (by obtain ⟨q1, q2, q3, q4⟩ := times_row hdo2 (by omega) hlen2 hz2 hc hv2; exact ⟨q1, q2, by omega, q3, q4⟩), (by first | omega | (dsimp only; omega))⟩
 ·replace h1 := of_decide_eq_false h1
  have hie : i = a.length := by omega
  rw [hie, List.take_length] at hv
  refine kK <| jA <| kV (xX (t := 5) (k := 0) (es := List.map jB out) rfl rfl (xL _ _ (fun _ => rfl)) (xQ _ _ vR) (zP _ _ (fun _ => rfl) vR)) ?_
  refine kx [(4, (vl 152 1 jB (ofNat (val out))))] [] (zM <| zE (jX (t_trim out (by assumption) (by omega))) <| zM <| zZ) ?_
  refine jH ⟨_, (.tmp (d := (.sl 152 1 (List.map jB (ofNat (val out))))) rfl .nil), ?_⟩
  rw [hv]; rfl
end Go.Proofs.YtbecgnplakngdaaGreat
namespace Go.Proofs.YtbecgnplakngdaaGreat
open Go.RowKit Go.Shelf
attribute [local go_sem] Oper.semAt_some
set_option maxRecDepth 100000 in
set_option maxHeartbeats 2000000 in
theorem back1 (N l Bs b off len cap : Nat) (u : Nat → Value) (vR : (len : Int) ≤ 9223372036854775807) (J : Nat → World → Prop) (Jx : World → Prop)
    (hc : ∀ j W, J j W → W.cell? ⟨Bs, 0, none⟩ = some (.slice (some ⟨b, off, none⟩) len cap) ∧ ∀ i, i < len → W.cell? ⟨b, off + i, none⟩ = some (u i))
    (hY : ∀ j W, J j W → j < len → YieldAt Fence.wide N Tryz.prog l #[.int .i64 ((len : Int) - 1 - (j : Int)), u (len - 1 - j)] W fun e W' =>
      (e = .returned (.bool true) ∧ J (j + 1) W') ∨ (e = .returned (.bool false) ∧ Jx W'))
    (W : World) (h0 : J 0 W) :
    CallsIn Fence.wide (N + 1) Tryz.prog 203 #[.func (.yield l) #[] #[], .pointer (some ⟨Bs, 0, none⟩)] W fun e W' => (∃ v, e = .returned v) ∧ (J len W' ∨ Jx W') := by
  refine callsIn_of_wp Tryz.func203 rfl trivial ?_ rfl
  simp only [Tryz.ntmps203, List.size_toArray, List.length_cons, List.length_nil, Nat.reduceAdd, Nat.reduceSub, Array.replicate_succ, Array.replicate_zero, List.push_toArray, List.append_toArray, List.nil_append, List.cons_append]
  have hBs := (hc 0 W h0).1
  gi_wp2
  gi_loopw [3] (fun i wr => ∃ j : Nat, j ≤ len ∧ i = .int .i64 ((len : Int) - 1 - (j : Int)) ∧ J j wr)
    (fun i _ => (intOf i + 1).toNat)
  case atStart => exact ⟨0, Nat.zero_le _, by simp, h0⟩
  case round =>
    obtain ⟨j, hk, rfl, hJs⟩ := hrel
    have hBj := (hc j wr hJs).1
    by_cases hlt : j < len
    · have hcj := (hc j wr hJs).2 (len - 1 - j) (by omega)
      obtain ⟨fn, tmps, assign, body, hy, hR⟩ := hY j wr hJs hlt
      gi_wp2
      refine hR.mono ?_
      rintro e W3 (⟨rfl, hJ3⟩ | ⟨rfl, hJx3⟩)
      · gi_wp2
        go_roundw
        case rel => exact ⟨j + 1, by omega, by simp; omega, hJ3⟩
        case measure => simp [intOf]; omega
      · gi_wp2
        refine bodyPost_ret (results_none rfl _ _ _) rfl ?_
        exact ⟨⟨_, rfl⟩, .inr hJx3⟩
    · obtain rfl : j = len := by omega
      gi_wp2
      go_end0
      exact ⟨⟨_, rfl⟩, .inl hJs⟩
set_option maxRecDepth 100000 in
set_option maxHeartbeats 2000000 in
theorem back1_nil (N l Bs cap : Nat) (ao : Option Addr) (J : World → Prop) (W : World) (hBs : W.cell? ⟨Bs, 0, none⟩ = some (.slice ao 0 cap)) (h0 : J W) :
    CallsIn Fence.wide (N + 1) Tryz.prog 203 #[.func (.yield l) #[] #[], .pointer (some ⟨Bs, 0, none⟩)] W fun e W' => (∃ v, e = .returned v) ∧ J W' := by
  refine callsIn_of_wp Tryz.func203 rfl trivial ?_ rfl
  simp only [Tryz.ntmps203, List.size_toArray, List.length_cons, List.length_nil, Nat.reduceAdd, Nat.reduceSub, Array.replicate_succ, Array.replicate_zero, List.push_toArray, List.append_toArray, List.nil_append, List.cons_append]
  gi_wp2
  gi_loopw [3] (fun i wr => i = .int .i64 (-1) ∧ J wr) (fun _ _ => 0)
  case atStart => exact ⟨by simp, h0⟩
  case round =>
    obtain ⟨rfl, hJs⟩ := hrel
    gi_wp2
    go_end0
    exact ⟨⟨_, rfl⟩, hJs⟩
set_option maxHeartbeats 1000000 in
theorem back_in (a : Option Addr) (len cap : Nat) (w : World) :
    Calls Tryz.prog 166 #[.slice a len cap] w fun e w' => e = .returned (.func (.func 203) #[] #[.pointer (some ⟨w.heap.size, 0, none⟩)]) ∧ w' = w.alloc (.cells #[.slice a len cap] 38) := by
  refine (callsIn_wide (n := 1)).1 (callsIn_of_wp Tryz.func166 rfl trivial ?_ rfl)
  simp only [Tryz.ntmps166, List.size_toArray, List.length_cons, List.length_nil, Nat.reduceAdd, Nat.reduceSub, Array.replicate_succ, Array.replicate_zero, List.push_toArray, List.append_toArray, List.nil_append, List.cons_append]
  gi_wp2
  go_ret
  exact ⟨rfl, rfl⟩
theorem backs : Go.Fid.Backs Tryz.prog 166 203 38 := ⟨back_in, back1_nil, fun N l c b off len cap u vR J Jx hc hY W h0 => back1 N l c b off len cap u vR J Jx hc hY W h0, enters_of Tryz.func203 (by kernel_rfl) rfl⟩
end Go.Proofs.YtbecgnplakngdaaGreat
namespace Go.Proofs.YtbecgnplakngdaaGreat
open Go.Fid
set_option maxRecDepth 4000
set_option linter.unusedVariables false
set_option linter.unusedSimpArgs false
theorem cb166 : callB Tryz.prog 166 = true := by kernel_rfl
theorem cb178 : callB Tryz.prog 178 = true := by kernel_rfl
theorem cb180 : callB Tryz.prog 180 = true := by kernel_rfl
theorem cb183 : callB Tryz.prog 183 = true := by kernel_rfl
theorem cb184 : callB Tryz.prog 184 = true := by kernel_rfl
theorem cb185 : callB Tryz.prog 185 = true := by kernel_rfl
theorem cb208 : callB Tryz.prog 208 = true := by kernel_rfl
theorem cb209 : callB Tryz.prog 209 = true := by kernel_rfl
theorem cb218 : callB Tryz.prog 218 = true := by kernel_rfl
theorem pl40 : nT Tryz.prog 40 = some [(0, 1), (1, 1)] := by kernel_rfl
theorem uH : qY Tryz.prog 3 = some (false, 1) := by kernel_rfl
theorem yU : qY Tryz.prog 38 = some (false, 1) := by kernel_rfl
theorem kF : qY Tryz.prog 40 = some (true, 2) := by kernel_rfl
theorem sh154 : qY Tryz.prog 154 = some (false, 1) := by kernel_rfl
theorem ze3 : xC Tryz.prog 3 = some [.int .i64 0] := by kernel_rfl
theorem gL : xC Tryz.prog 40 = some [.bool false, .slice none 0 0] := by kernel_rfl
theorem ze154 : xC Tryz.prog 154 = some [.int .u64 0] := by kernel_rfl
theorem zo3 : nV [.int .i64 0] [.val (.int .i64 0)] := by simp [nV, Value.oneCell']
theorem gM : nV [.bool false, .slice none 0 0] [.val (.bool false), .sl 152 1 []] := by simp [nV, Value.oneCell']
theorem zo154 : nV [.int .u64 0] [.val (.int .u64 0)] := by simp [nV, Value.oneCell']
theorem t_isnan_int (a : Int) : kD Tryz.prog 208 [(.val (.int .i64 (a)))] (.val (.bool (false))) := by
 refine jK Tryz.func208 rfl cb208 rfl ?_
 show uY _ _ _ _ ⟨[(0, (vi a))], []⟩
 refine jA <| kx [] [] (zM <| zZ) ?_
 refine jA <| kx [(2, (vb (a != a)))] [] (zM <| zM <| zE dL <| zM <| zZ) ?_
 refine jH ⟨_, (.tmp (d := (.val (.bool ((a != a))))) rfl .nil), ?_⟩
 simp [retD]
theorem t_cmp_int (a b : Int) : kD Tryz.prog 183 [(.val (.int .i64 (a))), (.val (.int .i64 (b)))] (.val (.int .i64 ((xB a b)))) := by
 refine jK Tryz.func183 rfl cb183 rfl ?_
 show uY _ _ _ _ ⟨[(0, (vi a)), (1, (vi b))], []⟩
 refine jA <| kx [] [] (zM <| zZ) ?_
 refine jA <| kx [(5, (vb false))] [] (zM <| zE (jX (t_isnan_int a)) <| zM <| zZ) ?_
 refine jA <| kx [(6, (vb false))] [] (zM <| zE (jX (t_isnan_int b)) <| zM <| zZ) ?_
 refine jA <| jA <| kx [(11, (vb false))] [] (zM <| zZ) ?_
 refine kG ?_
 refine jD <| jA <| jA <| kx [(13, (vb false))] [] (zM <| zZ) ?_
 refine kG ?_
 refine jD <| jA <| jA <| kx [(16, (vb (decide (a < b))))] [] (zM <| zM <| zE qM <| zZ) ?_
 refine jS (b := decide (a < b)) rfl (fun h1 => ?_) (fun h1 => ?_)
 ·replace h1 := of_decide_eq_true h1
  refine jA <| kx [(4, (vi (-1)))] [] (zM <| zZ) ?_
  refine jH ⟨_, (.tmp (d := (.val (.int .i64 (-1)))) rfl .nil), ?_⟩
  rw [show xB a b = -1 from if_pos h1]; rfl
 ·replace h1 := of_decide_eq_false h1
  refine jD <| jA <| jA <| kx [(19, (vb (decide (b < a))))] [] (zM <| zM <| zE hM <| zZ) ?_
  refine jS (b := decide (b < a)) rfl (fun h2 => ?_) (fun h2 => ?_)
  ·replace h2 := of_decide_eq_true h2
   refine jA <| kx [(4, (kE 1))] [] (zM <| zZ) ?_
   refine jH ⟨_, (.tmp (d := (.val (.int .i64 (1)))) rfl .nil), ?_⟩
   rw [eI h2]; rfl
  ·replace h2 := of_decide_eq_false h2
   refine jD <| jA <| kx [(4, (kE 0))] [] (zM <| zZ) ?_
   refine jH ⟨_, (.tmp (d := (.val (.int .i64 (0)))) rfl .nil), ?_⟩
   rw [cmpI_eq h1 h2]; rfl
theorem t_isnan_uint32 (a : Nat) : kD Tryz.prog 218 [(.val (.int .u32 (((a : Nat) : Int))))] (.val (.bool (false))) := by
 refine jK Tryz.func218 rfl cb218 rfl ?_
 show uY _ _ _ _ ⟨[(0, (eE a))], []⟩
 refine jA <| kx [] [] (zM <| zZ) ?_
 refine jA <| kx [(2, (vb (((a : Nat) : Int) != ((a : Nat) : Int))))] [] (zM <| zM <| zE dL <| zM <| zZ) ?_
 refine jH ⟨_, (.tmp (d := (.val (.bool ((((a : Nat) : Int) != ((a : Nat) : Int)))))) rfl .nil), ?_⟩
 simp [retD]
theorem t_cmp_uint32 (a b : Nat) : kD Tryz.prog 209 [(.val (.int .u32 (((a : Nat) : Int)))), (.val (.int .u32 (((b : Nat) : Int))))] (.val (.int .i64 ((xB ((a : Nat) : Int) ((b : Nat) : Int))))) := by
 refine jK Tryz.func209 rfl cb209 rfl ?_
 show uY _ _ _ _ ⟨[(0, (eE a)), (1, (eE b))], []⟩
 refine jA <| kx [] [] (zM <| zZ) ?_
 refine jA <| kx [(5, (vb false))] [] (zM <| zE (jX (t_isnan_uint32 a)) <| zM <| zZ) ?_
 refine jA <| kx [(6, (vb false))] [] (zM <| zE (jX (t_isnan_uint32 b)) <| zM <| zZ) ?_
 refine jA <| jA <| kx [(11, (vb false))] [] (zM <| zZ) ?_
 refine kG ?_
 refine jD <| jA <| jA <| kx [(13, (vb false))] [] (zM <| zZ) ?_
 refine kG ?_
 refine jD <| jA <| jA <| kx [(16, (vb (decide (((a : Nat) : Int) < ((b : Nat) : Int)))))] [] (zM <| zM <| zE qM <| zZ) ?_
 refine jS rfl (fun h1 => ?_) (fun h1 => ?_)
 ·replace h1 := of_decide_eq_true h1
  refine jA <| kx [(4, (vi (-1)))] [] (zM <| zZ) ?_
  refine jH ⟨_, (.tmp (d := (.val (.int .i64 (-1)))) rfl .nil), ?_⟩
  rw [show xB ((a : Nat) : Int) ((b : Nat) : Int) = -1 from if_pos h1]; rfl
 ·replace h1 := of_decide_eq_false h1
  refine jD <| jA <| jA <| kx [(19, (vb (decide (((b : Nat) : Int) < ((a : Nat) : Int)))))] [] (zM <| zM <| zE hM <| zZ) ?_
  refine jS rfl (fun h2 => ?_) (fun h2 => ?_)
  ·replace h2 := of_decide_eq_true h2
   refine jA <| kx [(4, (kE 1))] [] (zM <| zZ) ?_
   refine jH ⟨_, (.tmp (d := (.val (.int .i64 (1)))) rfl .nil), ?_⟩
   rw [eI h2]; rfl
  ·replace h2 := of_decide_eq_false h2
   refine jD <| jA <| kx [(4, (kE 0))] [] (zM <| zZ) ?_
   refine jH ⟨_, (.tmp (d := (.val (.int .i64 (0)))) rfl .nil), ?_⟩
   rw [cmpI_eq h1 h2]; rfl
theorem cH (neg : Bool) (l : List Nat) (hd : Dig l) (hb : l.length ≤ 17592186044416) : kD Tryz.prog 178 [(.val (.bool (neg))), (.sl 152 1 (List.map jB l))] (jU (xS neg (val l))) := by
 refine jK Tryz.func178 rfl cb178 rfl ?_
 show uY _ _ _ _ ⟨[(0, (vb neg)), (1, (vl 152 1 jB l))], []⟩
 refine jA <| kx [(4, (.ref 0 0))] [(0, some (bx (jU (jG.mk false []))))] (zN (qP 0 gL gM) <| zZ) ?_
 refine jA <| kx [(1, (vl 152 1 jB (ofNat (val l))))] [] (zM <| zE (jX (t_trim l (by assumption) (by omega))) <| zM <| zZ) ?_
 refine jA <| jA <| kx [(9, (vb ((((ofNat (val l)).length : Nat) : Int) == 0)))] [] (zM <| zE (nX kP (L := (ofNat (val l)))) <| zE oEq <| zZ) ?_
 refine jS rfl (fun h1 => ?_) (fun h1 => ?_)
 ·replace h1 := eq_of_beq h1
  refine jA <| kx [] [(0, some (bx (jU (jG.mk false []))))] (zE (oBd pl40 gL gM) <| zT (kU kF) <| zZ) ?_
  refine jH ⟨_, (kZ (cs := (bx (jU (jG.mk false [])))) (d := (jU (jG.mk false []))) rfl rfl kF rfl rfl .nil), ?_⟩
  rw [mkI_zero h1]; rfl
 ·replace h1 := ne_of_beq_false h1
  refine jD <| jA <| kx [] [(0, some (bx (jU (jG.mk neg (ofNat (val l))))))] (zM <| zM <| zE (oBd pl40 gL gM) <| zT (kU kF) <| zZ) ?_
  refine jH ⟨_, (kZ (cs := (bx (jU (jG.mk neg (ofNat (val l)))))) (d := (jU (jG.mk neg (ofNat (val l))))) rfl rfl kF rfl rfl .nil), ?_⟩
  rw [mkI_pos h1]; rfl
theorem t_word (l : List Nat) (hd : Dig l) : kD Tryz.prog 185 [(.sl 152 1 (List.map jB l))] (.tup [(.val (.int .u64 ((((yP l) : Nat) : Int)))), (.val (.bool ((nJ l))))]) := by
 refine jK Tryz.func185 rfl cb185 rfl ?_
 show uY _ _ _ _ ⟨[(0, (vl 152 1 jB l))], []⟩
 refine jA <| kx [(2, (yY 0)), (3, (vb false))] [] (zM <| zM <| zZ) ?_
 refine jA <| jA <| kx [(9, (vb (decide (2 < ((l.length : Nat) : Int)))))] [] (zM <| zE (nX kP) <| zE hM <| zZ) ?_
 refine jS (b := decide (2 < ((l.length : Nat) : Int))) rfl (fun h1 => ?_) (fun h1 => ?_)
 ·replace h1 := of_decide_eq_true h1
  refine jA <| kx [(2, (yY 0)), (3, (vb false))] [] (zM <| zM <| zZ) ?_
  refine jH ⟨_, (.tmp (d := (.val (.int .u64 (0)))) rfl (.tmp (d := (.val (.bool (false)))) rfl .nil)), ?_⟩
  rw [show yP l = 0 from if_neg (by omega), show nJ l = false from decide_eq_false (by omega)]; rfl
 ·replace h1 := of_decide_eq_false h1
  have h2 : l.length ≤ 2 := by omega
  refine jD <| jA <| kx [(4, (.ref 0 0))] [(0, some (bx (.val (.int .u64 (0)))))] (zN (qP 0 ze154 zo154) <| zT (kU sh154) <| zZ) ?_
  refine jA <| pwp_backL backs cb166 rfl 5 jB l 0 (fun n => ⟨[(2, (yY 0)), (3, (vb false)), (4, (.ref 0 0))], [(0, some (bx (.val (.int .u64 (((n : Nat) : Int))))))]⟩) (fun (j : Nat) n => n = val (l.drop (l.length - j))) 0 rfl rfl rfl rfl rfl rfl rfl rfl rfl rfl rfl rfl (fun _ => rfl) (fun _ => rfl) wk (by simp [val]) (by omega) ?_ ?_
  ·rintro rl j n hj hn
   have hw := word_bound hd hj h2
   rw [← hn] at hw
   have hg := hd.getD (l.length - 1 - j)
   refine kx [(6, (eE (l.getD (l.length - 1 - j) 0)))] [] (zM <| zZ) ?_
   refine jE <| kx [] [(0, some (bx (.val (.int .u64 (((((n * 1000000000) + (l.getD (l.length - 1 - j) 0)) : Nat) : Int))))))] (zR (uM sh154) <| zE (oMl (n * 1000000000)) <| zM <| zE (nS yV yO (l.getD (l.length - 1 - j) 0)) <| zE (uI ((n * 1000000000) + (l.getD (l.length - 1 - j) 0))) <| zT (kU sh154) <| zZ) ?_
   exact ⟨n * 1000000000 + l.getD (l.length - 1 - j) 0, wk, (by dsimp only; rw [fY l j hj, ← hn]; omega)⟩
  ·rintro n hn
   refine jA <| kx [(2, (yY n)), (3, (vb true))] [] (zR (uM sh154) <| zM <| zM <| zZ) ?_
   refine jH ⟨_, (.tmp (d := (.val (.int .u64 (((n : Nat) : Int))))) rfl (.tmp (d := (.val (.bool (true)))) rfl .nil)), ?_⟩
   rw [show yP l = n by rw [hn, Nat.sub_self, List.drop_zero]; exact if_pos h2, show nJ l = true from decide_eq_true h2]; rfl
theorem t_compare (a b : List Nat) (ha : gB a) (hb : gB b) (hla : a.length ≤ 17592186044416) : kD Tryz.prog 184 [(.sl 152 1 (List.map jB a)), (.sl 152 1 (List.map jB b))] (.val (.int .i64 ((xB ((val a : Nat) : Int) ((val b : Nat) : Int))))) := by
 refine jK Tryz.func184 rfl cb184 rfl ?_
 show uY _ _ _ _ ⟨[(0, (vl 152 1 jB a)), (1, (vl 152 1 jB b))], []⟩
 refine jA <| kx [(3, (.ref 0 0)), (4, (.ref 1 0))] [(0, some (bx (.sl 152 1 (List.map jB b)))), (1, some (bx (.val (.int .i64 (0)))))] (zN (vN 0) <| zN (qP 1 ze3 zo3) <| zZ) ?_
 refine jA <| jA <| kx [(11, (vb (((a.length : Nat) : Int) != ((b.length : Nat) : Int))))] [] (zM <| zE (nX kP) <| zR (uM yU) <| zE (nX kP) <| zE dL <| zZ) ?_
 refine jS rfl (fun h1 => ?_) (fun h1 => ?_)
 ·replace h1 := bne_iff_ne.1 h1
  refine jA <| kx [] [(1, some (bx (.val (.int .i64 ((xB ((a.length : Nat) : Int) ((b.length : Nat) : Int)))))))] (zM <| zE (nX kP) <| zR (uM yU) <| zE (nX kP) <| zE (jX (t_cmp_int ((a.length : Nat) : Int) ((b.length : Nat) : Int))) <| zT (kU uH) <| zZ) ?_
  refine jH ⟨_, (res_1 (cs := (bx (.val (.int .i64 ((xB ((a.length : Nat) : Int) ((b.length : Nat) : Int))))))) (d := (.val (.int .i64 ((xB ((a.length : Nat) : Int) ((b.length : Nat) : Int)))))) rfl rfl uH rfl rfl .nil), ?_⟩
  rw [← cmpI_len ha hb h1]; rfl
 ·replace h1 := bne_eq_false_iff_eq.1 h1
  have hl : a.length = b.length := by omega
  refine jD <| jA <| pwp_backL backs cb166 rfl 5 jB a 0 (fun _ => ⟨[(3, (.ref 0 0)), (4, (.ref 1 0))], [(0, some (bx (.sl 152 1 (List.map jB b)))), (1, some (bx (.val (.int .i64 (0)))))]⟩) (fun (j : Nat) _ => val (a.drop (a.length - j)) = val (b.drop (a.length - j))) () rfl rfl rfl rfl rfl rfl rfl rfl rfl rfl rfl rfl (fun _ => rfl) (fun _ => rfl) wk (by rw [Nat.sub_zero, List.drop_length, hl, List.drop_length]) (by omega) ?_ ?_
  ·rintro rl j ⟨⟩ hj he
   refine jA <| kx [(5, (kE (a.length - 1 - j)))] [] (zM <| zZ) ?_
   refine kx [(6, (eE (a.getD (a.length - 1 - j) 0)))] [] (zM <| zZ) ?_
   refine jE <| jA <| kx [(26, (vb ((((a.getD (a.length - 1 - j) 0) : Nat) : Int) != (((b.getD (a.length - 1 - j) 0) : Nat) : Int))))] [] (zM <| zR (uM yU) <| zM <| zE (oXl kP (a.length - 1 - j) (0 : Nat)) <| zE (xT uN) <| zE dL <| zZ) ?_
   refine jS rfl (fun h2 => ?_) (fun h2 => ?_)
   ·replace h2 := bne_iff_ne.1 h2
    refine jA <| kx [] [(1, some (bx (.val (.int .i64 ((xB (((a.getD (a.length - 1 - j) 0) : Nat) : Int) (((b.getD (a.length - 1 - j) 0) : Nat) : Int)))))))] (zM <| zR (uM yU) <| zM <| zE (oXl kP (a.length - 1 - j) (0 : Nat)) <| zE (xT uN) <| zE (jX (t_cmp_uint32 (a.getD (a.length - 1 - j) 0) (b.getD (a.length - 1 - j) 0))) <| zT (kU uH) <| zZ) ?_
    refine jH ⟨⟨[(4, (.ref 1 0))], [(1, some (bx (.val (.int .i64 ((xB (((a.getD (a.length - 1 - j) 0) : Nat) : Int) (((b.getD (a.length - 1 - j) 0) : Nat) : Int)))))))]⟩, wk, keys_of rfl, ⟨_, (res_1 (cs := (bx (.val (.int .i64 ((xB (((a.getD (a.length - 1 - j) 0) : Nat) : Int) (((b.getD (a.length - 1 - j) 0) : Nat) : Int))))))) (d := (.val (.int .i64 ((xB (((a.getD (a.length - 1 - j) 0) : Nat) : Int) (((b.getD (a.length - 1 - j) 0) : Nat) : Int)))))) rfl rfl uH rfl rfl .nil), ?_⟩⟩
    rw [← cmpI_top ha.1 hb.1 hl hj he h2]; rfl
   ·replace h2 := bne_eq_false_iff_eq.1 h2
    refine jD ?_
    exact ⟨(), wk, (by dsimp only; have e1 := fY a j hj; have e2 := fY b j (by omega); rw [← hl] at e2; rw [e1, e2, he]; omega)⟩
  ·rintro ⟨⟩ he
   refine jA <| kx [] [(1, some (bx (.val (.int .i64 (0)))))] (zT (kU uH) <| zZ) ?_
   refine jH ⟨_, (res_1 (cs := (bx (.val (.int .i64 (0))))) (d := (.val (.int .i64 (0)))) rfl rfl uH rfl rfl .nil), ?_⟩
   rw [cmpI_same (by rw [Nat.sub_self, List.drop_zero, List.drop_zero] at he; exact he)]; rfl
theorem t_split (n : Nat) (hn : n < 18446744073709551616) : kD Tryz.prog 180 [(.val (.int .u64 (((n : Nat) : Int))))] (.sl 152 1 (List.map jB (ofNat n))) := by
 refine jK Tryz.func180 rfl cb180 rfl ?_
 show uY _ _ _ _ ⟨[(0, (yY n))], []⟩
 refine jA <| kx [] [] (zE (oNl 152 1) <| zZ) ?_
 refine jA <| kx [(3, (.own 0 152 1 0))] [(0, some (bm jB []))] (zO 0 152 1 <| zZ) ?_
 refine jA <| jE <| uZ (α := Nat × List Nat) (fun (m, g) => ⟨[(0, (yY m)), (3, (.own 0 152 1 g.length))], [(0, some (bm jB g))]⟩) (fun (m, g) => m ≤ n ∧ g ++ ofNat m = ofNat n) (fun (m, g) => m) (n, []) wk ⟨Nat.le_refl _, by rw [List.nil_append]⟩ ?_
 rintro ⟨m, g⟩ ⟨hm, hg⟩
 have hl := split_len hg hn
 refine jA <| jA <| kx [(5, (vb (decide (0 < ((m : Nat) : Int)))))] [] (zM <| zE hM <| zZ) ?_
 refine jS (b := decide (0 < ((m : Nat) : Int))) rfl (fun h1 => ?_) (fun h1 => ?_)
 ·replace h1 := of_decide_eq_true h1
  refine jD <| jA <| jE <| kf [(3, (.own 0 152 1 ((g ++ [(m % 1000000000)]).length)))] [(0, some (bm jB (g ++ [(m % 1000000000)])))] (zM <| zM <| zE (oRe (m % 1000000000)) <| zE (nS gR gH (m % 1000000000)) <| zE (nM kP xE yS) <| zA jB g [(m % 1000000000)] rfl kP xE nA <| zM <| zF) ?_
  refine kx [(0, (yY (m / 1000000000)))] [] (zM <| zE (oQu (m / 1000000000)) <| zM <| zZ) ?_
  exact ⟨(m / 1000000000, g ++ [m % 1000000000]), wk, ⟨by omega, split_step hg h1⟩, (by first | omega | (dsimp only; omega))⟩
 ·replace h1 := of_decide_eq_false h1
  refine kK <| jA <| kV (xX (t := 3) (k := 0) (es := List.map jB g) rfl rfl (xL _ _ (fun _ => rfl)) (xQ _ _ rfl) (zP _ _ (fun _ => rfl) rfl)) ?_
  refine kx [(2, (vl 152 1 jB g))] [] (zM <| zM <| zZ) ?_
  refine jH ⟨_, (.tmp (d := (.sl 152 1 (List.map jB g))) rfl .nil), ?_⟩
  rw [split_end hg h1]; rfl
end Go.Proofs.YtbecgnplakngdaaGreat
namespace Go.Proofs.YtbecgnplakngdaaGreat
open Go.Fid
set_option maxRecDepth 4000
set_option linter.unusedVariables false
set_option linter.unusedSimpArgs false
theorem cb143 : callB Tryz.prog 143 = true := by kernel_rfl
theorem cb165 : callB Tryz.prog 165 = true := by kernel_rfl
theorem cb181 : callB Tryz.prog 181 = true := by kernel_rfl
theorem cb182 : callB Tryz.prog 182 = true := by kernel_rfl
theorem cb187 : callB Tryz.prog 187 = true := by kernel_rfl
theorem cb207 : callB Tryz.prog 207 = true := by kernel_rfl
theorem xM : xD Tryz.prog 40 0 = some 0 := by kernel_rfl
theorem zJ : xD Tryz.prog 40 1 = some 1 := by kernel_rfl
theorem sh4 : qY Tryz.prog 4 = some (false, 1) := by kernel_rfl
theorem t_big (a : Nat) : kD Tryz.prog 182 [(.val (.int .u32 (((a : Nat) : Int))))] (.val (.bool ((decide (1000000000 ≤ ((a : Nat) : Int)))))) := by
 refine jK Tryz.func182 rfl cb182 rfl ?_
 show uY _ _ _ _ ⟨[(0, (eE a))], []⟩
 refine jA <| kx [] [] (zM <| zZ) ?_
 refine jA <| kx [(2, (vb (decide (1000000000 ≤ ((a : Nat) : Int)))))] [] (zM <| zE oGe <| zM <| zZ) ?_
 refine jH ⟨_, (.tmp (d := (.val (.bool (decide (1000000000 ≤ ((a : Nat) : Int)))))) rfl .nil), ?_⟩
 rfl
theorem t_index (l : List Nat) (hb : l.length ≤ 17592186044416) : kD Tryz.prog 207 [(.sl 152 1 (List.map jB l)), (.val (.func (.func 182) #[] #[]))] (.val (.int .i64 ((xV l)))) := by
 refine jK Tryz.func207 rfl cb207 rfl ?_
 show uY _ _ _ _ ⟨[(0, (vl 152 1 jB l)), (1, (.d (.val (.func (.func 182) #[] #[]))))], []⟩
 refine jA <| kx [] [] (zM <| zZ) ?_
 refine jA <| jA <| kx [(7, (kE l.length)), (8, (kE 0))] [] (zM <| zE (nX kP) <| zM <| zZ) ?_
 refine jE <| uZ (α := Nat) (fun i => ⟨[(0, (vl 152 1 jB l)), (1, (.d (.val (.func (.func 182) #[] #[])))), (7, (kE l.length)), (8, (kE i))], []⟩) (fun i => i ≤ l.length ∧ Dig (l.take i)) (fun i => l.length - i) 0 wk ⟨Nat.zero_le _, gJ⟩ ?_
 rintro i ⟨hi, hd⟩
 refine jA <| kx [(9, (vb (decide (((i : Nat) : Int) < ((l.length : Nat) : Int)))))] [] (zE qM <| zZ) ?_
 refine jA <| jS rfl (fun h1 => ?_) (fun h1 => ?_)
 ·replace h1 := of_decide_eq_true h1
  refine jD <| jA <| jE <| jA <| kx [(5, (kE i))] [] (zM <| zM <| zZ) ?_
  refine jA <| kx [(16, (vb (decide (1000000000 ≤ (((l.getD i 0) : Nat) : Int)))))] [] (zM <| zM <| zM <| zE (oXl kP i (0 : Nat)) <| zE (xT uN) <| zE (jX (t_big (l.getD i 0))) <| zZ) ?_
  refine jS rfl (fun h2 => ?_) (fun h2 => ?_)
  ·replace h2 := of_decide_eq_true h2
   refine jA <| kx [(4, (kE i))] [] (zM <| zM <| zZ) ?_
   refine jH ⟨_, (.tmp (d := (.val (.int .i64 (((i : Nat) : Int))))) rfl .nil), ?_⟩
   rw [firstBig_at (by omega) hd (by omega)]; rfl
  ·replace h2 := of_decide_eq_false h2
   refine jD <| kx [(8, (kE (i + 1)))] [] (zE (uI (i + 1)) <| zM <| zZ) ?_
   exact ⟨(i + 1), wk, ⟨by omega, dig_take_succ (by omega) hd (by omega)⟩, (by omega)⟩
 ·replace h1 := of_decide_eq_false h1
  refine kK <| jA <| kx [(4, (vi (-1)))] [] (zM <| zZ) ?_
  refine jH ⟨_, (.tmp (d := (.val (.int .i64 (-1)))) rfl .nil), ?_⟩
  rw [aS (by rw [List.take_of_length_le (by omega)] at hd; exact hd)]; rfl
theorem t_contains (l : List Nat) (hb : l.length ≤ 17592186044416) : kD Tryz.prog 181 [(.sl 152 1 (List.map jB l)), (.val (.func (.func 182) #[] #[]))] (.val (.bool ((decide (0 ≤ xV l))))) := by
 refine jK Tryz.func181 rfl cb181 rfl ?_
 show uY _ _ _ _ ⟨[(0, (vl 152 1 jB l)), (1, (.d (.val (.func (.func 182) #[] #[]))))], []⟩
 refine jA <| kx [] [] (zM <| zZ) ?_
 refine jA <| kx [(4, (vb (decide (0 ≤ (xV l)))))] [] (zM <| zM <| zE (jX (t_index l (by omega))) <| zE oGe <| zM <| zZ) ?_
 refine jH ⟨_, (.tmp (d := (.val (.bool (decide (0 ≤ (xV l)))))) rfl .nil), ?_⟩
 rfl
theorem t_valid (x : jG) (hb : x.gs.length ≤ 17592186044416) : kD Tryz.prog 143 [(jU x)] (.val (.bool ((vF x)))) := by
 refine jK Tryz.func143 rfl cb143 rfl ?_
 show uY _ _ _ _ ⟨[(0, (.d (jU x)))], []⟩
 refine jA <| kx [(1, (.ref 0 0))] [(0, some (bx (jU x)))] (zN (vN 0) <| zM <| zZ) ?_
 refine jA <| kx [(3, (kE x.gs.length))] [] (zE (kO zJ) <| zR (uM yU) <| zE (nX kP) <| zM <| zZ) ?_
 refine jA <| jA <| kx [(8, (vb (((x.gs.length : Nat) : Int) == 0)))] [] (zM <| zE oEq <| zZ) ?_
 refine jS (b := (((x.gs.length : Nat) : Int) == 0)) rfl (fun h1 => ?_) (fun h1 => ?_)
 ·replace h1 := eq_of_beq h1
  refine jA <| kx [(2, (vb (!x.neg)))] [] (zE (kO xM) <| zR (uM sh4) <| zE oNt <| zM <| zZ) ?_
  refine jH ⟨_, (.tmp (d := (.val (.bool (!x.neg)))) rfl .nil), ?_⟩
  rw [show vF x = !x.neg from if_pos h1]; rfl
 ·replace h1 := ne_of_beq_false h1
  refine jD <| jA <| kx [(2, (vb (((((x.gs.getD (x.gs.length - 1) 0) : Nat) : Int) != 0) && !(decide (0 ≤ xV x.gs)))))] [] ?_ ?_
  ·refine zE (kO zJ) <| zR (uM yU) <| zM <| zE (oSb (x.gs.length - 1)) <| zE (oXl kP (x.gs.length - 1) (0 : Nat)) <| zE (xT uN) <| zE dL <| zE (oV (vb ((((x.gs.getD (x.gs.length - 1) 0) : Nat) : Int) != 0)) (vX (by kernel_rfl))) <| ?_
   rcases hb2 : ((((x.gs.getD (x.gs.length - 1) 0) : Nat) : Int) != 0) with _ | _
   ·replace hb2 := bne_eq_false_iff_eq.1 hb2
    exact zK <| zK <| zK <| zK <| zE mV <| zM <| zZ
   ·replace hb2 := bne_iff_ne.1 hb2
    exact zE (kO zJ) <| zR (uM yU) <| zE (jX (t_contains x.gs (by omega))) <| zE oNt <| zE oPa <| zM <| zZ
  refine jH ⟨_, (.tmp (d := (.val (.bool ((((((x.gs.getD (x.gs.length - 1) 0) : Nat) : Int) != 0) && !(decide (0 ≤ xV x.gs))))))) rfl .nil), ?_⟩
  rw [show vF x = _ from if_neg h1]; rfl
theorem gX (x : jG) (hb : x.gs.length ≤ 17592186044416) : kD Tryz.prog 165 [(jU x)] (.sl 152 1 (List.map jB (kS x))) := by
 refine jK Tryz.func165 rfl cb165 rfl ?_
 show uY _ _ _ _ ⟨[(0, (.d (jU x)))], []⟩
 refine jA <| kx [(1, (.ref 0 0))] [(0, some (bx (jU x)))] (zN (vN 0) <| zE (oNl 152 1) <| zZ) ?_
 refine jA <| jA <| kx [(5, (vb (!(vF x))))] [] (zR (jZ kF) <| zE (jX (t_valid x (by omega))) <| zE oNt <| zZ) ?_
 refine jS (b := !(vF x)) rfl (fun h1 => ?_) (fun h1 => ?_)
 ·refine jA <| kx [(2, (vl 152 1 jB []))] [] (zE (oNl 152 1) <| zZ) ?_
  refine jH ⟨_, (.tmp (d := (.sl 152 1 (List.map jB []))) rfl .nil), ?_⟩
  rw [show kS x = [] from if_neg (by simpa using h1)]; rfl
 ·refine jD <| jA <| kx [(2, (vl 152 1 jB x.gs))] [] (zE (kO zJ) <| zR (uM yU) <| zM <| zZ) ?_
  refine jH ⟨_, (.tmp (d := (.sl 152 1 (List.map jB x.gs))) rfl .nil), ?_⟩
  rw [show kS x = x.gs from if_pos (by simpa using h1)]; rfl
theorem t_clone (l : List Nat) (hb : l.length ≤ 17592186044416) : kD Tryz.prog 187 [(.sl 152 1 (List.map jB l))] (.sl 152 1 (List.map jB l)) := by
 refine jK Tryz.func187 rfl cb187 rfl ?_
 show uY _ _ _ _ ⟨[(0, (vl 152 1 jB l))], []⟩
 refine jA <| kx [] [] (zE (oNl 152 1) <| zZ) ?_
 refine jA <| jA <| pwp_nilq rfl rfl rfl rfl rfl rfl kP rfl rfl rfl (fun nb hnb => ?_)
 refine jS (b := nb) rfl (fun h1 => ?_) (fun h1 => ?_)
 ·refine jA <| kx [(2, (vl 152 1 jB []))] [] (zE (oNl 152 1) <| zZ) ?_
  refine jH ⟨_, (.tmp (d := (.sl 152 1 (List.map jB []))) rfl .nil), ?_⟩
  rw [List.map_eq_nil_iff.1 (hnb h1)]; rfl
 ·refine jD <| jA <| kf [(2, (.own 0 152 1 (([] ++ l).length)))] [(0, some (bm jB ([] ++ l)))] (zN (oBo 0 kP xE yS) <| zM <| zA jB [] l rfl kP xE nA <| zM <| zF) ?_
  refine kV (xX (t := 2) (k := 0) (es := List.map jB ([] ++ l)) rfl rfl (xL _ _ (fun _ => rfl)) (xQ _ _ rfl) (zP _ _ (fun _ => rfl) rfl)) ?_
  refine jH ⟨_, (.tmp (d := (.sl 152 1 (List.map jB ([] ++ l)))) rfl .nil), ?_⟩
  rfl
end Go.Proofs.YtbecgnplakngdaaGreat
