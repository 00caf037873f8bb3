/- Part 3 of a proof: rules, plain facts, and functions walked. -/
import Derived.Test.YtbecgnplakngdaaGreatM2
namespace Go.Fid
open Go.RowKit (Below)
structure Backs (P : Program) (fB fI : FuncId) (T : TypeId) : Prop where
  call : ∀ (a : Option Addr) (len cap : Nat) (w : World), Calls P fB #[.slice a len cap] w fun e w' => e = .returned (.func (.func fI) #[] #[.pointer (some ⟨w.heap.size, 0, none⟩)]) ∧ w' = w.alloc (.cells #[.slice a len cap] T)
  empty : ∀ (N l b cap : Nat) (ao : Option Addr) (J : World → Prop) (W : World), W.cell? ⟨b, 0, none⟩ = some (.slice ao 0 cap) → J W →
    CallsIn Fence.wide (N + 1) P fI #[.func (.yield l) #[] #[], .pointer (some ⟨b, 0, none⟩)] W fun e W' => (∃ v, e = .returned v) ∧ J W'
  rounds : ∀ (N l c b off len cap : Nat) (u : Nat → Value), (len : Int) ≤ 9223372036854775807 → ∀ (J : Nat → World → Prop) (Jx : World → Prop),
    (∀ j W, J j W → W.cell? ⟨c, 0, none⟩ = some (.slice (some ⟨b, off, none⟩) len cap) ∧ ∀ i, i < len → W.cell? ⟨b, off + i, none⟩ = some (u i)) →
    (∀ j W, J j W → j < len → YieldAt Fence.wide N P l #[.int .i64 ((len : Int) - 1 - (j : Int)), u (len - 1 - j)] W fun e W' => (e = .returned (.bool true) ∧ J (j + 1) W') ∨ (e = .returned (.bool false) ∧ Jx W')) →
    ∀ W, J 0 W → CallsIn Fence.wide (N + 1) P fI #[.func (.yield l) #[] #[], .pointer (some ⟨c, 0, none⟩)] W fun e W' => (∃ v, e = .returned v) ∧ (J len W' ∨ Jx W')
  enters : ∀ args w, (callFunc fI args).run P w = .ok (.enter fI args) w
theorem callsIn_any {P : Program} {f : FuncId} {args : Array Value} {w : World} {R : Ending → World → Prop} {n m : Nat} (h : CallsIn Fence.wide n P f args w R) : CallsIn Fence.wide m P f args w R := callsIn_wide.2 (callsIn_wide.1 h)
section
variable {C : Ctx} {a a' : Act} {w w' : World} {st : PS} {D : uT} {β : vP}
theorem sim_repin (h : cS C a w st) (a0 : Act) (hs : ∀ p ∈ st.sl, p.1 < C.n.lo) (hsz : a0.tmps.size = C.n.hi) (hp : ∀ t, t < C.n.lo → a0.tmps.getD t undef = C.tm.getD t undef) (hd : DfOk C.w0.heap.size w a0.defers) : cS C a0 w st := by
  obtain ⟨D, β, h⟩ := h
  refine ⟨D, β, ⟨hd, hsz, h.base.keep, h.base.oth, hp, h.base.below, h.base.dmono, h.base.dnew, h.base.dok⟩, h.mem, h.high, fun t => ?_⟩
  by_cases ht : t < C.n.lo
  · rw [hp t ht, ← h.base.pin t ht]; exact h.slots t
  · have : qB st.sl t = .junk := by
      have hne : ∀ p ∈ st.sl, p.1 ≠ t := fun p hp e => ht (e ▸ hs p hp)
      revert hne
      generalize st.sl = l
      intro hne
      induction l with
      | nil => rfl
      | cons p l ih =>
        obtain ⟨j, x⟩ := p
        rw [vS, if_neg (hne (j, x) (by simp))]
        exact ih fun q hq => hne q (by simp [hq])
    rw [this]; trivial
theorem sim_turned {q : Nat} {ob ob' : Obj} (h : cS C a w st) (hq : w.heap[q]? = some ob) (hc : ob.isCells = false) (hc' : ob'.isCells = false) (h0 : C.w0.heap.size ≤ q) (h1 : C.w1.heap.size ≤ q) (hne : ∀ ds, ob ≠ .deferred ds) : cS C a (w.putObj q ob') st := by
  obtain ⟨D, β, h⟩ := h
  have hsz : (w.putObj q ob').heap.size = w.heap.size := by simp [World.putObj]
  refine ⟨D, β, ⟨h.base.defers.keep fun q' hq' _ => ?_, h.base.size, fun t g o hd => (turned_cell hq hc hc' g o).trans (h.base.keep t g o hd), fun k o hk ho => ?_, h.base.pin, aM h.base.below h0, h.base.dmono, h.base.dnew, fun t g o hd => by rw [hsz]; exact h.base.dok t g o hd⟩,
    ⟨fun k cs hk => turned_blk hq hc hc' (h.mem.ok k cs hk), h.mem.inj⟩, h.high, fun t => aC hq hc hc' (h.slots t)⟩
  · have : q' ≠ q := fun e => by subst e; rw [hq] at hq'; injection hq' with e; exact hne _ e
    exact (World.putObj_heap_other this).trans hq'
  · have : k ≠ q := fun e => by subst e; have := zL hk; omega
    exact (World.putObj_heap_other this).trans (h.base.oth k o hk ho)
theorem sim_from (h : cS C a w st) : cS { C with w1 := w } a w st := by
  obtain ⟨D, β, h⟩ := h
  exact ⟨D, β, ⟨h.base.defers, h.base.size, fun _ _ _ _ => rfl, fun _ _ hk _ => hk, h.base.pin, h.base.below, h.base.dmono, h.base.dnew, h.base.dok⟩, h.mem, h.high, h.slots⟩
theorem sim_back {a0 : Act} {st0 : PS} (h : cS { C with w1 := w' } a w st) (h0 : cS C a0 w' st0) : cS C a w st := by
  obtain ⟨D, β, h⟩ := h
  obtain ⟨D0, β0, h0⟩ := h0
  exact ⟨D, β, ⟨h.base.defers, h.base.size, fun t g o hd => (h.base.keep t g o hd).trans (h0.base.keep t g o hd), fun k o hk ho => h.base.oth k o (h0.base.oth k o hk ho) ho, h.base.pin, h.base.below, h.base.dmono, h.base.dnew, h.base.dok⟩, h.mem, h.high, h.slots⟩
end
section
variable {P : Program} {n : Fr} {fB fI : FuncId} {T : TypeId} {S : SL} {B : BS} {Q : Exit → PS → Prop} {α : Type}
def BackQ (lo : Nat) (St : α → PS) (I : Nat → α → Prop) (Q : Exit → PS → Prop) (j : Nat) : Exit → PS → Prop
  | .normal, st => ∃ y, jW st (St y) ∧ I (j + 1) y
  | .ret, st => ∃ st', jW st st' ∧ (∀ p ∈ st'.sl, p.1 < lo) ∧ Q .ret st'
  | _, _ => False
theorem out_of {C : Ctx} {a a1 : Act} {w w1 w4 : World} {D : uT} {β : vP} {st0 st : PS} {lo l q : Nat} {tm : Array Value} {rd : Option Nat} (hs : SimAt C a w st0 D β) (cW : Below w.heap.size w w1) (hq0 : w.heap.size ≤ q) (hsz : a1.tmps.size = C.n.hi) (hpin : ∀ t, t < C.n.lo → a1.tmps.getD t undef = a.tmps.getD t undef)
    (ha1 : a1.defers = a.defers) (h : cS ⟨C.w0, fun t g o => D t g o ∨ (t = l ∧ g = w.heap.size ∧ o = 0), w1, tm, ⟨lo, C.n.hi, rd⟩⟩ { tmps := a1.tmps, defers := [] } w4 st) (hq : w4.heap[q]? = some (Obj.deferred (some []))) :
    cS C { a1 with defers := { target := .collected q, args := #[] } :: a1.defers } w4 st := by
  obtain ⟨D', β', h⟩ := h
  have hb0 := hs.base.below.size
  refine ⟨D', β', ⟨?_, hsz, fun t g o hd => ?_, fun k o hk ho => ?_, fun t ht => (hpin t ht).trans (hs.base.pin t ht), h.base.below, fun t g o hd => h.base.dmono _ _ _ (.inl (hs.base.dmono _ _ _ hd)), fun t g o hd => ?_, h.base.dok⟩, h.mem, h.high, h.slots⟩
  · rw [ha1]
    refine .cons (by omega) hq ?_ (hs.base.defers.keep fun q' hq' _ => h.base.oth q' _ ((cW.block q' (zL hq')).trans hq') rfl)
    have key : ∀ {ds : List Deferred}, DfOk C.w0.heap.size w ds → ∀ d ∈ ds, d.target ≠ .collected q := by
      intro ds hd
      induction hd with
      | nil => intro d hd; cases hd
      | cons h1 h2 h3 h ih =>
        intro d hd
        rcases List.mem_cons.1 hd with rfl | hd
        · intro e
          injection e with e
          have := zL h2
          omega
        · exact ih d hd
    exact key hs.base.defers
  · exact (h.base.keep t g o (.inl (hs.base.dmono _ _ _ hd))).trans ((cI cW (hs.base.dok t g o (hs.base.dmono _ _ _ hd))).trans (hs.base.keep t g o hd))
  · have h1 := hs.base.oth k o hk ho
    exact h.base.oth k o ((cW.block k (zL h1)).trans h1) ho
  · rcases h.base.dnew t g o hd with (h1 | ⟨_, h1, _⟩) | h1
    · exact hs.base.dnew t g o h1
    · exact .inr (by omega)
    · exact .inr h1
theorem pwp_back (hbk : Backs P fB fI T) (hcb : callB P fB = true) (hrd : n.rd = none) {id rid : Nat} {o1 o2 : Oper} {t0 ta tf p1 p2 : Tmp} {ats : Array TypeId} {assign body : Code} {E : TypeId} {es : List kY} (lo : Nat) (St : α → PS) (I : Nat → α → Prop) (x0 : α)
    (h1 : o1.op = .move (.tmp t0)) (h1d : o1.dst = some ta) (h1g : o1.guard = none) (h2 : o2.op = .call { callee := .value (.func fB), args := #[.tmp ta], argTypes := ats }) (h2d : o2.dst = some tf) (h2g : o2.guard = none)
    (hda : hN n (some ta) = true) (hdf : hN n (some tf) = true) (hd1 : hN ⟨lo, n.hi, none⟩ (some p1) = true) (hd2 : hN ⟨lo, n.hi, none⟩ (some p2) = true) (hlo : Nat.ble n.lo lo = true)
    (hx : qB S t0 = .d (.sl E 1 es)) (hst : ∀ x, ∀ p ∈ (St x).sl, p.1 < lo) (h0 : jW ⟨(tf, .junk) :: (ta, .junk) :: S, B⟩ (St x0)) (hI : I 0 x0) (vR : (es.length : Int) ≤ 9223372036854775807)
    (hround : ∀ (l j : Nat) (x : α) (d : kY), j < es.length → I j x → es[es.length - 1 - j]? = some d →
      uY P ⟨lo, n.hi, some l⟩ assign (PThen (uY P ⟨lo, n.hi, some l⟩ body (BackQ lo St I Q j)) (fun _ _ => False)) ⟨(p2, .d d) :: (p1, .d (.val (.int .i64 ((es.length : Int) - 1 - (j : Int))))) :: (St x).sl, (St x).bs⟩)
    (hcell : ∀ e ∈ es, e.cells = [e]) (hend : ∀ x, I es.length x → Q .normal (St x)) :
    uY P n (.seq (.region rid #[o1, o2] false) (.block id (.rangeFunc (.tmp tf) #[p1, p2] assign body))) Q ⟨S, B⟩ := fun C a w N hn hs => by
  subst hn
  obtain ⟨D, β, hs⟩ := hs
  have hfen : fen C.n = Fence.wide := by unfold fen; rw [hrd]; rfl
  have hv := hs.slots t0
  have hv' : vG w D β (a.tmps.getD t0 undef) (qB S t0) := hv
  rw [hx] at hv'
  have hev : a.eval (.tmp t0) = a.tmps.getD t0 undef := rfl
  generalize a.tmps.getD t0 undef = v at hv' hev
  have hv'' : xF w D v (.sl E 1 es) := hv'
  have hflat : uR es = es := by
    clear hst h0 hround hx hv hv' hv'' vR hend
    induction es with
    | nil => rfl
    | cons e es ih => rw [dT, hcell e (by simp), ih (fun e he => hcell e (by simp [he]))]; rfl
  cases hv'' with
  | sl g off u hnn hcc hmm hss ha hD hu hone hrr =>
  rename_i ad len cap
  subst hnn
  rw [hflat] at hD hu hone hrr
  obtain ⟨w1, hw1⟩ : ∃ w1, w1 = w.alloc (.cells #[Value.slice ad es.length cap] T) := ⟨_, rfl⟩
  obtain ⟨a1, ha1⟩ : ∃ a1 : Act, a1 = (a.put (some ta) (.slice ad es.length cap)).put (some tf) (.func (.func fI) #[] #[.pointer (some ⟨w.heap.size, 0, none⟩)]) := ⟨_, rfl⟩
  have cW : Below w.heap.size w w1 := by rw [hw1]; exact (Below.refl _ w).alloc (Nat.le_refl _) _
  have hsz1 : a1.tmps.size = C.n.hi := by rw [ha1, put_size, put_size]; exact hs.base.size
  have hdf1 : a1.defers = a.defers := by rw [ha1, put_defers, put_defers]
  have hsza : (a.put (some ta) (Value.slice ad es.length cap)).tmps.size = C.n.hi := put_size.trans hs.base.size
  have hget1 : ∀ t, a1.tmps.getD t undef = if some tf = some t then .func (.func fI) #[] #[.pointer (some ⟨w.heap.size, 0, none⟩)] else if some ta = some t then .slice ad es.length cap else a.tmps.getD t undef := fun t => by
    rw [ha1, xN hsza hdf, xN hs.base.size hda]
  have hpin1 : ∀ t, t < C.n.lo → a1.tmps.getD t undef = a.tmps.getD t undef := fun t ht => by
    simp only [hN, Bool.and_eq_true] at hda hdf
    have e1 := Nat.le_of_ble_eq_true hda.1
    have e2 := Nat.le_of_ble_eq_true hdf.1
    rw [hget1, if_neg (fun e => by injection e with e; subst e; omega), if_neg (fun e => by injection e with e; subst e; omega)]
  have hw1c : w1.cell? ⟨w.heap.size, 0, none⟩ = some (.slice ad es.length cap) := by
    rw [hw1]
    have := heap_alloc_new w (.cells #[Value.slice ad es.length cap] T)
    rw [cell_of_row _ _ 0 _ _ _ this]; rfl
  have hw1s : w1.heap.size = w.heap.size + 1 := by rw [hw1]; simp
  -- the context of the rounds
  obtain ⟨C1, hC1⟩ : ∃ C1 : Nat → Ctx, C1 = fun l => ⟨C.w0, fun t g o => D t g o ∨ (t = T ∧ g = w.heap.size ∧ o = 0), w1, a1.tmps, ⟨lo, C.n.hi, some l⟩⟩ := ⟨_, rfl⟩
  have hsim1 : ∀ l, cS (C1 l) { tmps := a1.tmps, defers := [] } w1 (St x0) := fun l => by
    refine h0 _ _ _ ?_
    rw [hC1]
    have hu' : DUp D (fun t g o => D t g o ∨ (t = T ∧ g = w.heap.size ∧ o = 0)) w w1 := ⟨fun _ _ _ h => .inl h, fun t g o h => by
      rcases h with h | ⟨_, h, _⟩
      · exact .inl h
      · exact .inr (by omega)⟩
    have hB := hs.base.up cW hu'
    refine ⟨_, β, ⟨.nil, hsz1, fun _ _ _ _ => rfl, fun _ _ h _ => h, fun _ _ => rfl, hB.below, fun _ _ _ h => h, fun _ _ _ h => .inl h, hB.dok⟩, hs.mem.up cW hu' hs.base.dok, hs.high, fun t => ?_⟩
    show vG w1 _ β (a1.tmps.getD t undef) (qB ((tf, .junk) :: (ta, .junk) :: S) t)
    rw [vS, vS, hget1]
    by_cases e1 : tf = t
    · rw [if_pos e1]; trivial
    · rw [if_neg e1, if_neg (fun e => e1 (by injection e))]
      by_cases e2 : ta = t
      · rw [if_pos e2]; trivial
      · rw [if_neg e2, if_neg (fun e => e2 (by injection e))]
        exact (hs.slots t).up cW hu' hs.base.dok
  have hp1 : gZ o1 = true := by simp [gZ, h1]
  have hp2 : gZ o2 = true := by simp [gZ, h2]
  refine wpIn_seq (wpIn_region_lit (wpListIn_plain h1g fun K1 hK1 => op_lift hp1 (cT (v := .slice ad es.length cap) (w' := w) ?_ (hK1 _ _ (wpListIn_plain h2g fun K2 hK2 => op_lift hp2 (fK (f := fB) (args := #[.slice ad es.length cap]) (w' := w) ?_ ?_))))))
  · simp only [execOp, h1, hev, Sem.run_pure]
  · have hta : (a.put o1.dst (Value.slice ad es.length cap)).eval (.tmp ta) = .slice ad es.length cap := by
      show (a.put o1.dst (Value.slice ad es.length cap)).tmps.getD ta undef = _
      rw [h1d, xN hs.base.size hda, if_pos rfl]
    have hfe : (a.put o1.dst (Value.slice ad es.length cap)).eval (.func fB) = .func (.func fB) #[] #[] := rfl
    simp only [execOp, h2, resolve, Deferred.ofValue, hfe, Sem.run_bind, Sem.run_pure, Result.andThen_ok, invoke, Array.empty_append, Array.append_empty, List.map_toArray, List.map_cons, List.map_nil, hta]
    rw [nE hcb]
  · refine (hbk.call ad es.length cap w).mono ?_
    rintro e w' ⟨rfl, rfl⟩
    refine ⟨_, rfl, hK2 _ _ (wpListIn_nil ?_)⟩
    show (Code.block id (.rangeFunc (.tmp tf) #[p1, p2] assign body)).wpIn _ _ _ _ _ _
    rw [h1d, h2d, ← hw1, ← ha1, hfen]
    refine wpIn_block (wpIn_rangeFunc ?_)
    intro fn _
    have hrn : Fence.wide.round = none := rfl
    rw [hrn]
    obtain ⟨rec, hrec⟩ : ∃ rec : LoopState → Option Code → Loop, rec = fun st pe => { state := st, pending := pe, fn, tmps := a1.tmps, params := #[p1, p2], assign, body, defers := w1.heap.size } := ⟨_, rfl⟩
    obtain ⟨W1, hW1⟩ : ∃ W1, (w1.alloc (.deferred (some []))).alloc (.loop (rec .ready none)) = W1 := ⟨_, rfl⟩
    have hL1 : W1.heap[w1.heap.size + 1]? = some (.loop (rec .ready none)) := by
      rw [← hW1]; have := World.alloc_heap_new (w1.alloc (.deferred (some []))) (.loop (rec .ready none)); rwa [World.size_alloc] at this
    have hK1' : W1.heap[w1.heap.size]? = some (.deferred (some [])) := by
      rw [← hW1]; exact (Below.heap_alloc _ _ _ (by simp)).trans (World.alloc_heap_new w1 _)
    have hbel1 : Below w1.heap.size w1 W1 := by rw [← hW1]; exact ((Below.refl _ w1).alloc (Nat.le_refl _) _).alloc (by simp) _
    have hfe : a1.eval (.tmp tf) = .func (.func fI) #[] #[.pointer (some ⟨w.heap.size, 0, none⟩)] := by
      show a1.tmps.getD tf undef = _
      rw [hget1, if_pos rfl]
    obtain ⟨l, hl⟩ : ∃ l, l = w1.heap.size + 1 := ⟨_, rfl⟩
    have hCw0 : ∀ l, (C1 l).w0 = C.w0 := fun l => by rw [hC1]
    have hCw1 : ∀ l, (C1 l).w1 = w1 := fun l => by rw [hC1]
    have hCn : ∀ l, (C1 l).n = ⟨lo, C.n.hi, some l⟩ := fun l => by rw [hC1]
    have hCtm : ∀ l, (C1 l).tm = a1.tmps := fun l => by rw [hC1]
    have hb0 := hs.base.below.size
    -- between two rounds
    obtain ⟨J, hJ⟩ : ∃ J : Nat → World → Prop, J = fun j W => (∃ x, I j x ∧ cS (C1 l) { tmps := a1.tmps, defers := [] } W (St x)) ∧ W.heap[l]? = some (.loop (rec .ready none)) ∧ W.heap[w1.heap.size]? = some (.deferred (some [])) := ⟨_, rfl⟩
    obtain ⟨Jx, hJx⟩ : ∃ Jx : World → Prop, Jx = fun W => (∃ st', (∀ p ∈ st'.sl, p.1 < lo) ∧ Q .ret st' ∧ cS (C1 l) { tmps := a1.tmps, defers := [] } W st') ∧ W.heap[l]? = some (.loop (rec .done (some .ret))) ∧ W.heap[w1.heap.size]? = some (.deferred (some [])) := ⟨_, rfl⟩
    have hJ0 : J 0 W1 := by
      rw [hJ]
      refine ⟨⟨x0, hI, ?_⟩, hl ▸ hL1, hK1'⟩
      obtain ⟨D2, β2, h2s⟩ := hsim1 l
      have hu2 : DUp D2 D2 w1 W1 := DUp.of_same D2
      exact ⟨D2, β2, h2s.base.up hbel1 hu2, h2s.mem.up hbel1 hu2 h2s.base.dok, h2s.high, fun t => (h2s.slots t).up hbel1 hu2 h2s.base.dok⟩
    have turn : ∀ {aa : Act} {W : World} {st : PS} {r r' : Loop}, cS (C1 l) aa W st → W.heap[l]? = some (.loop r) → cS (C1 l) aa (W.putObj l (.loop r')) st := fun {aa W st r r'} hS hL =>
      sim_turned hS hL rfl rfl (by rw [hCw0]; omega) (by rw [hCw1]; omega) (fun ds e => by cases e)
    have hdef : ∀ {W : World} {ob : Obj}, W.heap[w1.heap.size]? = some (.deferred (some [])) → (W.putObj l ob).heap[w1.heap.size]? = some (.deferred (some [])) := fun {W ob} h => (World.putObj_heap_other (by omega)).trans h
    -- what stands behind the loop
    have hout : ∀ {W : World} {st : PS}, cS (C1 l) { tmps := a1.tmps, defers := [] } W st → W.heap[w1.heap.size]? = some (Obj.deferred (some [])) → cS C { a1 with defers := [{ target := .collected w1.heap.size, args := #[] }] ++ a1.defers } W st := fun {W st} hS hq => by
      rw [hC1] at hS
      exact out_of hs cW (by omega) hsz1 hpin1 hdf1 hS hq
    refine ⟨w1.heap.size + 1, [{ target := .collected w1.heap.size, args := #[] }], W1, { target := .fn (.func fI) #[.pointer (some ⟨w.heap.size, 0, none⟩)], args := #[.func (.yield (w1.heap.size + 1)) #[] #[]] }, W1, fI,
      #[.func (.yield (w1.heap.size + 1)) #[] #[]] ++ #[.pointer (some ⟨w.heap.size, 0, none⟩)], W1, ?_, ?_, fun _ _ => trivial, ?_, fun e => by simp [Fence.wide] at e, ?_⟩
    · rw [← hW1, hrec]; exact run_enterLoop_outer _ _ _ _ _
    · simp only [resolve, hfe]
      simp [go_sem]
    · simp [invoke, go_sem, hbk.enters]
    · have key : CallsIn Fence.wide (0 + 1) P fI #[.func (.yield l) #[] #[], .pointer (some ⟨w.heap.size, 0, none⟩)] W1 fun e W' => (∃ v, e = .returned v) ∧ (J es.length W' ∨ Jx W') := by
        have hbox : ∀ {st : PS} {W : World}, cS (C1 l) { tmps := a1.tmps, defers := [] } W st → W.cell? ⟨w.heap.size, 0, none⟩ = some (.slice ad es.length cap) := fun {st W} ⟨D2, β2, h2s⟩ => by
          have := h2s.base.keep T w.heap.size 0 (by rw [hC1]; exact .inr ⟨rfl, rfl, rfl⟩)
          rw [this, hCw1]; exact hw1c
        have hcells : ∀ {st : PS} {W : World}, cS (C1 l) { tmps := a1.tmps, defers := [] } W st → ∀ i, i < es.length → W.cell? ⟨g, off + i, none⟩ = some (u i) := fun {st W} ⟨D2, β2, h2s⟩ i hi => by
          have := h2s.base.keep E g (off + i) (by rw [hC1]; exact .inl (hD i hi))
          rw [this, hCw1, cI cW (hs.base.dok _ _ _ (hD i hi))]
          exact hu i hi
        by_cases hlen0 : es.length = 0
        · have hJ0' := hJ0
          rw [hJ] at hJ0'
          obtain ⟨⟨x, _, hSx⟩, _⟩ := hJ0'
          have hb := hbox hSx
          rw [hlen0] at hb ⊢
          exact (hbk.empty 0 l w.heap.size cap ad (J 0) W1 hb hJ0).mono fun e W' ⟨h1, h2⟩ => ⟨h1, .inl h2⟩
        · obtain rfl := ha (by omega)
          refine hbk.rounds 0 l w.heap.size g off es.length cap u vR J Jx (fun j W hj => ?_) (fun j W hj hlt => ?_) W1 hJ0
          · rw [hJ] at hj
            obtain ⟨⟨x, _, hSx⟩, _⟩ := hj
            exact ⟨hbox hSx, hcells hSx⟩
          · rw [hJ] at hj
            obtain ⟨⟨x, hIx, hSx⟩, hLW, hKW⟩ := hj
            have hlt' : es.length - 1 - j < es.length := by omega
            obtain ⟨d, hd⟩ : ∃ d, es[es.length - 1 - j]? = some d := ⟨_, List.getElem?_eq_getElem hlt'⟩
            have hy := run_yield (P := P) (args := #[.int .i64 ((es.length : Int) - 1 - (j : Int)), u (es.length - 1 - j)]) hLW (by rw [hrec]; rfl)
            rw [hrec] at hy
            refine ⟨fn, _, assign, body, hy, roundIn_of_wpIn trivial ?_⟩
            -- the round's frame
            obtain ⟨ar, har⟩ : ∃ ar : Act, ar = (({ tmps := a1.tmps, defers := [] } : Act).put (some p1) (.int .i64 ((es.length : Int) - 1 - (j : Int)))).put (some p2) (u (es.length - 1 - j)) := ⟨_, rfl⟩
            have harr : ({ tmps := (#[p1, p2].zip #[Value.int .i64 ((es.length : Int) - 1 - (j : Int)), u (es.length - 1 - j)]).foldl (fun t (p, v) => t.setIfInBounds p v) a1.tmps, defers := [] } : Act) = ar := by
              rw [har]; simp [Act.put]
            have hSr : cS (C1 l) ar W ⟨(p2, .d d) :: (p1, .d (.val (.int .i64 ((es.length : Int) - 1 - (j : Int))))) :: (St x).sl, (St x).bs⟩ := by
              obtain ⟨D2, β2, h2s⟩ := hSx
              have hd1' : hN (C1 l).n (some p1) = true := by rw [hCn]; exact hd1
              have hd2' : hN (C1 l).n (some p2) = true := by rw [hCn]; exact hd2
              refine ⟨D2, β2, by rw [har]; exact (h2s.base.put hd1' _).put hd2' _, h2s.mem, h2s.high, fun t => ?_⟩
              show vG W D2 β2 (ar.tmps.getD t undef) (qB ((p2, SV.d d) :: (p1, SV.d (.val (.int .i64 ((es.length : Int) - 1 - (j : Int))))) :: (St x).sl) t)
              rw [har, xN (put_size.trans h2s.base.size) hd2', xN h2s.base.size hd1', vS, vS]
              by_cases e2 : p2 = t
              · rw [if_pos e2, if_pos (by rw [e2])]
                have hrep : xF w D (u (es.length - 1 - j)) d := hrr _ d hd
                refine xF.mono (fun t' g' o' hd' => ⟨h2s.base.dmono _ _ _ (by rw [hC1]; exact .inl hd'), ?_⟩) hrep
                rw [h2s.base.keep t' g' o' (by rw [hC1]; exact .inl hd'), hCw1, cI cW (hs.base.dok _ _ _ hd')]
              · rw [if_neg e2, if_neg (fun e => e2 (by injection e))]
                by_cases e1 : p1 = t
                · rw [if_pos e1, if_pos (by rw [e1])]
                  exact xF.val _
                · rw [if_neg e1, if_neg (fun e => e1 (by injection e))]
                  exact h2s.slots t
            refine wpIn_mono (Q := fun e a' w' => ∃ st', cS { C1 l with w1 := W } a' w' st' ∧ PThen (uY P ⟨lo, C.n.hi, some l⟩ body (BackQ lo St I Q j)) (fun _ _ => False) e st') ?_ fun e a2 W2 h => ?_
            · have := hround l j x d hlt hIx hd { C1 l with w1 := W } ar W (0 : Nat) (hCn l) (sim_from hSr)
              rw [← harr] at this
              exact this
            · obtain ⟨st2, hS2, hp⟩ := h
              cases e with
              | normal =>
                have hL2 : W2.heap[l]? = some (.loop (rec .ready none)) := by obtain ⟨D2, β2, h2s⟩ := hS2; exact h2s.base.oth l _ hLW rfl
                have hK2' : W2.heap[w1.heap.size]? = some (.deferred (some [])) := by obtain ⟨D2, β2, h2s⟩ := hS2; exact h2s.base.oth _ _ hKW rfl
                have hS2' := sim_back hS2 hSr
                refine ⟨_, run_beginRound hL2 (by rw [hrec]), ?_⟩
                have hS3 := turn (r' := { rec .ready none with state := .busy }) hS2' hL2
                have hL3 : (W2.putObj l (.loop { rec .ready none with state := .busy })).heap[l]? = some (.loop { rec .ready none with state := .busy }) := World.putObj_heap_same (zL hL2)
                have hK3 := hdef (ob := .loop { rec .ready none with state := .busy }) hK2'
                refine wpIn_mono (hp { C1 l with w1 := W2.putObj l (.loop { rec .ready none with state := .busy }) } a2 _ 0 (hCn l) (sim_from hS3)) fun e a4 W4 h => ?_
                obtain ⟨st4, hS4, hq⟩ := h
                have hL4 : W4.heap[l]? = some (.loop { rec .ready none with state := .busy }) := by obtain ⟨D2, β2, h2s⟩ := hS4; exact h2s.base.oth l _ hL3 rfl
                have hK4 : W4.heap[w1.heap.size]? = some (.deferred (some [])) := by obtain ⟨D2, β2, h2s⟩ := hS4; exact h2s.base.oth _ _ hK3 rfl
                have hS4' := sim_back hS4 hS3
                have repin : ∀ {W : World} {st : PS}, cS (C1 l) a4 W st → (∀ p ∈ st.sl, p.1 < lo) → cS (C1 l) { tmps := a1.tmps, defers := [] } W st := fun {W st} h hk =>
                  sim_repin h _ (by rw [hCn]; exact hk) (by rw [hCn]; exact hsz1) (fun t _ => by rw [hCtm]) .nil
                cases e with
                | normal =>
                  obtain ⟨y, hy1, hy2⟩ := hq
                  have hre := run_endRound (P := P) none hL4
                  refine ⟨_, _, hre, .inl ⟨rfl, ?_⟩⟩
                  rw [hJ]
                  refine ⟨⟨y, hy2, repin (hy1 _ _ _ (turn hS4' hL4)) (hst y)⟩, ?_, hdef hK4⟩
                  rw [World.putObj_heap_same (zL hL4), hrec]; rfl
                | ret =>
                  obtain ⟨st5, hy1, hy2, hy3⟩ := hq
                  have hre := run_endRound (P := P) (some .ret) hL4
                  refine ⟨_, _, hre, .inr ⟨rfl, ?_⟩⟩
                  rw [hJx]
                  refine ⟨⟨st5, hy2, hy3, repin (hy1 _ _ _ (turn hS4' hL4)) hy2⟩, ?_, hdef hK4⟩
                  rw [World.putObj_heap_same (zL hL4), hrec]; rfl
                | exit id => exact hq.elim
                | goto t => exact hq.elim
                | panic ch => exact hq.elim
                | outgrown => exact hq.elim
              | exit id => exact hp.elim
              | goto t => exact hp.elim
              | ret => exact hp.elim
              | panic ch => exact hp.elim
              | outgrown => exact hp.elim
      rw [hl] at key
      refine callsIn_any (key.mono ?_)
      rintro e W2 ⟨⟨v, rfl⟩, h⟩
      rcases h with h | h
      · rw [hJ] at h
        obtain ⟨⟨x, hIx, hSx⟩, hLW, hKW⟩ := h
        have hre := run_endLoop (P := P) hLW (by rw [hrec]; simp)
        have hS' := hout (turn (r' := { rec .ready none with state := .exhausted }) hSx hLW) (hdef hKW)
        rw [hl] at hre hS'
        subst hrec
        exact ⟨none, _, hre, _, hS', hend x hIx⟩
      · rw [hJx] at h
        obtain ⟨⟨st5, hk5, hq5, hS5⟩, hLW, hKW⟩ := h
        have hre := run_endLoop (P := P) hLW (by rw [hrec]; simp)
        have hS' := hout (turn (r' := { rec .done (some .ret) with state := .exhausted }) hS5 hLW) (hdef hKW)
        rw [hl] at hre hS'
        subst hrec
        exact ⟨some .ret, _, hre, wpIn_ret ⟨_, hS', hq5⟩⟩
end
theorem pwp_backL {P : Program} {n : Fr} {fB fI : FuncId} {T : TypeId} {S : SL} {B : BS} {Q : Exit → PS → Prop} {α γ : Type} (hbk : Backs P fB fI T) (hcb : callB P fB = true) (hrd : n.rd = none) {id rid : Nat} {o1 o2 : Oper} {t0 ta tf p1 p2 : Tmp} {ats : Array TypeId} {assign body : Code} {E : TypeId} (lo : Nat) (F : γ → kY) (L : List γ) (z : γ) (St : α → PS) (I : Nat → α → Prop) (x0 : α)
    (h1 : o1.op = .move (.tmp t0)) (h1d : o1.dst = some ta) (h1g : o1.guard = none) (h2 : o2.op = .call { callee := .value (.func fB), args := #[.tmp ta], argTypes := ats }) (h2d : o2.dst = some tf) (h2g : o2.guard = none)
    (hda : hN n (some ta) = true) (hdf : hN n (some tf) = true) (hd1 : hN ⟨lo, n.hi, none⟩ (some p1) = true) (hd2 : hN ⟨lo, n.hi, none⟩ (some p2) = true) (hlo : Nat.ble n.lo lo = true)
    (hx : qB S t0 = .d (.sl E 1 (L.map F))) (hF : ∀ g, (F g).cells = [F g]) (hst : ∀ x, ((St x).sl.all fun p => Nat.blt p.1 lo) = true) (h0 : jW ⟨(tf, .junk) :: (ta, .junk) :: S, B⟩ (St x0)) (hI : I 0 x0) (vR : L.length ≤ 9223372036854775807)
    (hround : ∀ (l j : Nat) (x : α), j < L.length → I j x → uY P ⟨lo, n.hi, some l⟩ assign (PThen (uY P ⟨lo, n.hi, some l⟩ body (BackQ lo St I Q j)) (fun _ _ => False)) ⟨(p2, .d (F (L.getD (L.length - 1 - j) z))) :: (p1, .d (.val (.int .i64 ((L.length - 1 - j : Nat) : Int)))) :: (St x).sl, (St x).bs⟩)
    (hend : ∀ x, I L.length x → Q .normal (St x)) :
    uY P n (.seq (.region rid #[o1, o2] false) (.block id (.rangeFunc (.tmp tf) #[p1, p2] assign body))) Q ⟨S, B⟩ := by
  refine pwp_back hbk hcb hrd lo St I x0 h1 h1d h1g h2 h2d h2g hda hdf hd1 hd2 hlo hx (fun x p hp => ?_) h0 hI (by simpa using Int.ofNat_le.2 vR) (fun l j x d hj hIx hd => ?_) (fun e he => ?_) (fun x hIx => hend x (by simpa using hIx))
  · exact Nat.le_of_ble_eq_true (List.all_eq_true.1 (hst x) p hp)
  · rw [List.length_map] at hj hd
    have h3 : j < L.length := hj
    have hlt : L.length - 1 - j < L.length := by omega
    have hd' : d = F (L.getD (L.length - 1 - j) z) := by
      rw [List.getElem?_map, List.getElem?_eq_getElem hlt] at hd
      simp only [Option.map_some, Option.some.injEq] at hd
      rw [← hd]
      simp [List.getD, List.getElem?_eq_getElem hlt]
    have hj' : (((L.map F).length : Int) - 1 - (j : Int)) = ((L.length - 1 - j : Nat) : Int) := by rw [List.length_map]; omega
    rw [hd', hj']
    exact hround l j x h3 hIx
  · obtain ⟨g, _, rfl⟩ := List.mem_map.1 he
    exact hF g
theorem keys_of {l : SL} {lo : Nat} (h : (l.all fun p => Nat.blt p.1 lo) = true) : ∀ p ∈ l, p.1 < lo := fun p hp => Nat.le_of_ble_eq_true (List.all_eq_true.1 h p hp)
end Go.Fid
namespace Go.Fid
set_option linter.unusedVariables false
set_option linter.unusedSimpArgs false
def pw (n : Nat) : Nat := 1000000000 ^ n
theorem nR : pw 0 = 1 := rfl
theorem vU (n : Nat) : pw (n + 1) = 1000000000 * pw n := by unfold pw; rw [Nat.pow_succ, Nat.mul_comm]
theorem pw_add (m n : Nat) : pw (m + n) = pw m * pw n := by unfold pw; rw [Nat.pow_add]
theorem pw_pos (n : Nat) : 0 < pw n := Nat.pow_pos (by decide)
theorem gW {m n : Nat} (h : m ≤ n) : pw m ≤ pw n := Nat.pow_le_pow_right (by decide) h
theorem pw_lt {m n : Nat} (h : m < n) : pw m < pw n := Nat.pow_lt_pow_right (by decide) h
attribute [irreducible] pw
def val : List Nat → Nat
  | [] => 0
  | d :: l => d + 1000000000 * val l
def Dig (l : List Nat) : Prop := ∀ d ∈ l, d < 1000000000
theorem val_nil : val [] = 0 := rfl
theorem hO (d : Nat) (l : List Nat) : val (d :: l) = d + 1000000000 * val l := rfl
theorem mR (d : Nat) : val [d] = d := by simp [val]
theorem gJ : Dig [] := by intro d h; cases h
theorem yT {d : Nat} {l : List Nat} : Dig (d :: l) ↔ d < 1000000000 ∧ Dig l := by simp [Dig]
theorem aE {a b : List Nat} : Dig (a ++ b) ↔ Dig a ∧ Dig b := by
  constructor
  · intro h; exact ⟨fun d hd => h d (by simp [hd]), fun d hd => h d (by simp [hd])⟩
  · intro h d hd; rcases List.mem_append.1 hd with h' | h'
    · exact h.1 d h'
    · exact h.2 d h'
theorem Dig.take {l : List Nat} (h : Dig l) (n : Nat) : Dig (l.take n) := fun d hd => h d (List.mem_of_mem_take hd)
theorem Dig.drop {l : List Nat} (h : Dig l) (n : Nat) : Dig (l.drop n) := fun d hd => h d (List.mem_of_mem_drop hd)
theorem Dig.set {l : List Nat} (h : Dig l) (i : Nat) {d : Nat} (hd : d < 1000000000) : Dig (l.set i d) := by
  intro x hx
  rcases List.mem_or_eq_of_mem_set hx with h' | h'
  · exact h x h'
  · exact h' ▸ hd
theorem Dig.getD {l : List Nat} (h : Dig l) (i : Nat) : l.getD i 0 < 1000000000 := by
  unfold List.getD
  cases hi : l[i]? with
  | none => decide
  | some x => exact h x (List.mem_of_getElem? hi)
theorem zW (n : Nat) : Dig (List.replicate n 0) := by
  intro d hd; rw [(List.mem_replicate.1 hd).2]; decide
theorem cJ (n : Nat) : val (List.replicate n 0) = 0 := by
  induction n with
  | zero => rfl
  | succ n ih => rw [List.replicate_succ, hO, ih]
theorem cB (a b : List Nat) : val (a ++ b) = val a + pw a.length * val b := by
  induction a with
  | nil => simp [val, nR]
  | cons d a ih => rw [List.cons_append, hO, hO, ih, List.length_cons, vU]; grind
theorem xH {l : List Nat} (h : Dig l) : val l < pw l.length := by
  induction l with
  | nil => simp [val, nR]
  | cons d l ih =>
    rw [yT] at h
    have := ih h.2
    rw [hO, List.length_cons, vU]; omega
theorem val_take_succ (l : List Nat) (i : Nat) : val (l.take (i + 1)) = val (l.take i) + pw i * l.getD i 0 := by
  by_cases h : i < l.length
  · rw [List.take_succ_eq_append_getElem h, cB, mR, List.length_take, Nat.min_eq_left (Nat.le_of_lt h)]
    simp [List.getD, List.getElem?_eq_getElem h]
  · rw [List.take_of_length_le (by omega), List.take_of_length_le (by omega)]
    simp [List.getD, List.getElem?_eq_none (Nat.le_of_not_lt h)]
theorem dF (l : List Nat) (i d : Nat) (h : i < l.length) : val ((l.set i d).take (i + 1)) = val (l.take i) + pw i * d := by
  rw [val_take_succ, List.take_set_of_le (Nat.le_refl i)]
  simp [List.getD, h]
theorem val_set (l : List Nat) (i d : Nat) (h : i < l.length) : val (l.set i d) + pw i * l.getD i 0 = val l + pw i * d := by
  induction l generalizing i with
  | nil => simp at h
  | cons x l ih =>
    cases i with
    | zero => simp [val, nR]; omega
    | succ i =>
      have := ih i (by simpa using h)
      simp only [List.set_cons_succ, hO, List.getD_cons_succ, vU]
      grind
theorem cF (l : List Nat) (i : Nat) (h : i ≤ l.length) : val l = val (l.take i) + pw i * val (l.drop i) := by
  have h1 := cB (l.take i) (l.drop i)
  rw [List.take_append_drop, List.length_take, Nat.min_eq_left h] at h1
  exact h1
theorem getD_set (l : List Nat) (i j d : Nat) (h : i < l.length) : (l.set i d).getD j 0 = if i = j then d else l.getD j 0 := by
  simp only [List.getD, List.getElem?_set]
  by_cases hij : i = j
  · subst hij; simp [h]
  · simp [hij]
def ofNat (n : Nat) : List Nat := if n = 0 then [] else n % 1000000000 :: ofNat (n / 1000000000)
termination_by n
decreasing_by omega
theorem vT : ofNat 0 = [] := by rw [ofNat]; rfl
theorem mC {n : Nat} (h : n ≠ 0) : ofNat n = n % 1000000000 :: ofNat (n / 1000000000) := by rw [ofNat, if_neg h]
theorem kL : ∀ n, val (ofNat n) = n
  | n => by
    by_cases h : n = 0
    · subst h; rw [vT]; rfl
    · rw [mC h, hO, kL (n / 1000000000)]; omega
termination_by n => n
decreasing_by omega
theorem kM : ∀ n, Dig (ofNat n)
  | n => by
    by_cases h : n = 0
    · subst h; rw [vT]; exact gJ
    · rw [mC h]; exact yT.2 ⟨Nat.mod_lt _ (by decide), kM (n / 1000000000)⟩
termination_by n => n
decreasing_by omega
theorem ofNat_nil {n : Nat} : ofNat n = [] ↔ n = 0 := by
  constructor
  · intro h; rw [← kL n, h]; rfl
  · intro h; rw [h, vT]
def Top (l : List Nat) : Prop := l.getD (l.length - 1) 1 ≠ 0
def gB (l : List Nat) : Prop := Dig l ∧ Top l
theorem top_cons {d : Nat} {l : List Nat} (h : l ≠ []) : Top (d :: l) ↔ Top l := by
  cases l with
  | nil => exact absurd rfl h
  | cons e l => simp [Top]
theorem ofNat_top : ∀ n, Top (ofNat n)
  | n => by
    by_cases h : n = 0
    · subst h; rw [vT]; simp [Top]
    · rw [mC h]
      by_cases h' : n / 1000000000 = 0
      · rw [h', vT]; simp [Top]; omega
      · rw [top_cons (fun e => h' (ofNat_nil.1 e))]; exact ofNat_top (n / 1000000000)
termination_by n => n
decreasing_by omega
theorem qO (n : Nat) : gB (ofNat n) := ⟨kM n, ofNat_top n⟩
theorem can_tail {d : Nat} {l : List Nat} (h : gB (d :: l)) : gB l := by
  refine ⟨(yT.1 h.1).2, ?_⟩
  by_cases hl : l = []
  · subst hl; simp [Top]
  · exact (top_cons hl).1 h.2
theorem can_eq : ∀ {l : List Nat}, gB l → l = ofNat (val l)
  | [], _ => by rw [val_nil, vT]
  | d :: l, h => by
    have ih := can_eq (can_tail h)
    have hd := (yT.1 h.1).1
    have hne : val (d :: l) ≠ 0 := by
      rw [hO]
      intro e
      have h0 : val l = 0 := by omega
      rw [h0, vT] at ih
      have hd0 : d = 0 := by omega
      subst ih; subst hd0
      exact h.2 rfl
    have e1 : (d + 1000000000 * val l) % 1000000000 = d := by omega
    have e2 : (d + 1000000000 * val l) / 1000000000 = val l := by omega
    rw [mC hne, hO, e1, e2, ← ih]
theorem can_ofNat_val {l : List Nat} (h : gB l) {n : Nat} (hn : val l = n) : l = ofNat n := hn ▸ can_eq h
theorem vC {n m : Nat} (h : n < pw m) : (ofNat n).length ≤ m := by
  induction m generalizing n with
  | zero => rw [nR] at h; have : n = 0 := by omega
            subst this; rw [vT]; exact Nat.le_refl _
  | succ m ih =>
    by_cases h0 : n = 0
    · subst h0; rw [vT]; simp
    · rw [mC h0, List.length_cons]
      have := ih (n := n / 1000000000) (by rw [vU] at h; omega)
      omega
theorem val_ge_of_top {l : List Nat} (h : Top l) (hl : l ≠ []) : pw (l.length - 1) ≤ val l := by
  have h1 := val_take_succ l (l.length - 1)
  have hp : 0 < l.length := by cases l with
    | nil => exact absurd rfl hl
    | cons => simp
  rw [show l.length - 1 + 1 = l.length by omega, List.take_length] at h1
  have h2 : l.getD (l.length - 1) 0 ≠ 0 := by
    have h3 : l.getD (l.length - 1) 1 ≠ 0 := h
    have h4 : l.length - 1 < l.length := by omega
    simpa [List.getD, List.getElem?_eq_getElem h4] using h3
  rw [h1]
  refine Nat.le_trans ?_ (Nat.le_add_left _ _)
  exact Nat.le_mul_of_pos_right _ (Nat.pos_of_ne_zero h2)
theorem dQ {n m : Nat} (h : (ofNat n).length < (ofNat m).length) : n < m := by
  have h1 := xH (kM n)
  have h2 := val_ge_of_top (ofNat_top m) (by intro e; rw [e] at h; simp at h)
  rw [kL] at h1 h2
  exact Nat.lt_of_lt_of_le h1 (Nat.le_trans (gW (by omega)) h2)
theorem getD_out {l : List Nat} {i : Nat} (h : ¬ (i : Int) < (l.length : Int)) : l.getD i 0 = 0 := by
  simp [List.getD, List.getElem?_eq_none (show l.length ≤ i by omega)]
theorem trim_cond {l : List Nat} {b : Bool} (h : (decide ((0 : Int) < ((l.length : Nat) : Int)) && (((l.getD (l.length - 1) 0 : Nat) : Int) == 0)) = b) : if b then 0 < l.length ∧ l.getD (l.length - 1) 0 = 0 else l.length = 0 ∨ l.getD (l.length - 1) 0 ≠ 0 := by
  subst h
  by_cases h1 : l.length = 0
  · simp [h1]
  · have h2 : 0 < l.length := by omega
    by_cases h3 : l.getD (l.length - 1) 0 = 0
    · have : ((0 : Nat) : Int) = 0 := rfl
      simp only [h3, this, beq_self_eq_true, Bool.and_true]
      simp [h2, h3]
    · have h4 : (((l.getD (l.length - 1) 0 : Nat) : Int) == 0) = false := by
        rw [beq_eq_false_iff_ne]; omega
      simp only [h4, Bool.and_false]
      exact .inr h3
theorem trim_step {l l0 : List Nat} (hl : Dig l) (hv : val l = val l0) (hle : l.length ≤ l0.length) (h : (decide ((0 : Int) < ((l.length : Nat) : Int)) && (((l.getD (l.length - 1) 0 : Nat) : Int) == 0)) = true) :
    Dig (l.take (l.length - 1)) ∧ val (l.take (l.length - 1)) = val l0 ∧ (l.take (l.length - 1)).length ≤ l0.length := by
  obtain ⟨h1, h2⟩ := trim_cond h
  refine ⟨hl.take _, ?_, by simp; omega⟩
  have h3 := val_take_succ l (l.length - 1)
  rw [show l.length - 1 + 1 = l.length by omega, List.take_length, h2] at h3
  omega
theorem trim_less {l : List Nat} (h : (decide ((0 : Int) < ((l.length : Nat) : Int)) && (((l.getD (l.length - 1) 0 : Nat) : Int) == 0)) = true) : (l.take (l.length - 1)).length < l.length := by
  obtain ⟨h1, h2⟩ := trim_cond h
  simp; omega
theorem trim_end {l l0 : List Nat} (hl : Dig l) (hv : val l = val l0) (h : (decide ((0 : Int) < ((l.length : Nat) : Int)) && (((l.getD (l.length - 1) 0 : Nat) : Int) == 0)) = false) : ofNat (val l0) = l := by
  have h1 := trim_cond h
  simp only [Bool.false_eq_true, if_false] at h1
  refine (can_ofNat_val ⟨hl, ?_⟩ hv).symm
  rcases h1 with h1 | h1
  · have : l = [] := List.eq_nil_of_length_eq_zero h1
    subst this; simp [Top]
  · intro h2
    by_cases h3 : l.length = 0
    · have : l = [] := List.eq_nil_of_length_eq_zero h3
      subst this; simp at h2
    · have h4 : l.length - 1 < l.length := by omega
      simp [List.getD, List.getElem?_eq_getElem h4] at h1 h2
      exact h1 h2
theorem plus_step {a b out : List Nat} {i c n s c' : Nat} (vR : out.length = n) (hd : Dig out) (hi : i < n) (hv : val (out.take i) + pw i * c = val (a.take i) + val (b.take i)) (hs : s < 1000000000) (hsum : s + 1000000000 * c' = a.getD i 0 + b.getD i 0 + c) :
    (out.set i s).length = n ∧ Dig (out.set i s) ∧ val ((out.set i s).take (i + 1)) + pw (i + 1) * c' = val (a.take (i + 1)) + val (b.take (i + 1)) := by
  refine ⟨by simpa using vR, hd.set i hs, ?_⟩
  rw [dF out i s (by omega), val_take_succ, val_take_succ, vU]
  grind
theorem plus_end {a b out : List Nat} {c : Nat} (hda : Dig a) (hdb : Dig b) (vR : out.length = max a.length b.length + 1) (hv : val (out.take (max a.length b.length + 1)) + pw (max a.length b.length + 1) * c = val (a.take (max a.length b.length + 1)) + val (b.take (max a.length b.length + 1))) : val out = val a + val b := by
  rw [List.take_of_length_le (by omega), List.take_of_length_le (by omega), List.take_of_length_le (by omega)] at hv
  have h1 := xH hda
  have h2 := xH hdb
  have h3 : pw a.length ≤ pw (max a.length b.length) := gW (by omega)
  have h4 : pw b.length ≤ pw (max a.length b.length) := gW (by omega)
  rw [vU] at hv
  have hc : c = 0 := by
    rcases Nat.eq_zero_or_pos c with h | h
    · exact h
    · have : 1000000000 * pw (max a.length b.length) ≤ 1000000000 * pw (max a.length b.length) * c := Nat.le_mul_of_pos_right _ h
      omega
  subst hc
  omega
theorem minus_step {a b out : List Nat} {i c n s c' : Nat} (vR : out.length = n) (hd : Dig out) (hi : i < n) (hv : val (out.take i) + val (b.take i) = val (a.take i) + pw i * c) (hs : s < 1000000000) (hsum : s + (b.getD i 0 + c) = a.getD i 0 + 1000000000 * c') :
    (out.set i s).length = n ∧ Dig (out.set i s) ∧ val ((out.set i s).take (i + 1)) + val (b.take (i + 1)) = val (a.take (i + 1)) + pw (i + 1) * c' := by
  refine ⟨by simpa using vR, hd.set i hs, ?_⟩
  rw [dF out i s (by omega), val_take_succ, val_take_succ, vU]
  grind
theorem minus_end {a b out : List Nat} {c : Nat} (hda : Dig a) (hdb : Dig b) (hd : Dig out) (hba : val b ≤ val a) (vR : out.length = a.length) (hv : val (out.take a.length) + val (b.take a.length) = val (a.take a.length) + pw a.length * c) : val out = val a - val b := by
  rw [List.take_of_length_le (l := out) (by omega), List.take_of_length_le (l := a) (by omega)] at hv
  have h1 := xH hda
  have h2 := xH hd
  rw [vR] at h2
  have h3 : val (b.take a.length) = val b := by
    by_cases h : a.length ≤ b.length
    · have h4 := cF b a.length h
      rcases Nat.eq_zero_or_pos (val (b.drop a.length)) with h5 | h5
      · rw [h5] at h4; omega
      · have : pw a.length ≤ pw a.length * val (b.drop a.length) := Nat.le_mul_of_pos_right _ h5
        omega
    · rw [List.take_of_length_le (by omega)]
  have hc : c = 0 := by
    rcases Nat.eq_zero_or_pos c with h | h
    · exact h
    · have : pw a.length ≤ pw a.length * c := Nat.le_mul_of_pos_right _ h
      omega
  subst hc
  omega
theorem times_step {out : List Nat} {A X p q pb c i j s : Nat} (hi : i + j < out.length) (hd : Dig out) (hv : val out + pw (i + j) * c = A + pw i * (p * X)) (hs : s = out.getD (i + j) 0 + p * q + c) (hX : pb = X + pw j * q) :
    Dig (out.set (i + j) (s % 1000000000)) ∧ val (out.set (i + j) (s % 1000000000)) + pw (i + j + 1) * (s / 1000000000) = A + pw i * (p * pb) := by
  refine ⟨hd.set _ (Nat.mod_lt _ (by decide)), ?_⟩
  have h1 := val_set out (i + j) (s % 1000000000) hi
  have h2 : s = s % 1000000000 + 1000000000 * (s / 1000000000) := by omega
  generalize hs1 : s % 1000000000 = u at *
  generalize hs2 : s / 1000000000 = t at *
  generalize hg : out.getD (i + j) 0 = g at *
  generalize hv2 : val (out.set (i + j) u) = v at *
  rw [vU]
  rw [pw_add] at *
  subst hX
  have h3 : u + 1000000000 * t = g + p * q + c := by omega
  have h4 : pw i * pw j * (u + 1000000000 * t) = pw i * pw j * (g + p * q + c) := by rw [h3]
  grind
theorem dW (n k : Nat) : (List.replicate n 0).getD k 0 = 0 := by
  simp only [List.getD, List.getElem?_replicate]
  split <;> rfl
theorem zero_set {out : List Nat} {i m s : Nat} (h : i < m) (hz : ∀ k, m ≤ k → out.getD k 0 = 0) : ∀ k, m ≤ k → (out.set i s).getD k 0 = 0 := fun k hk => by
  have h1 := hz k hk
  simp only [List.getD, List.getElem?_set] at h1 ⊢
  rw [if_neg (by omega)]
  exact h1
theorem times_row {a b o2 : List Nat} {i c : Nat} (hdb : Dig o2) (hi : i < a.length) (vR : o2.length = a.length + b.length) (hz : ∀ k, i + b.length ≤ k → o2.getD k 0 = 0) (hc : c < 1000000000)
    (hv : val o2 + pw (i + b.length) * c = val (a.take i) * val b + pw i * (a.getD i 0 * val (b.take b.length))) :
    (o2.set (i + b.length) c).length = a.length + b.length ∧ Dig (o2.set (i + b.length) c) ∧ (∀ k, i + 1 + b.length ≤ k → (o2.set (i + b.length) c).getD k 0 = 0) ∧ val (o2.set (i + b.length) c) = val (a.take (i + 1)) * val b := by
  refine ⟨by simpa using vR, hdb.set _ hc, zero_set (by omega) (fun k hk => hz k (by omega)), ?_⟩
  have h1 := val_set o2 (i + b.length) c (by omega)
  rw [hz _ (Nat.le_refl _)] at h1
  rw [List.take_of_length_le (l := b) (Nat.le_refl _)] at hv
  rw [val_take_succ]
  grind
end Go.Fid
namespace Go.Fid
structure jG where
  neg : Bool
  gs : List Nat
structure jV where
  num : jG
  den : jG
structure RRng where
  lo : jV
  hi : jV
instance : Inhabited jG := ⟨⟨false, []⟩⟩
instance : Inhabited jV := ⟨⟨⟨false, []⟩, ⟨false, []⟩⟩⟩
instance : Inhabited RRng := ⟨⟨default, default⟩⟩
def jG.zero : jG := ⟨false, []⟩
def jV.zero : jV := ⟨.zero, .zero⟩
def RRng.zero : RRng := ⟨.zero, .zero⟩
def xB (a b : Int) : Int := if a < b then -1 else if b < a then 1 else 0
theorem eI {a b : Int} (h : b < a) : xB a b = 1 := by unfold xB; rw [if_neg (by omega), if_pos h]
theorem cmpI_eq {a b : Int} (h1 : ¬ a < b) (h2 : ¬ b < a) : xB a b = 0 := by unfold xB; rw [if_neg h1, if_neg h2]
def xS (neg : Bool) (n : Nat) : jG := ⟨neg && n != 0, ofNat n⟩
theorem mkI_zero {neg : Bool} {n : Nat} (h : (((ofNat n).length : Nat) : Int) = 0) : xS neg n = ⟨false, []⟩ := by
  have h1 : ofNat n = [] := List.eq_nil_of_length_eq_zero (by omega)
  have h2 : n = 0 := ofNat_nil.1 h1
  subst h2
  unfold xS
  rw [h1]
  simp
theorem mkI_pos {neg : Bool} {n : Nat} (h : (((ofNat n).length : Nat) : Int) ≠ 0) : xS neg n = ⟨neg, ofNat n⟩ := by
  have h1 : n ≠ 0 := fun e => by subst e; rw [vT] at h; exact h rfl
  unfold xS
  have : (n != 0) = true := bne_iff_ne.2 h1
  rw [this, Bool.and_true]
theorem fY (l : List Nat) (j : Nat) (h : j < l.length) : val (l.drop (l.length - (j + 1))) = l.getD (l.length - 1 - j) 0 + 1000000000 * val (l.drop (l.length - j)) := by
  have h1 : l.length - (j + 1) < l.length := by omega
  rw [List.drop_eq_getElem_cons h1, hO, show l.length - (j + 1) + 1 = l.length - j by omega]
  have h2 : l.length - 1 - j = l.length - (j + 1) := by omega
  rw [h2]
  simp [List.getD, List.getElem?_eq_getElem h1]
theorem val_drop_lt {l : List Nat} (hd : Dig l) {j : Nat} (h : j ≤ l.length) : val (l.drop (l.length - j)) < pw j := by
  have h1 := xH (hd.drop (l.length - j))
  rw [List.length_drop, show l.length - (l.length - j) = j by omega] at h1
  exact h1
def yP (l : List Nat) : Nat := if l.length ≤ 2 then val l else 0
def nJ (l : List Nat) : Bool := decide (l.length ≤ 2)
theorem word_bound {l : List Nat} (hd : Dig l) {j : Nat} (h : j < l.length) (h2 : l.length ≤ 2) : val (l.drop (l.length - j)) < 1000000000 := by
  have h1 := val_drop_lt hd (Nat.le_of_lt h)
  have h3 : pw j ≤ pw 1 := gW (by omega)
  rw [show (1 : Nat) = 0 + 1 from rfl, vU, nR] at h3
  omega
theorem val_len2 {l : List Nat} (hd : Dig l) (h2 : l.length ≤ 2) : val l < 1000000000000000000 := by
  have h1 := xH hd
  have h3 : pw l.length ≤ pw 2 := gW h2
  rw [show (2 : Nat) = 0 + 1 + 1 from rfl, vU, vU, nR] at h3
  omega
theorem cmpI_len {a b : List Nat} (ha : gB a) (hb : gB b) (h : ((a.length : Nat) : Int) ≠ ((b.length : Nat) : Int)) : xB ((a.length : Nat) : Int) ((b.length : Nat) : Int) = xB ((val a : Nat) : Int) ((val b : Nat) : Int) := by
  have e1 := can_eq ha
  have e2 := can_eq hb
  by_cases hlt : a.length < b.length
  · have : val a < val b := dQ (by rw [← e1, ← e2]; exact hlt)
    unfold xB
    rw [if_pos (by omega), if_pos (by omega)]
  · have : val b < val a := dQ (by rw [← e1, ← e2]; omega)
    rw [eI (by omega), eI (by omega)]
theorem cmpI_top {a b : List Nat} (ha : Dig a) (hb : Dig b) (hl : a.length = b.length) {j : Nat} (h : j < a.length) (he : val (a.drop (a.length - j)) = val (b.drop (a.length - j))) (hne : ((a.getD (a.length - 1 - j) 0 : Nat) : Int) ≠ ((b.getD (a.length - 1 - j) 0 : Nat) : Int)) :
    xB ((a.getD (a.length - 1 - j) 0 : Nat) : Int) ((b.getD (a.length - 1 - j) 0 : Nat) : Int) = xB ((val a : Nat) : Int) ((val b : Nat) : Int) := by
  have h1 := cF a (a.length - (j + 1)) (by omega)
  have h2 := cF b (a.length - (j + 1)) (by omega)
  rw [fY a j h] at h1
  have h3 := fY b j (by omega)
  rw [← hl] at h3
  rw [h3, ← he] at h2
  have h4 := xH (ha.take (a.length - (j + 1)))
  have h5 := xH (hb.take (a.length - (j + 1)))
  rw [List.length_take, Nat.min_eq_left (by omega)] at h4 h5
  generalize a.getD (a.length - 1 - j) 0 = x at *
  generalize b.getD (a.length - 1 - j) 0 = y at *
  generalize val (a.drop (a.length - j)) = t at *
  generalize pw (a.length - (j + 1)) = p at *
  generalize val (a.take (a.length - (j + 1))) = u at *
  generalize val (b.take (a.length - (j + 1))) = v at *
  rcases Nat.lt_or_gt_of_ne (show x ≠ y by omega) with hxy | hxy
  · have h6 : p * (x + 1000000000 * t) + p ≤ p * (y + 1000000000 * t) := by
      have := Nat.mul_le_mul_left p (show x + 1000000000 * t + 1 ≤ y + 1000000000 * t by omega)
      rw [Nat.mul_add, Nat.mul_one] at this
      exact this
    unfold xB
    rw [if_pos (by omega), if_pos (by omega)]
  · have h6 : p * (y + 1000000000 * t) + p ≤ p * (x + 1000000000 * t) := by
      have := Nat.mul_le_mul_left p (show y + 1000000000 * t + 1 ≤ x + 1000000000 * t by omega)
      rw [Nat.mul_add, Nat.mul_one] at this
      exact this
    rw [eI (by omega), eI (by omega)]
theorem cmpI_same {a b : List Nat} (he : val a = val b) : xB ((val a : Nat) : Int) ((val b : Nat) : Int) = 0 := by
  rw [he]; exact cmpI_eq (by omega) (by omega)
theorem dV {n : Nat} (h : n < 18446744073709551616) : (ofNat n).length ≤ 3 := vC (by
  rw [show (3 : Nat) = 0 + 1 + 1 + 1 from rfl, vU, vU, vU, nR]; omega)
theorem split_step {g : List Nat} {m n : Nat} (h : g ++ ofNat m = ofNat n) (hm : (0 : Int) < ((m : Nat) : Int)) : (g ++ [m % 1000000000]) ++ ofNat (m / 1000000000) = ofNat n := by
  rw [← h, mC (n := m) (by omega), List.append_assoc]; rfl
theorem split_len {g : List Nat} {m n : Nat} (h : g ++ ofNat m = ofNat n) (hn : n < 18446744073709551616) : g.length ≤ 3 := by
  have := dV hn
  rw [← h, List.length_append] at this
  omega
theorem split_end {g : List Nat} {m n : Nat} (h : g ++ ofNat m = ofNat n) (hm : ¬ (0 : Int) < ((m : Nat) : Int)) : ofNat n = g := by
  have : m = 0 := by omega
  subst this
  rw [← h, vT, List.append_nil]
def xV : List Nat → Int
  | [] => -1
  | d :: l => if 1000000000 ≤ d then 0 else if xV l < 0 then -1 else xV l + 1
theorem firstBig_none {l : List Nat} : xV l < 0 ↔ Dig l := by
  induction l with
  | nil => simp [xV, gJ]
  | cons d l ih =>
    rw [yT]
    unfold xV
    by_cases h : 1000000000 ≤ d
    · rw [if_pos h]; constructor
      · intro h1; omega
      · intro h1; omega
    · rw [if_neg h]
      by_cases h2 : xV l < 0
      · rw [if_pos h2]; simp [ih.1 h2]; omega
      · rw [if_neg h2]; constructor
        · intro h1; omega
        · intro h1; exact absurd (ih.2 h1.2) h2
theorem aS {l : List Nat} (h : Dig l) : xV l = -1 := by
  induction l with
  | nil => rfl
  | cons d l ih =>
    rw [yT] at h
    unfold xV
    rw [if_neg (by omega), if_pos (firstBig_none.2 h.2)]
theorem firstBig_at : ∀ {l : List Nat} {i : Nat}, i < l.length → Dig (l.take i) → 1000000000 ≤ l.getD i 0 → xV l = (i : Int)
  | [], i, h, _, _ => by simp at h
  | d :: l, 0, _, _, hd => by
    unfold xV
    rw [if_pos (by simpa using hd)]; rfl
  | d :: l, i + 1, h, ht, hd => by
    rw [List.take_succ_cons, yT] at ht
    have ih := firstBig_at (l := l) (i := i) (by simpa using h) ht.2 (by simpa using hd)
    unfold xV
    rw [if_neg (by omega), ih, if_neg (by omega)]
    omega
theorem dig_take_succ {l : List Nat} {i : Nat} (h : i < l.length) (ht : Dig (l.take i)) (hd : l.getD i 0 < 1000000000) : Dig (l.take (i + 1)) := by
  rw [List.take_succ_eq_append_getElem h, aE]
  refine ⟨ht, ?_⟩
  intro d hx
  simp [List.getD, List.getElem?_eq_getElem h] at hd hx
  rw [hx]; exact hd
def vF (x : jG) : Bool := if ((x.gs.length : Nat) : Int) = 0 then !x.neg else (((((x.gs.getD (x.gs.length - 1) 0) : Nat) : Int) != 0) && (!(decide (0 ≤ xV x.gs))))
def kS (x : jG) : List Nat := if vF x = true then x.gs else []
theorem qR (x : jG) : gB (kS x) := by
  unfold kS
  split
  · rename_i h
    unfold vF at h
    split at h
    · have : x.gs = [] := List.eq_nil_of_length_eq_zero (by omega)
      rw [this]; exact ⟨gJ, by simp [Top]⟩
    · rename_i h0
      simp only [Bool.and_eq_true, Bool.not_eq_true', decide_eq_false_iff_not, bne_iff_ne] at h
      refine ⟨firstBig_none.1 (by omega), fun h1 => h.1 ?_⟩
      have h4 : x.gs.length - 1 < x.gs.length := by omega
      simp [List.getD, List.getElem?_eq_getElem h4] at h1 ⊢
      exact h1
  · exact ⟨gJ, by simp [Top]⟩
def mK (b : Bool) (n : Nat) : Int := if b then -(n : Int) else n
def kA (x : jG) : Int := mK x.neg (val (kS x))
def kN (z : Int) : jG := xS (decide (z < 0)) z.natAbs
theorem mQ (b : Bool) (n : Nat) : xS b n = kN (mK b n) := by
  unfold kN mK
  cases b with
  | false =>
    rw [if_neg (by simp), Int.natAbs_natCast]
    have : decide ((n : Int) < 0) = false := decide_eq_false (by omega)
    rw [this]
  | true =>
    rw [if_pos rfl, Int.natAbs_neg, Int.natAbs_natCast]
    unfold xS
    by_cases h : n = 0
    · subst h; simp
    · have h1 : decide (-(n : Int) < 0) = true := decide_eq_true (by omega)
      rw [h1]
theorem gA (x : jG) : (kS x).length ≤ x.gs.length := by
  unfold kS; split
  · exact Nat.le_refl _
  · exact Nat.zero_le _
theorem add_len {a b : List Nat} (ha : Dig a) (hb : Dig b) : (ofNat (val a + val b)).length ≤ max a.length b.length + 1 := vC (by
  have h1 := xH ha
  have h2 := xH hb
  have h3 : pw a.length ≤ pw (max a.length b.length) := gW (by omega)
  have h4 : pw b.length ≤ pw (max a.length b.length) := gW (by omega)
  rw [vU]; omega)
theorem sub_len {a b : List Nat} (ha : Dig a) : (ofNat (val a - val b)).length ≤ a.length := vC (by
  have h1 := xH ha
  omega)
theorem mul_len {a b : List Nat} (ha : Dig a) (hb : Dig b) : (ofNat (val a * val b)).length ≤ a.length + b.length := vC (by
  rw [pw_add]
  exact Nat.mul_lt_mul_of_lt_of_le (xH ha) (Nat.le_of_lt (xH hb)) (pw_pos _))
def uU (z : Int) : Int := if z = 0 then 0 else if z < 0 then -1 else 1
theorem aI {l : List Nat} (h : gB l) (h0 : val l = 0) : l = [] := by rw [can_eq h, h0, vT]
theorem toZ_nil {x : jG} (h : (((kS x).length : Nat) : Int) = 0) : kA x = 0 := by
  have : kS x = [] := List.eq_nil_of_length_eq_zero (by omega)
  unfold kA mK
  rw [this, val_nil]; split <;> rfl
theorem sign_neg {x : jG} (h : (((kS x).length : Nat) : Int) ≠ 0) (hn : x.neg = true) : uU (kA x) = -1 := by
  have h1 : val (kS x) ≠ 0 := fun e => h (by rw [aI (qR x) e]; rfl)
  unfold uU kA mK
  rw [if_pos hn, if_neg (by omega), if_pos (by omega)]
theorem sign_pos {x : jG} (h : (((kS x).length : Nat) : Int) ≠ 0) (hn : x.neg = false) : uU (kA x) = 1 := by
  have h1 : val (kS x) ≠ 0 := fun e => h (by rw [aI (qR x) e]; rfl)
  unfold uU kA mK
  rw [hn]
  simp only [Bool.false_eq_true, if_false]
  rw [if_neg (by omega), if_neg (by omega)]
theorem neg_eq (x : jG) : xS (!x.neg) (val (kS x)) = kN (-kA x) := by
  rw [mQ]
  congr 1
  unfold kA mK
  cases x.neg <;> simp
theorem sum_same {b c : Bool} (h : b = c) (m n : Nat) : xS b (val (ofNat (m + n))) = kN (mK b m + mK c n) := by
  subst h
  rw [mQ, kL]
  congr 1
  unfold mK
  cases b <;> simp <;> omega
theorem sum_first {b c : Bool} (h : b ≠ c) {m n : Nat} (hn : n ≤ m) : xS b (val (ofNat (m - n))) = kN (mK b m + mK c n) := by
  have h1 : c = !b := by revert h; cases b <;> cases c <;> simp
  subst h1
  rw [mQ, kL]
  congr 1
  unfold mK
  cases b <;> simp <;> omega
theorem sum_second {b c : Bool} (h : b ≠ c) {m n : Nat} (hn : m ≤ n) : xS c (val (ofNat (n - m))) = kN (mK b m + mK c n) := by
  have h1 : c = !b := by revert h; cases b <;> cases c <;> simp
  subst h1
  rw [mQ, kL]
  congr 1
  unfold mK
  cases b <;> simp <;> omega
theorem aF {a b : Int} (h : 0 ≤ xB a b) : b ≤ a := by
  unfold xB at h
  split at h
  · omega
  · omega
theorem cmpI_lt {a b : Int} (h : ¬ 0 ≤ xB a b) : a < b := by
  unfold xB at h
  split at h
  · assumption
  · split at h <;> omega
theorem mul_eq {b c : Bool} (m n : Nat) : xS (!(b == c)) (val (ofNat (m * n))) = kN (mK b m * mK c n) := by
  rw [mQ, kL]
  congr 1
  unfold mK
  cases b <;> cases c <;> simp [Int.neg_mul, Int.mul_neg]
theorem conv_u64 (n : Int) : IntKind.u64.wrap n = (((n % 18446744073709551616).toNat : Nat) : Int) := by
  have : IntKind.u64.wrap n = n % 18446744073709551616 := by
    simp [IntKind.wrap, IntKind.bits, IntKind.signed]
  rw [this]; omega
theorem neg_u64 {n : Int} (h : n < 0) (h1 : -9223372036854775808 ≤ n) : IntKind.u64.wrap (0 - (((n % 18446744073709551616).toNat : Nat) : Int)) = (((-n).toNat : Nat) : Int) := by
  have : IntKind.u64.wrap (0 - (((n % 18446744073709551616).toNat : Nat) : Int)) = (0 - (((n % 18446744073709551616).toNat : Nat) : Int)) % 18446744073709551616 := by
    simp [IntKind.wrap, IntKind.bits, IntKind.signed]
  rw [this]; omega
theorem of_neg {n : Int} (h : n < 0) : xS (decide (n < 0)) (val (ofNat (-n).toNat)) = kN n := by
  rw [kL]
  unfold kN
  congr 1; omega
theorem of_pos {n : Int} (h : ¬ n < 0) (h1 : n ≤ 9223372036854775807) : xS (decide (n < 0)) (val (ofNat (n % 18446744073709551616).toNat)) = kN n := by
  rw [kL]
  unfold kN
  congr 1; omega
theorem yQ (z : Int) : (uU z = 0 ∧ z = 0) ∨ (uU z = -1 ∧ z < 0) ∨ (uU z = 1 ∧ 0 < z) := by
  unfold uU
  split
  · left; omega
  · split <;> omega
theorem cmp_sign {a b : Int} (h : uU a ≠ uU b) : xB (uU a) (uU b) = xB a b := by
  rcases yQ a with ⟨h1, h2⟩ | ⟨h1, h2⟩ | ⟨h1, h2⟩ <;> rcases yQ b with ⟨h3, h4⟩ | ⟨h3, h4⟩ | ⟨h3, h4⟩ <;> first | exact absurd (h1.trans h3.symm) h | (rw [h1, h3]; unfold xB; first | rw [if_pos (by omega), if_pos (by omega)] | rw [if_neg (by omega), if_pos (by omega), if_neg (by omega), if_pos (by omega)])
theorem cmp_neg {x y : jG} (h : uU (kA x) = uU (kA y)) (hn : x.neg = true) : -(xB ((val (kS x) : Nat) : Int) ((val (kS y) : Nat) : Int)) = xB (kA x) (kA y) := by
  have hx : kA x = -((val (kS x) : Nat) : Int) := by unfold kA mK; rw [if_pos hn]
  have hy : kA y = -((val (kS y) : Nat) : Int) ∨ kA y = ((val (kS y) : Nat) : Int) := by unfold kA mK; split <;> simp
  rcases yQ (kA x) with ⟨h1, h2⟩ | ⟨h1, h2⟩ | ⟨h1, h2⟩ <;> rcases yQ (kA y) with ⟨h3, h4⟩ | ⟨h3, h4⟩ | ⟨h3, h4⟩ <;> first | (exfalso; omega) | skip
  · have e1 : ((val (kS x) : Nat) : Int) = 0 := by omega
    have e2 : ((val (kS y) : Nat) : Int) = 0 := by omega
    rw [e1, e2, h2, h4]; rfl
  · have e2 : kA y = -((val (kS y) : Nat) : Int) := by omega
    rw [hx, e2]
    unfold xB
    split <;> split <;> first | rfl | omega | (split <;> first | rfl | omega)
theorem cmp_pos {x y : jG} (h : uU (kA x) = uU (kA y)) (hn : x.neg = false) : xB ((val (kS x) : Nat) : Int) ((val (kS y) : Nat) : Int) = xB (kA x) (kA y) := by
  have hx : kA x = ((val (kS x) : Nat) : Int) := by unfold kA mK; rw [hn]; rfl
  have hy : kA y = -((val (kS y) : Nat) : Int) ∨ kA y = ((val (kS y) : Nat) : Int) := by unfold kA mK; split <;> simp
  rcases yQ (kA x) with ⟨h1, h2⟩ | ⟨h1, h2⟩ | ⟨h1, h2⟩ <;> rcases yQ (kA y) with ⟨h3, h4⟩ | ⟨h3, h4⟩ | ⟨h3, h4⟩ <;> first | (exfalso; omega) | skip
  · have e1 : ((val (kS x) : Nat) : Int) = 0 := by omega
    have e2 : ((val (kS y) : Nat) : Int) = 0 := by omega
    rw [e1, e2, h2, h4]
  · have e2 : kA y = ((val (kS y) : Nat) : Int) := by omega
    rw [hx, e2]
theorem cmpI_range (a b : Int) : -1 ≤ xB a b ∧ xB a b ≤ 1 := by
  unfold xB; split <;> (try split) <;> omega
end Go.Fid
namespace Go.Fid
set_option linter.unusedVariables false
set_option linter.unusedSimpArgs false
theorem drop_set_self (q : List Nat) (i e : Nat) (h : i < q.length) : (q.set i e).drop i = e :: q.drop (i + 1) := by
  rw [List.drop_eq_getElem_cons (by simpa using h), List.getElem_set_self, List.drop_set_of_lt (by omega)]
theorem mN (q : List Nat) (i e : Nat) (h : i < q.length) : val ((q.set i e).drop i) = e + 1000000000 * val (q.drop (i + 1)) := by
  rw [drop_set_self q i e h, hO]
theorem short_step {a q : List Nat} {d xR j n : Nat} (hj : j < a.length) (hq : q.length = a.length)
    (hv : val (a.drop (a.length - j)) = val (q.drop (a.length - j)) * d + xR) (hn : n = xR * 1000000000 + a.getD (a.length - 1 - j) 0) :
    val (a.drop (a.length - (j + 1))) = val ((q.set (a.length - 1 - j) (n / d)).drop (a.length - (j + 1))) * d + n % d := by
  have h1 : a.length - (j + 1) = a.length - 1 - j := by omega
  have h2 : a.length - 1 - j + 1 = a.length - j := by omega
  rw [fY a j hj, hv, h1, mN q _ _ (by omega), h2]
  have h3 := Nat.div_add_mod n d
  rw [Nat.add_mul, Nat.mul_comm (n / d) d]
  generalize val (q.drop (a.length - j)) = Q at *
  have h4 : 1000000000 * Q * d = 1000000000 * (Q * d) := Nat.mul_assoc _ _ _
  omega
theorem short_bound {d xR g : Nat} (hr : xR < d) (hd : d ≤ 1000000000) (hg : g < 1000000000) : xR * 1000000000 + g < 1000000000000000000 ∧ (xR * 1000000000 + g) / d < 1000000000 := by
  have h1 : xR * 1000000000 + g < d * 1000000000 := by omega
  refine ⟨by omega, ?_⟩
  rw [Nat.div_lt_iff_lt_mul (by omega)]
  omega
theorem short_end {a q : List Nat} {d xR : Nat} (hv : val (a.drop (a.length - a.length)) = val (q.drop (a.length - a.length)) * d + xR) (hr : xR < d) : val q = val a / d ∧ xR = val a % d := by
  rw [Nat.sub_self, List.drop_zero, List.drop_zero] at hv
  rw [hv]
  have h0 : 0 < d := by omega
  constructor
  · rw [Nat.mul_comm, Nat.mul_add_div h0, Nat.div_eq_of_lt hr, Nat.add_zero]
  · rw [Nat.mul_comm, Nat.mul_add_mod, Nat.mod_eq_of_lt hr]
def mU (b : List Nat) : Nat := 1000000000 / (b.getD (b.length - 1) 0 + 1)
theorem aK {b : List Nat} (hb : gB b) (h : 0 < b.length) : 0 < b.getD (b.length - 1) 0 ∧ b.getD (b.length - 1) 0 < 1000000000 := by
  refine ⟨?_, hb.1.getD _⟩
  have h1 := hb.2
  unfold Top at h1
  have h2 : b.length - 1 < b.length := by omega
  simp [List.getD, List.getElem?_eq_getElem h2] at h1 ⊢
  omega
theorem fQ {b : List Nat} (hb : gB b) (h : 0 < b.length) : 1 ≤ mU b ∧ mU b ≤ 500000000 ∧ mU b * (b.getD (b.length - 1) 0 + 1) ≤ 1000000000 := by
  obtain ⟨h1, h2⟩ := aK hb h
  unfold mU
  generalize b.getD (b.length - 1) 0 = t at *
  refine ⟨?_, ?_, Nat.div_mul_le_self _ _⟩
  · rw [Nat.le_div_iff_mul_le (by omega)]; omega
  · have : 1000000000 / (t + 1) ≤ 1000000000 / 2 := Nat.div_le_div_left (by omega) (by decide)
    omega
theorem pw_pred {n : Nat} (h : 0 < n) : pw n = 1000000000 * pw (n - 1) := by
  obtain ⟨m, rfl⟩ : ∃ m, n = m + 1 := ⟨n - 1, by omega⟩
  rw [vU]; rfl
theorem val_top {b : List Nat} (h : Dig b) (hl : 0 < b.length) : b.getD (b.length - 1) 0 * pw (b.length - 1) ≤ val b ∧ val b < (b.getD (b.length - 1) 0 + 1) * pw (b.length - 1) := by
  have h1 := val_take_succ b (b.length - 1)
  rw [show b.length - 1 + 1 = b.length by omega, List.take_length] at h1
  have h2 := xH (h.take (b.length - 1))
  rw [List.length_take, Nat.min_eq_left (by omega)] at h2
  rw [Nat.mul_comm] at h1
  rw [Nat.add_mul, Nat.one_mul]
  omega
theorem scl_len {b : List Nat} (hb : gB b) (h : 0 < b.length) : (ofNat (val b * mU b)).length = b.length := by
  obtain ⟨h1, h2, h3⟩ := fQ hb h
  obtain ⟨h4, h5⟩ := val_top hb.1 h
  have h6 : val b * mU b < pw b.length := by
    rw [pw_pred h]
    have h7 : val b * mU b < (b.getD (b.length - 1) 0 + 1) * pw (b.length - 1) * mU b := Nat.mul_lt_mul_of_pos_right h5 (by omega)
    have h8 : (b.getD (b.length - 1) 0 + 1) * pw (b.length - 1) * mU b = mU b * (b.getD (b.length - 1) 0 + 1) * pw (b.length - 1) := by
      rw [Nat.mul_comm, ← Nat.mul_assoc]
    have h9 := Nat.mul_le_mul_right (pw (b.length - 1)) h3
    omega
  have h7 := vC h6
  have h8 : ¬ (ofNat (val b * mU b)).length < b.length := fun hlt => by
    have h9 : b.length = (ofNat (val b)).length := congrArg List.length (can_eq hb)
    rw [h9] at hlt
    have := dQ hlt
    have h10 : val b * 1 ≤ val b * mU b := Nat.mul_le_mul_left _ h1
    omega
  omega
theorem xU {m n : Nat} (h : m ≤ n) : (ofNat m).length ≤ (ofNat n).length := by
  by_cases hlt : (ofNat n).length < (ofNat m).length
  · have := dQ hlt; omega
  · omega
theorem ofNat_lt_pw (n : Nat) : n < pw (ofNat n).length := by
  have := xH (kM n)
  rwa [kL] at this
theorem cO {n : Nat} (h : 0 < n) : 0 < (ofNat n).length := by
  rw [mC (by omega)]; simp
theorem scl_lenA {a b : List Nat} (ha : gB a) (hb : gB b) (h : 0 < b.length) : a.length ≤ (ofNat (val a * mU b)).length ∧ (ofNat (val a * mU b)).length ≤ a.length + 1 := by
  obtain ⟨h1, h2, h3⟩ := fQ hb h
  constructor
  · have h4 := xU (m := val a) (n := val a * mU b) (by
      have := Nat.mul_le_mul_left (val a) h1; omega)
    rwa [← can_eq ha] at h4
  · refine vC ?_
    have h4 := xH ha.1
    rw [vU]
    have h5 : val a * mU b ≤ val a * 1000000000 := Nat.mul_le_mul_left _ (by omega)
    have h6 : val a * 1000000000 < pw a.length * 1000000000 := Nat.mul_lt_mul_of_pos_right h4 (by decide)
    omega
theorem len_of_le {a b : List Nat} (ha : gB a) (hb : gB b) (h : val b ≤ val a) : b.length ≤ a.length := by
  have h1 := xU h
  rwa [← can_eq ha, ← can_eq hb] at h1
theorem guess_first {W V v1 r1 p top : Nat} (hV : v1 * p ≤ V) (hW : W < (top + 1) * p) (hv : 0 < v1) (hr : r1 = top / v1) : W / V ≤ r1 := by
  by_cases hV0 : V = 0
  · subst hV0; rw [Nat.div_zero]; exact Nat.zero_le _
  refine Nat.le_of_lt_succ ((Nat.div_lt_iff_lt_mul (by omega)).2 ?_)
  have h1 : top + 1 ≤ (r1 + 1) * v1 := by
    subst hr
    have := Nat.lt_div_mul_add (a := top) hv
    rw [Nat.add_mul, Nat.one_mul]; omega
  have h2 := Nat.mul_le_mul_right p h1
  have h3 := Nat.mul_le_mul_left (r1 + 1) hV
  have h4 : (r1 + 1) * v1 * p = (r1 + 1) * (v1 * p) := Nat.mul_assoc _ _ _
  show W < (r1 + 1) * V
  omega
theorem guess_less {W V v1 v2 u2 G R p top : Nat} (hp : 0 < p) (hV : (v1 * 1000000000 + v2) * p ≤ V) (hW : W < (top * 1000000000 + u2 + 1) * p) (htop : G * v1 + R = top) (hG : W / V ≤ G) (hv : 0 < v1) (hlt : W < 1000000000 * V)
    (ht : 1000000000 ≤ G ∨ R * 1000000000 + u2 < G * v2) : W / V ≤ G - 1 ∧ 0 < G := by
  have hVp : 0 < V := Nat.lt_of_lt_of_le (Nat.mul_pos (by omega) hp) hV
  have hq : W / V < 1000000000 := (Nat.div_lt_iff_lt_mul hVp).2 hlt
  rcases ht with h | h
  · omega
  · have hG0 : 0 < G := by
      rcases Nat.eq_zero_or_pos G with h0 | h0
      · subst h0; rw [Nat.zero_mul] at h; omega
      · exact h0
    refine ⟨?_, hG0⟩
    have hne : W / V ≠ G := fun e => by
      have h1 : G * V ≤ W := by rw [← e]; exact Nat.div_mul_le_self _ _
      have h2 := Nat.mul_le_mul_left G hV
      have h3 : G * ((v1 * 1000000000 + v2) * p) = G * (v1 * 1000000000 + v2) * p := (Nat.mul_assoc _ _ _).symm
      have h4 : G * (v1 * 1000000000 + v2) * p < (top * 1000000000 + u2 + 1) * p := by omega
      have h5 := Nat.lt_of_mul_lt_mul_right h4
      rw [Nat.mul_add, ← Nat.mul_assoc] at h5
      rw [← htop, Nat.add_mul] at h5
      omega
    omega
theorem guess_near {W V v1 v2 u2 G R p top : Nat} (hV : V < (v1 * 1000000000 + v2 + 1) * p) (hW : (top * 1000000000 + u2) * p ≤ W) (htop : G * v1 + R = top) (hv : 0 < v1) (hz : 0 < V) (hG : G < 1000000000) (ht : G * v2 ≤ R * 1000000000 + u2) : G ≤ W / V + 1 := by
  rcases Nat.eq_zero_or_pos G with h0 | h0
  · rw [h0]; exact Nat.zero_le _
  have h1 : (G - 1) * V ≤ W := by
    have h2 := Nat.mul_le_mul_left (G - 1) (Nat.le_of_lt hV)
    refine Nat.le_trans h2 (Nat.le_trans ?_ hW)
    rw [← Nat.mul_assoc]
    refine Nat.mul_le_mul_right p ?_
    obtain ⟨g, rfl⟩ : ∃ g, G = g + 1 := ⟨G - 1, by omega⟩
    rw [Nat.add_sub_cancel]
    rw [← htop]
    have e1 : g * (v1 * 1000000000 + v2 + 1) = g * v1 * 1000000000 + g * v2 + g := by
      rw [Nat.mul_add, Nat.mul_add, Nat.mul_one, ← Nat.mul_assoc]
    have e2 : ((g + 1) * v1 + R) * 1000000000 = g * v1 * 1000000000 + v1 * 1000000000 + R * 1000000000 := by
      rw [Nat.add_mul, Nat.add_mul, Nat.add_mul, Nat.one_mul]
    have e3 : (g + 1) * v2 = g * v2 + v2 := by rw [Nat.add_mul, Nat.one_mul]
    rw [e1, e2]
    omega
  have h3 : G - 1 ≤ W / V := (Nat.le_div_iff_mul_le hz).2 h1
  exact Nat.le_add_of_sub_le h3
theorem msub_step {u u' v : List Nat} {i j n L G carry borrow p e borrow' : Nat} (hj : j + n < L) (hi : i < n) (hl : u'.length = L) (hlu : u.length = L) (hd : Dig u') (h1 : u'.take j = u.take j) (h2 : u'.drop (j + i) = u.drop (j + i))
    (hv : val ((u'.drop j).take i) + G * val (v.take i) = val ((u.drop j).take i) + pw i * (carry + borrow)) (hp : p = G * v.getD i 0 + carry) (he : e < 1000000000) (hs : e + borrow + p % 1000000000 = u'.getD (i + j) 0 + 1000000000 * borrow') :
    (u'.set (i + j) e).length = L ∧ Dig (u'.set (i + j) e) ∧ (u'.set (i + j) e).take j = u.take j ∧ (u'.set (i + j) e).drop (j + (i + 1)) = u.drop (j + (i + 1)) ∧
    val (((u'.set (i + j) e).drop j).take (i + 1)) + G * val (v.take (i + 1)) = val ((u.drop j).take (i + 1)) + pw (i + 1) * (p / 1000000000 + borrow') := by
  have e0 : u'.getD (i + j) 0 = (u.drop j).getD i 0 := by
    have h3 : (u'.drop (j + i)).getD 0 0 = (u.drop (j + i)).getD 0 0 := by rw [h2]
    simp only [List.getD, List.getElem?_drop, Nat.add_zero] at h3 ⊢
    rw [Nat.add_comm i j]; exact h3
  refine ⟨by simpa using hl, hd.set _ he, by rw [List.take_set_of_le (by omega)]; exact h1, ?_, ?_⟩
  · rw [List.drop_set_of_lt (by omega)]
    have h3 : (u'.drop (j + i)).drop 1 = (u.drop (j + i)).drop 1 := by rw [h2]
    rw [List.drop_drop, List.drop_drop] at h3
    exact h3
  · have e1 : (u'.set (i + j) e).drop j = (u'.drop j).set i e := by
      rw [List.drop_set, if_neg (by omega)]; congr 1; omega
    rw [e1, dF _ _ _ (by rw [List.length_drop]; omega), val_take_succ, val_take_succ, ← e0, vU]
    have e2 := Nat.mod_add_div p 1000000000
    generalize val ((u'.drop j).take i) = A at *
    generalize val ((u.drop j).take i) = Y at *
    generalize val (v.take i) = X at *
    generalize v.getD i 0 = vi at *
    generalize u'.getD (i + j) 0 = d0 at *
    generalize pw i = P at *
    generalize p / 1000000000 = c' at *
    generalize p % 1000000000 = x at *
    have e3 : G * (X + P * vi) = G * X + P * (G * vi) := by rw [Nat.mul_add, Nat.mul_left_comm]
    have e4 : P * e + P * (G * vi) + P * (carry + borrow) = P * d0 + 1000000000 * P * (c' + borrow') := by
      have e5 : e + G * vi + (carry + borrow) = d0 + 1000000000 * (c' + borrow') := by omega
      have e6 := congrArg (P * ·) e5
      simp only [Nat.mul_add] at e6
      have e7 : 1000000000 * P * (c' + borrow') = P * (1000000000 * c') + P * (1000000000 * borrow') := by
        rw [Nat.mul_comm 1000000000 P, Nat.mul_assoc, Nat.mul_add, Nat.mul_add]
      rw [e7, Nat.mul_add]
      omega
    rw [e3]
    omega
theorem addb_step {u u' v : List Nat} {i j n L c s e c' : Nat} (hj : j + n < L) (hi : i < n) (hl : u'.length = L) (hlu : u.length = L) (hd : Dig u') (h1 : u'.take j = u.take j) (h2 : u'.drop (j + i) = u.drop (j + i))
    (hv : val ((u'.drop j).take i) + pw i * c = val ((u.drop j).take i) + val (v.take i)) (hs : s = u'.getD (i + j) 0 + v.getD i 0 + c) (he : e < 1000000000) (hc : e + 1000000000 * c' = s) :
    (u'.set (i + j) e).length = L ∧ Dig (u'.set (i + j) e) ∧ (u'.set (i + j) e).take j = u.take j ∧ (u'.set (i + j) e).drop (j + (i + 1)) = u.drop (j + (i + 1)) ∧
    val (((u'.set (i + j) e).drop j).take (i + 1)) + pw (i + 1) * c' = val ((u.drop j).take (i + 1)) + val (v.take (i + 1)) := by
  have e0 : u'.getD (i + j) 0 = (u.drop j).getD i 0 := by
    have h3 : (u'.drop (j + i)).getD 0 0 = (u.drop (j + i)).getD 0 0 := by rw [h2]
    simp only [List.getD, List.getElem?_drop, Nat.add_zero] at h3 ⊢
    rw [Nat.add_comm i j]; exact h3
  refine ⟨by simpa using hl, hd.set _ he, by rw [List.take_set_of_le (by omega)]; exact h1, ?_, ?_⟩
  · rw [List.drop_set_of_lt (by omega)]
    have h3 : (u'.drop (j + i)).drop 1 = (u.drop (j + i)).drop 1 := by rw [h2]
    rw [List.drop_drop, List.drop_drop] at h3
    exact h3
  · have e1 : (u'.set (i + j) e).drop j = (u'.drop j).set i e := by
      rw [List.drop_set, if_neg (by omega)]; congr 1; omega
    rw [e1, dF _ _ _ (by rw [List.length_drop]; omega), val_take_succ, val_take_succ, ← e0, vU]
    generalize val ((u'.drop j).take i) = A at *
    generalize val ((u.drop j).take i) = Y at *
    generalize val (v.take i) = X at *
    generalize v.getD i 0 = vi at *
    generalize u'.getD (i + j) 0 = d0 at *
    generalize pw i = P at *
    have e4 : P * e + 1000000000 * P * c' = P * d0 + P * vi + P * c := by
      have e5 : e + 1000000000 * c' = d0 + vi + c := by omega
      have e6 := congrArg (P * ·) e5
      simp only [Nat.mul_add] at e6
      rw [Nat.mul_comm 1000000000 P, Nat.mul_assoc]
      omega
    omega
theorem gO (u : List Nat) (j n : Nat) : val (u.drop j) = val ((u.drop j).take n) + pw n * val (u.drop (j + n)) := by
  by_cases h : n ≤ (u.drop j).length
  · rw [cF (u.drop j) n h, List.drop_drop]
  · rw [List.take_of_length_le (by omega), List.drop_eq_nil_of_le (i := j + n) (by rw [List.length_drop] at h; omega), val_nil, Nat.mul_zero, Nat.add_zero]
theorem xZ (u : List Nat) (j : Nat) : val (u.drop j) = u.getD j 0 + 1000000000 * val (u.drop (j + 1)) := by
  by_cases h : j < u.length
  · rw [List.drop_eq_getElem_cons h, hO]; simp [List.getD, List.getElem?_eq_getElem h]
  · rw [List.drop_eq_nil_of_le (by omega), List.drop_eq_nil_of_le (by omega), val_nil]; simp [List.getD, List.getElem?_eq_none (by omega : u.length ≤ j)]
theorem window {u v : List Nat} {j n : Nat} (hv : Dig v) (hn : v.length = n) (h : val (u.drop (j + 1)) < val v) : val (u.drop (j + n + 1)) = 0 ∧ val (u.drop j) = val ((u.drop j).take n) + pw n * u.getD (j + n) 0 := by
  have h1 := xH hv
  rw [hn] at h1
  have h2 := gO u (j + 1) n
  have h3 : val (u.drop (j + 1 + n)) = 0 := by
    rcases Nat.eq_zero_or_pos (val (u.drop (j + 1 + n))) with h4 | h4
    · exact h4
    · have := Nat.mul_le_mul_left (pw n) h4
      omega
  rw [show j + 1 + n = j + n + 1 by omega] at h3
  refine ⟨h3, ?_⟩
  rw [gO u j n, xZ u (j + n), h3, Nat.mul_zero, Nat.add_zero]
theorem window_tops {u v : List Nat} {j n : Nat} (hu : Dig u) (hv : Dig v) (hn : v.length = n) (h2 : 2 ≤ n) (h : val (u.drop (j + 1)) < val v) :
    u.getD (j + n) 0 ≤ v.getD (n - 1) 0 ∧ val (u.drop j) < 1000000000 * val v ∧
    ((u.getD (j + n) 0 * 1000000000 + u.getD (j + n - 1) 0) * 1000000000 + u.getD (j + n - 2) 0) * pw (n - 2) ≤ val (u.drop j) ∧
    val (u.drop j) < ((u.getD (j + n) 0 * 1000000000 + u.getD (j + n - 1) 0) * 1000000000 + u.getD (j + n - 2) 0 + 1) * pw (n - 2) ∧
    (v.getD (n - 1) 0 * 1000000000 + v.getD (n - 2) 0) * pw (n - 2) ≤ val v ∧ val v < (v.getD (n - 1) 0 * 1000000000 + v.getD (n - 2) 0 + 1) * pw (n - 2) := by
  obtain ⟨m, rfl⟩ : ∃ m, n = m + 2 := ⟨n - 2, by omega⟩
  obtain ⟨w1, w2⟩ := window hv hn h
  have p1 : pw (m + 1) = 1000000000 * pw m := vU m
  have p2 : pw (m + 2) = 1000000000 * (1000000000 * pw m) := by rw [vU, vU]
  have a1 := val_take_succ v (m + 1)
  have a2 := val_take_succ v m
  rw [show m + 1 + 1 = v.length by omega, List.take_length] at a1
  have a3 := xH (hv.take m)
  rw [List.length_take, Nat.min_eq_left (by omega)] at a3
  have b1 := gO u j m
  have b2 := xZ u (j + m)
  have b3 := xZ u (j + m + 1)
  have b4 := xZ u (j + m + 2)
  rw [show j + m + 2 + 1 = j + (m + 2) + 1 by omega, w1] at b4
  have b5 : val ((u.drop j).take m) < pw m := by
    have := xH ((hu.drop j).take m)
    exact Nat.lt_of_lt_of_le this (gW (by rw [List.length_take]; exact Nat.min_le_left _ _))
  have c1 := gO u (j + 1) (m + 1)
  rw [show j + 1 + (m + 1) = j + m + 2 by omega, b4] at c1
  have g1 := hu.getD j
  have g2 := hv.getD m
  have e1 : j + (m + 2) - 1 = j + m + 1 := by omega
  have e2 : j + (m + 2) - 2 = j + m := by omega
  have e3 : j + (m + 2) = j + m + 2 := by omega
  have e4 : m + 2 - 1 = m + 1 := by omega
  have e5 : m + 2 - 2 = m := by omega
  have e6 := xZ u j
  rw [e1, e2, e3, e4, e5]
  rw [e3] at w1 w2
  generalize u.getD (j + m + 2) 0 = t2 at *
  generalize u.getD (j + m + 1) 0 = t1 at *
  generalize u.getD (j + m) 0 = t0 at *
  generalize v.getD (m + 1) 0 = v1 at *
  generalize v.getD m 0 = v0 at *
  generalize val ((u.drop j).take m) = low at *
  generalize val (v.take m) = vl at *
  generalize pw m = P at *
  rw [p1] at a1 c1
  have hW : val (u.drop j) = low + P * (t0 + 1000000000 * (t1 + 1000000000 * t2)) := by rw [b1, b2, b3, b4]; simp
  have hV : val v = vl + P * (v0 + 1000000000 * v1) := by
    rw [a1, a2, Nat.mul_add, Nat.add_assoc]
    congr 2
    rw [Nat.mul_comm 1000000000 P, Nat.mul_assoc]
  refine ⟨?_, by omega, ?_, ?_, ?_, ?_⟩
  · rcases Nat.lt_or_ge v1 t2 with hlt | hge
    · exfalso
      have h5 : 1000000000 * P * (v1 + 1) ≤ 1000000000 * P * t2 := Nat.mul_le_mul_left _ hlt
      have h6 : P * v0 + P ≤ 1000000000 * P := by
        have h7 : v0 + 1 ≤ 1000000000 := by
          omega
        have := Nat.mul_le_mul_left P h7
        rw [Nat.mul_add, Nat.mul_one] at this
        omega
      rw [Nat.mul_add, Nat.mul_one] at h5
      rw [hV] at h
      rw [Nat.mul_add, show P * (1000000000 * v1) = 1000000000 * P * v1 by rw [Nat.mul_comm 1000000000 P, Nat.mul_assoc]] at h
      simp at c1
      omega
    · exact hge
  · have : (t2 * 1000000000 + t1) * 1000000000 + t0 = t0 + 1000000000 * (t1 + 1000000000 * t2) := by omega
    rw [hW, this, Nat.mul_comm _ P]; omega
  · have : (t2 * 1000000000 + t1) * 1000000000 + t0 + 1 = t0 + 1000000000 * (t1 + 1000000000 * t2) + 1 := by omega
    rw [hW, this, Nat.mul_comm _ P, Nat.mul_add _ _ 1, Nat.mul_one]; omega
  · have : v1 * 1000000000 + v0 = v0 + 1000000000 * v1 := by omega
    rw [hV, this, Nat.mul_comm _ P]; omega
  · have : v1 * 1000000000 + v0 + 1 = v0 + 1000000000 * v1 + 1 := by omega
    rw [hV, this, Nat.mul_comm _ P, Nat.mul_add _ _ 1, Nat.mul_one]; omega
theorem getD_of_drop {u u2 : List Nat} {m : Nat} (h : u2.drop m = u.drop m) : u2.getD m 0 = u.getD m 0 := by
  have h3 : (u2.drop m).getD 0 0 = (u.drop m).getD 0 0 := by rw [h]
  simpa only [List.getD, List.getElem?_drop, Nat.add_zero] using h3
theorem take_window_lt {u : List Nat} (h : Dig u) (j n : Nat) : val ((u.drop j).take n) < pw n :=
  Nat.lt_of_lt_of_le (xH ((h.drop j).take n)) (gW (by rw [List.length_take]; exact Nat.min_le_left _ _))
theorem msub_end {u u2 v : List Nat} {j n G C : Nat} (hu : Dig u) (hu2 : Dig u2) (hv : Dig v) (hn : v.length = n) (hW : val (u.drop (j + 1)) < val v) (hG1 : val (u.drop j) / val v ≤ G) (hG2 : G ≤ val (u.drop j) / val v + 1)
    (h2 : u2.drop (j + n) = u.drop (j + n)) (hval : val ((u2.drop j).take n) + G * val (v.take n) = val ((u.drop j).take n) + pw n * C) :
    u2.getD (j + n) 0 = u.getD (j + n) 0 ∧
    (u.getD (j + n) 0 < C → u.getD (j + n) 0 + 1 = C ∧ 0 < G ∧ ∃ r, r < val v ∧ val (u.drop j) = r + (G - 1) * val v ∧ val ((u2.drop j).take n) + val v = pw n + r) ∧
    (C ≤ u.getD (j + n) 0 → u.getD (j + n) 0 = C ∧ val ((u2.drop j).take n) < val v ∧ val (u.drop j) = val ((u2.drop j).take n) + G * val v) := by
  obtain ⟨w1, w2⟩ := window hv hn hW
  have hV := xH hv
  rw [hn] at hV
  have hX := take_window_lt hu2 j n
  rw [← hn, List.take_length, hn] at hval
  have hVp : 0 < val v := by omega
  have d1 := Nat.div_mul_le_self (val (u.drop j)) (val v)
  have d2 := Nat.lt_div_mul_add (a := val (u.drop j)) hVp
  refine ⟨getD_of_drop h2, ?_, ?_⟩
  all_goals generalize hQ : val (u.drop j) / val v = Q at *
  all_goals generalize u.getD (j + n) 0 = t at *
  all_goals generalize val ((u.drop j).take n) = Y at *
  all_goals generalize val ((u2.drop j).take n) = X at *
  all_goals generalize val (u.drop j) = W at *
  all_goals generalize val v = V at *
  all_goals generalize pw n = P at *
  · intro hlt
    have m1 : P * (t + 1) ≤ P * C := Nat.mul_le_mul_left _ hlt
    rw [Nat.mul_add, Nat.mul_one] at m1
    rcases Nat.lt_or_ge Q G with hq | hq
    · have e : G = Q + 1 := by omega
      subst e
      rw [Nat.add_mul, Nat.one_mul] at hval
      have m2 : C = t + 1 := by
        rcases Nat.lt_or_ge (t + 1) C with h5 | h5
        · exfalso
          have m3 : P * (t + 2) ≤ P * C := Nat.mul_le_mul_left _ h5
          rw [Nat.mul_add] at m3
          omega
        · omega
      subst m2
      rw [Nat.mul_add, Nat.mul_one] at hval
      refine ⟨rfl, by omega, W - Q * V, by omega, ?_, by omega⟩
      rw [Nat.add_sub_cancel]; omega
    · exfalso
      have e : G = Q := by omega
      subst e
      omega
  · intro hge
    rcases Nat.lt_or_ge Q G with hq | hq
    · exfalso
      have e : G = Q + 1 := by omega
      subst e
      rw [Nat.add_mul, Nat.one_mul] at hval
      have m1 : P * C ≤ P * t := Nat.mul_le_mul_left _ hge
      omega
    · have e : G = Q := by omega
      subst e
      have m2 : C = t := by
        rcases Nat.lt_or_ge C t with h5 | h5
        · exfalso
          have m3 : P * (C + 1) ≤ P * t := Nat.mul_le_mul_left _ h5
          rw [Nat.mul_add, Nat.mul_one] at m3
          omega
        · omega
      subst m2
      exact ⟨rfl, by omega, by omega⟩
theorem val_window_set {u v : List Nat} {u2 : List Nat} {j n d : Nat} (hj : j + n < u2.length) (h2 : u2.drop (j + n + 1) = u.drop (j + n + 1)) (hz : val (u.drop (j + n + 1)) = 0) : (u2.set (j + n) d).take j = u2.take j ∧ val ((u2.set (j + n) d).drop j) = val ((u2.drop j).take n) + pw n * d := by
  refine ⟨List.take_set_of_le (by omega), ?_⟩
  rw [gO _ j n, mN _ _ _ hj, h2, hz, Nat.mul_zero, Nat.add_zero]
  congr 2
  have e1 : (u2.set (j + n) d).drop j = (u2.drop j).set n d := by
    rw [List.drop_set, if_neg (by omega)]; congr 1; omega
  rw [e1, List.take_set_of_le (Nat.le_refl _)]
theorem aQ {u u2 : List Nat} {m : Nat} (h : u2.drop m = u.drop m) : u2.drop (m + 1) = u.drop (m + 1) := by
  have h3 : (u2.drop m).drop 1 = (u.drop m).drop 1 := by rw [h]
  rwa [List.drop_drop, List.drop_drop] at h3
theorem round_end {u un q : List Nat} {V U j g r : Nat} (hj : j < q.length) (hju : j ≤ u.length) (hln : un.length = u.length) (ht : un.take j = u.take j) (hr : val (un.drop j) = r) (hW : val (u.drop j) = r + g * V) (hU : val u + V * (pw (j + 1) * val (q.drop (j + 1))) = U) :
    val un + V * (pw j * val ((q.set j g).drop j)) = U := by
  rw [cF un j (by omega), ht, hr, mN q j g hj]
  rw [cF u j hju, hW, vU] at hU
  rw [← hU]
  generalize val (u.take j) = T
  generalize val (q.drop (j + 1)) = Q
  generalize pw j = P
  have e1 : P * (g + 1000000000 * Q) = P * g + P * (1000000000 * Q) := Nat.mul_add _ _ _
  have e2 : V * (P * g) = P * (g * V) := by rw [← Nat.mul_assoc, Nat.mul_comm V P, Nat.mul_assoc, Nat.mul_comm V g]
  have e3 : V * (P * (1000000000 * Q)) = V * (1000000000 * P * Q) := by rw [← Nat.mul_assoc P, Nat.mul_comm P 1000000000]
  rw [e1, Nat.mul_add V, e2, e3, Nat.mul_add P r]
  omega
theorem pos_end {u u2 v q : List Nat} {j n G U : Nat} (hu : Dig u) (hv : Dig v) (hn : v.length = n) (hj : j + n < u.length) (hjq : j < q.length) (hl : u2.length = u.length) (h1 : u2.take j = u.take j) (h2 : u2.drop (j + n) = u.drop (j + n)) (hW : val (u.drop (j + 1)) < val v)
    (hx : val ((u2.drop j).take n) < val v) (he : val (u.drop j) = val ((u2.drop j).take n) + G * val v) (hU : val u + val v * (pw (j + 1) * val (q.drop (j + 1))) = U) :
    val (u2.set (j + n) 0) + val v * (pw j * val ((q.set j G).drop j)) = U ∧ val ((u2.set (j + n) 0).drop j) < val v := by
  obtain ⟨w1, _⟩ := window hv hn hW
  obtain ⟨a1, a2⟩ := val_window_set (v := v) (d := 0) (by omega) (aQ h2) w1
  rw [Nat.mul_zero, Nat.add_zero] at a2
  exact ⟨round_end hjq (by omega) (by simpa using hl) (a1.trans h1) a2 he hU, by rw [a2]; exact hx⟩
theorem neg_end {u u2 u3 v q : List Nat} {j n G c r U : Nat} (hu3 : Dig u3) (hv : Dig v) (hn : v.length = n) (hj : j + n < u.length) (hjq : j < q.length) (hl : u2.length = u.length) (hl3 : u3.length = u.length) (h1 : u2.take j = u.take j) (h2 : u2.drop (j + n) = u.drop (j + n)) (hW : val (u.drop (j + 1)) < val v) (hc : c ≤ 1)
    (h31 : u3.take j = (u2.set (j + n) 999999999).take j) (h32 : u3.drop (j + n) = (u2.set (j + n) 999999999).drop (j + n)) (h3 : val ((u3.drop j).take n) + pw n * c = val (((u2.set (j + n) 999999999).drop j).take n) + val (v.take n))
    (hr : r < val v) (he : val (u.drop j) = r + (G - 1) * val v) (hx : val ((u2.drop j).take n) + val v = pw n + r) (hU : val u + val v * (pw (j + 1) * val (q.drop (j + 1))) = U) :
    val (u3.set (j + n) ((u3.getD (j + n) 0 + c) % 1000000000)) + val v * (pw j * val ((q.set j (G - 1)).drop j)) = U ∧ val ((u3.set (j + n) ((u3.getD (j + n) 0 + c) % 1000000000)).drop j) < val v := by
  obtain ⟨w1, _⟩ := window hv hn hW
  have hV := xH hv
  rw [hn] at hV
  have e1 : (u2.set (j + n) 999999999).drop j = (u2.drop j).set n 999999999 := by
    rw [List.drop_set, if_neg (by omega)]; congr 1; omega
  have e2 : ((u2.set (j + n) 999999999).drop j).take n = (u2.drop j).take n := by rw [e1, List.take_set_of_le (Nat.le_refl _)]
  rw [e2, ← hn, List.take_length, hn] at h3
  have h4 := take_window_lt hu3 j n
  have e3 : u3.getD (j + n) 0 = 999999999 := by
    rw [getD_of_drop h32, getD_set _ _ _ _ (by omega), if_pos rfl]
  have e4 : u3.drop (j + n + 1) = u.drop (j + n + 1) := by
    rw [aQ h32, List.drop_set_of_lt (by omega), aQ h2]
  have hc1 : c = 1 := by
    rcases Nat.lt_or_ge c 1 with h5 | h5
    · have : c = 0 := by omega
      subst this
      rw [Nat.mul_zero] at h3
      omega
    · omega
  subst hc1
  rw [Nat.mul_one] at h3
  have e5 : (u3.getD (j + n) 0 + 1) % 1000000000 = 0 := by rw [e3]
  rw [e5]
  obtain ⟨a1, a2⟩ := val_window_set (u := u) (v := v) (u2 := u3) (j := j) (n := n) (d := 0) (by omega) e4 w1
  rw [Nat.mul_zero, Nat.add_zero] at a2
  have e6 : val ((u3.drop j).take n) = r := by omega
  rw [e6] at a2
  have e7 : u3.take j = u.take j := by rw [h31, List.take_set_of_le (by omega)]; exact h1
  exact ⟨round_end hjq (by omega) (by simpa using hl3) (a1.trans e7) a2 he hU, by rw [a2]; exact hr⟩
theorem long_start {u0 v : List Nat} {n : Nat} (hu : Dig u0) (hn : v.length = n) (h2 : 2 ≤ n) (hl : n ≤ u0.length) (hv : pw (n - 1) ≤ val v) : val ((u0 ++ [0]).drop (u0.length + 1 - n)) < val v := by
  rw [List.drop_append_of_le_length (by omega), cB]
  have h3 := xH (hu.drop (u0.length + 1 - n))
  rw [List.length_drop] at h3
  have h4 : pw (u0.length - (u0.length + 1 - n)) = pw (n - 1) := by congr 1; omega
  rw [h4] at h3
  simp only [val, Nat.mul_zero, Nat.add_zero]
  omega
theorem scl_div {a b q u : List Nat} (hb : gB b) (h0 : 0 < b.length) (hU : val u + val b * mU b * (pw 0 * val (q.drop 0)) = val a * mU b) (hr : val (u.drop 0) < val b * mU b) : val q = val a / val b ∧ val u / mU b = val a % val b := by
  rw [nR, Nat.one_mul, List.drop_zero] at hU
  rw [List.drop_zero] at hr
  have hs := (fQ hb h0).1
  generalize mU b = s at *
  have h1 : s * (val b * val q) ≤ s * val a := by
    have e : val b * s * val q = s * (val b * val q) := by rw [Nat.mul_comm (val b) s, Nat.mul_assoc]
    rw [e, Nat.mul_comm (val a) s] at hU; omega
  have h2 : val b * val q ≤ val a := Nat.le_of_mul_le_mul_left h1 hs
  have h3 : val u = s * (val a - val b * val q) := by
    rw [Nat.mul_sub]
    have e : val b * s * val q = s * (val b * val q) := by rw [Nat.mul_comm (val b) s, Nat.mul_assoc]
    rw [e, Nat.mul_comm (val a) s] at hU; omega
  have h4 : val a - val b * val q < val b := by
    rw [h3, Nat.mul_comm (val b) s] at hr
    exact Nat.lt_of_mul_lt_mul_left hr
  have hb0 : 0 < val b := by omega
  have h5 : val a = val b * val q + (val a - val b * val q) := by omega
  constructor
  · rw [h5, Nat.mul_add_div hb0, Nat.div_eq_of_lt h4, Nat.add_zero]
  · rw [h3, Nat.mul_div_cancel_left _ hs]
    conv => rhs; rw [h5]
    rw [Nat.mul_add_mod, Nat.mod_eq_of_lt h4]
theorem guess_first0 {W V v1 v2 u2 p top : Nat} (hV : (v1 * 1000000000 + v2) * p ≤ V) (hW : W < (top * 1000000000 + u2 + 1) * p) (hv : 0 < v1) (hu : u2 < 1000000000) : W / V ≤ top / v1 := by
  refine guess_first (p := 1000000000 * p) (top := top) ?_ ?_ hv rfl
  · refine Nat.le_trans ?_ hV
    rw [← Nat.mul_assoc]
    exact Nat.mul_le_mul_right p (by omega)
  · refine Nat.lt_of_lt_of_le hW ?_
    rw [← Nat.mul_assoc]
    exact Nat.mul_le_mul_right p (by omega)
theorem guess_top {v1 t2 t1 : Nat} (hv : 0 < v1) (h : t2 ≤ v1) (h1 : t1 < 1000000000) : (t2 * 1000000000 + t1) / v1 ≤ 1999999999 := by
  refine Nat.div_le_of_le_mul ?_
  omega
theorem guess_dec {G v1 R top : Nat} (h0 : 0 < G) (h : G * v1 + R = top) : (G - 1) * v1 + (R + v1) = top := by
  obtain ⟨g, rfl⟩ : ∃ g, G = g + 1 := ⟨G - 1, by omega⟩
  rw [Nat.add_mul, Nat.one_mul] at h
  rw [Nat.add_sub_cancel]; omega
theorem guess_break {g v1 R t2 t1 : Nat} (h : g * v1 + R = t2 * 1000000000 + t1) (h2 : t2 ≤ v1) (h1 : t1 < 1000000000) (hR : 1000000000 ≤ R) : g < 1000000000 := by
  rcases Nat.lt_or_ge g 1000000000 with h3 | h3
  · exact h3
  · exfalso
    have := Nat.mul_le_mul_right v1 h3
    omega
theorem val_take_of_lt {u : List Nat} {n : Nat} (h : val u < pw n) : val (u.take n) = val u := by
  by_cases hn : n ≤ u.length
  · have h1 := cF u n hn
    rcases Nat.eq_zero_or_pos (val (u.drop n)) with h2 | h2
    · rw [h2, Nat.mul_zero, Nat.add_zero] at h1; exact h1.symm
    · have := Nat.mul_le_mul_left (pw n) h2
      omega
  · rw [List.take_of_length_le (by omega)]
theorem ofNat_val_len {l : List Nat} (hd : Dig l) : (ofNat (val l)).length ≤ l.length := vC (xH hd)
end Go.Fid
