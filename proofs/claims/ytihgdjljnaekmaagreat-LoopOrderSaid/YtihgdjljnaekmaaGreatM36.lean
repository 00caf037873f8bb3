/- Part 36 of a proof: rules, plain facts, and functions walked. -/
import Derived.Test.YtihgdjljnaekmaaGreatM34
import Derived.Test.YtihgdjljnaekmaaGreatM8
import Derived.Test.YtihgdjljnaekmaaGreatChecked
import Derived.RangeFuncBox
import Derived.Shelf.Abstract
import Derived.OwnWalkIn
import Derived.TacticsInMore
import Derived.LoopNIn
import Derived.LoopIn
import Derived.Test.YtihgdjljnaekmaaGreatM35
set_option linter.unusedVariables false
set_option linter.unusedSimpArgs false
namespace Go.Fid
open Go.RowKit (Below)
def aggOf (s : Nat) (u : Nat → Value) : Value := .agg ((List.range s).map u).toArray
structure BacksS (P : Program) (fB fI : FuncId) (T : TypeId) (s : Nat) : Prop where
  call : ∀ (a : Option Addr) (len cap : Nat) (w : World), Calls P fB #[.slice a len cap] w fun e w' => e = .returned (.func (.func fI) #[] #[.pointer (some ⟨w.heap.size, 0, none⟩)]) ∧ w' = w.alloc (.cells #[.slice a len cap] T)
  empty : ∀ (N l b cap : Nat) (ao : Option Addr) (J : World → Prop) (W : World), W.cell? ⟨b, 0, none⟩ = some (.slice ao 0 cap) → J W →
    CallsIn Fence.wide (N + 1) P fI #[.func (.yield l) #[] #[], .pointer (some ⟨b, 0, none⟩)] W fun e W' => (∃ v, e = .returned v) ∧ J W'
  rounds : ∀ (N l c b off len cap : Nat) (u : Nat → Nat → Value), (len : Int) ≤ 9223372036854775807 → ∀ (J : Nat → World → Prop) (Jx : World → Prop),
    (∀ j W, J j W → W.cell? ⟨c, 0, none⟩ = some (.slice (some ⟨b, off, none⟩) len cap) ∧ ∀ i, i < len → ∀ r, r < s → W.cell? ⟨b, off + (i * s + r), none⟩ = some (u i r)) →
    (∀ j W, J j W → j < len → YieldAt Fence.wide N P l #[.int .i64 ((len : Int) - 1 - (j : Int)), aggOf s (u (len - 1 - j))] W fun e W' => (e = .returned (.bool true) ∧ J (j + 1) W') ∨ (e = .returned (.bool false) ∧ Jx W')) →
    ∀ W, J 0 W → CallsIn Fence.wide (N + 1) P fI #[.func (.yield l) #[] #[], .pointer (some ⟨c, 0, none⟩)] W fun e W' => (∃ v, e = .returned v) ∧ (J len W' ∨ Jx W')
  enters : ∀ args w, (callFunc fI args).run P w = .ok (.enter fI args) w
section
variable {C : Ctx} {a a' : Act} {w w' : World} {st : PS} {D : DSet} {β : BMap}
variable {P : Program} {n : Fr} {fB fI : FuncId} {T : TypeId} {S : SL} {B : BS} {Q : Exit → PS → Prop} {α : Type}
theorem pwp_backS {s : Nat} (hbk : BacksS P fB fI T s) (hcb : callB P fB = true) (hrd : n.rd = none) {id rid : Nat} {o1 o2 : Oper} {t0 ta tf p1 p2 : Tmp} {ats : Array TypeId} {assign body : Code} {E : TypeId} {es : List Dat} (lo : Nat) (St : α → PS) (I : Nat → α → Prop) (x0 : α)
    (h1 : o1.op = .move (.tmp t0)) (h1d : o1.dst = some ta) (h1g : o1.guard = none) (h2 : o2.op = .call { callee := .value (.func fB), args := #[.tmp ta], argTypes := ats }) (h2d : o2.dst = some tf) (h2g : o2.guard = none)
    (hda : dstB n (some ta) = true) (hdf : dstB n (some tf) = true) (hd1 : dstB ⟨lo, n.hi, none⟩ (some p1) = true) (hd2 : dstB ⟨lo, n.hi, none⟩ (some p2) = true) (hlo : Nat.ble n.lo lo = true)
    (hx : sget S t0 = .d (.sl E s es)) (hst : ∀ x, ∀ p ∈ (St x).sl, p.1 < lo) (h0 : SimImp ⟨(tf, .junk) :: (ta, .junk) :: S, B⟩ (St x0)) (hI : I 0 x0) (hlen : (es.length : Int) ≤ 9223372036854775807)
    (hround : ∀ (l j : Nat) (x : α) (d : Dat), j < es.length → I j x → es[es.length - 1 - j]? = some d →
      PWp P ⟨lo, n.hi, some l⟩ assign (PThen (PWp P ⟨lo, n.hi, some l⟩ body (BackQ lo St I Q j)) (fun _ _ => False)) ⟨(p2, .d d) :: (p1, .d (.val (.int .i64 ((es.length : Int) - 1 - (j : Int))))) :: (St x).sl, (St x).bs⟩)
    (hcell : ∀ e ∈ es, e = .agg e.cells ∧ e.cells.length = s) (hend : ∀ x, I es.length x → Q .normal (St x)) :
    PWp P n (.seq (.region rid #[o1, o2] false) (.block id (.rangeFunc (.tmp tf) #[p1, p2] assign body))) Q ⟨S, B⟩ := fun C a w N hn hs => by
  subst hn
  obtain ⟨D, β, hs⟩ := hs
  have hfen : fen C.n = Fence.wide := by unfold fen; rw [hrd]; rfl
  have hv := hs.slots t0
  have hv' : RepS w D β (a.tmps.getD t0 undef) (sget S t0) := hv
  rw [hx] at hv'
  have hev : a.eval (.tmp t0) = a.tmps.getD t0 undef := rfl
  generalize a.tmps.getD t0 undef = v at hv' hev
  have hv'' : Rep w D v (.sl E s es) := hv'
  have hflen : (flat es).length = es.length * s := flat_length (s := s) (fun e he => (hcell e he).2)
  have hroom : ∀ i r, i < es.length → r < s → i * s + r < (flat es).length := fun i r hi hr => by
    have := bxs_room (s := s) hi; omega
  cases hv'' with
  | sl g off u hnn hcc hmm hss ha hD hu hone hrr =>
  rename_i ad len cap
  subst hnn
  obtain ⟨w1, hw1⟩ : ∃ w1, w1 = w.alloc (.cells #[Value.slice ad es.length cap] T) := ⟨_, rfl⟩
  obtain ⟨a1, ha1⟩ : ∃ a1 : Act, a1 = (a.put (some ta) (.slice ad es.length cap)).put (some tf) (.func (.func fI) #[] #[.pointer (some ⟨w.heap.size, 0, none⟩)]) := ⟨_, rfl⟩
  have hbel : Below w.heap.size w w1 := by rw [hw1]; exact (Below.refl _ w).alloc (Nat.le_refl _) _
  have hsz1 : a1.tmps.size = C.n.hi := by rw [ha1, put_size, put_size]; exact hs.base.size
  have hdf1 : a1.defers = a.defers := by rw [ha1, put_defers, put_defers]
  have hsza : (a.put (some ta) (Value.slice ad es.length cap)).tmps.size = C.n.hi := put_size.trans hs.base.size
  have hget1 : ∀ t, a1.tmps.getD t undef = if some tf = some t then .func (.func fI) #[] #[.pointer (some ⟨w.heap.size, 0, none⟩)] else if some ta = some t then .slice ad es.length cap else a.tmps.getD t undef := fun t => by
    rw [ha1, put_getD hsza hdf, put_getD hs.base.size hda]
  have hpin1 : ∀ t, t < C.n.lo → a1.tmps.getD t undef = a.tmps.getD t undef := fun t ht => by
    simp only [dstB, Bool.and_eq_true] at hda hdf
    have e1 := Nat.le_of_ble_eq_true hda.1
    have e2 := Nat.le_of_ble_eq_true hdf.1
    rw [hget1, if_neg (fun e => by injection e with e; subst e; omega), if_neg (fun e => by injection e with e; subst e; omega)]
  have hw1c : w1.cell? ⟨w.heap.size, 0, none⟩ = some (.slice ad es.length cap) := by
    rw [hw1]
    have := heap_alloc_new w (.cells #[Value.slice ad es.length cap] T)
    rw [cell_of_row _ _ 0 _ _ _ this]; rfl
  have hw1s : w1.heap.size = w.heap.size + 1 := by rw [hw1]; simp
  -- the context of the rounds
  obtain ⟨C1, hC1⟩ : ∃ C1 : Nat → Ctx, C1 = fun l => ⟨C.w0, fun t g o => D t g o ∨ (t = T ∧ g = w.heap.size ∧ o = 0), w1, a1.tmps, ⟨lo, C.n.hi, some l⟩, C.mine⟩ := ⟨_, rfl⟩
  have hsim1 : ∀ l, Sim (C1 l) { tmps := a1.tmps, defers := [] } w1 (St x0) := fun l => by
    refine h0 _ _ _ ?_
    rw [hC1]
    have hu' : DUp D (fun t g o => D t g o ∨ (t = T ∧ g = w.heap.size ∧ o = 0)) w w1 := ⟨fun _ _ _ h => .inl h, fun t g o h => by
      rcases h with h | ⟨_, h, _⟩
      · exact .inl h
      · exact .inr (by omega)⟩
    have hB := hs.base.up hbel hu'
    refine ⟨_, β, ⟨.nil, hsz1, fun _ _ _ _ => rfl, fun _ _ h _ => h, fun _ _ => rfl, hB.below, fun _ _ _ h => h, fun _ _ _ h => .inl h, hB.dok⟩, hs.mem.up hbel hu' hs.base.dok, hs.high, fun t => ?_⟩
    show RepS w1 _ β (a1.tmps.getD t undef) (sget ((tf, .junk) :: (ta, .junk) :: S) t)
    rw [sget_cons, sget_cons, hget1]
    by_cases e1 : tf = t
    · rw [if_pos e1]; trivial
    · rw [if_neg e1, if_neg (fun e => e1 (by injection e))]
      by_cases e2 : ta = t
      · rw [if_pos e2]; trivial
      · rw [if_neg e2, if_neg (fun e => e2 (by injection e))]
        exact (hs.slots t).up hbel hu' hs.base.dok
  have hp1 : plainB o1 = true := by simp [plainB, h1]
  have hp2 : plainB o2 = true := by simp [plainB, h2]
  refine wpIn_seq (wpIn_region_lit (wpListIn_plain h1g fun K1 hK1 => op_lift hp1 (wp_value (v := .slice ad es.length cap) (w' := w) ?_ (hK1 _ _ (wpListIn_plain h2g fun K2 hK2 => op_lift hp2 (wp_enter (f := fB) (args := #[.slice ad es.length cap]) (w' := w) ?_ ?_))))))
  · simp only [execOp, h1, hev, Sem.run_pure]
  · have hta : (a.put o1.dst (Value.slice ad es.length cap)).eval (.tmp ta) = .slice ad es.length cap := by
      show (a.put o1.dst (Value.slice ad es.length cap)).tmps.getD ta undef = _
      rw [h1d, put_getD hs.base.size hda, if_pos rfl]
    have hfe : (a.put o1.dst (Value.slice ad es.length cap)).eval (.func fB) = .func (.func fB) #[] #[] := rfl
    simp only [execOp, h2, resolve, Deferred.ofValue, hfe, Sem.run_bind, Sem.run_pure, Result.andThen_ok, invoke, Array.empty_append, Array.append_empty, List.map_toArray, List.map_cons, List.map_nil, hta]
    rw [run_callFunc hcb]
  · refine (hbk.call ad es.length cap w).mono ?_
    rintro e w' ⟨rfl, rfl⟩
    refine ⟨_, rfl, hK2 _ _ (wpListIn_nil ?_)⟩
    show (Code.block id (.rangeFunc (.tmp tf) #[p1, p2] assign body)).wpIn _ _ _ _ _ _
    rw [h1d, h2d, ← hw1, ← ha1, hfen]
    refine wpIn_block (wpIn_rangeFunc ?_)
    intro fn _
    have hrn : Fence.wide.round = none := rfl
    rw [hrn]
    obtain ⟨rec, hrec⟩ : ∃ rec : LoopState → Option Code → Loop, rec = fun st pe => { state := st, pending := pe, fn, tmps := a1.tmps, params := #[p1, p2], assign, body, defers := w1.heap.size } := ⟨_, rfl⟩
    obtain ⟨W1, hW1⟩ : ∃ W1, (w1.alloc (.deferred (some []))).alloc (.loop (rec .ready none)) = W1 := ⟨_, rfl⟩
    have hL1 : W1.heap[w1.heap.size + 1]? = some (.loop (rec .ready none)) := by
      rw [← hW1]; have := World.alloc_heap_new (w1.alloc (.deferred (some []))) (.loop (rec .ready none)); rwa [World.size_alloc] at this
    have hK1' : W1.heap[w1.heap.size]? = some (.deferred (some [])) := by
      rw [← hW1]; exact (Below.heap_alloc _ _ _ (by simp)).trans (World.alloc_heap_new w1 _)
    have hbel1 : Below w1.heap.size w1 W1 := by rw [← hW1]; exact ((Below.refl _ w1).alloc (Nat.le_refl _) _).alloc (by simp) _
    have hfe : a1.eval (.tmp tf) = .func (.func fI) #[] #[.pointer (some ⟨w.heap.size, 0, none⟩)] := by
      show a1.tmps.getD tf undef = _
      rw [hget1, if_pos rfl]
    obtain ⟨l, hl⟩ : ∃ l, l = w1.heap.size + 1 := ⟨_, rfl⟩
    have hCw0 : ∀ l, (C1 l).w0 = C.w0 := fun l => by rw [hC1]
    have hCw1 : ∀ l, (C1 l).w1 = w1 := fun l => by rw [hC1]
    have hCn : ∀ l, (C1 l).n = ⟨lo, C.n.hi, some l⟩ := fun l => by rw [hC1]
    have hCtm : ∀ l, (C1 l).tm = a1.tmps := fun l => by rw [hC1]
    have hb0 := hs.base.below.size
    -- between two rounds
    obtain ⟨J, hJ⟩ : ∃ J : Nat → World → Prop, J = fun j W => (∃ x, I j x ∧ Sim (C1 l) { tmps := a1.tmps, defers := [] } W (St x)) ∧ W.heap[l]? = some (.loop (rec .ready none)) ∧ W.heap[w1.heap.size]? = some (.deferred (some [])) := ⟨_, rfl⟩
    obtain ⟨Jx, hJx⟩ : ∃ Jx : World → Prop, Jx = fun W => (∃ st', (∀ p ∈ st'.sl, p.1 < lo) ∧ Q .ret st' ∧ Sim (C1 l) { tmps := a1.tmps, defers := [] } W st') ∧ W.heap[l]? = some (.loop (rec .done (some .ret))) ∧ W.heap[w1.heap.size]? = some (.deferred (some [])) := ⟨_, rfl⟩
    have hJ0 : J 0 W1 := by
      rw [hJ]
      refine ⟨⟨x0, hI, ?_⟩, hl ▸ hL1, hK1'⟩
      obtain ⟨D2, β2, h2s⟩ := hsim1 l
      have hu2 : DUp D2 D2 w1 W1 := DUp.of_same D2
      exact ⟨D2, β2, h2s.base.up hbel1 hu2, h2s.mem.up hbel1 hu2 h2s.base.dok, h2s.high, fun t => (h2s.slots t).up hbel1 hu2 h2s.base.dok⟩
    have turn : ∀ {aa : Act} {W : World} {st : PS} {r r' : Loop}, Sim (C1 l) aa W st → W.heap[l]? = some (.loop r) → Sim (C1 l) aa (W.putObj l (.loop r')) st := fun {aa W st r r'} hS hL =>
      sim_turned hS hL rfl rfl (by rw [hCw0]; omega) (by rw [hCw1]; omega) (fun ds e => by cases e)
    have hdef : ∀ {W : World} {ob : Obj}, W.heap[w1.heap.size]? = some (.deferred (some [])) → (W.putObj l ob).heap[w1.heap.size]? = some (.deferred (some [])) := fun {W ob} h => (World.putObj_heap_other (by omega)).trans h
    -- what stands behind the loop
    have hout : ∀ {W : World} {st : PS}, Sim (C1 l) { tmps := a1.tmps, defers := [] } W st → W.heap[w1.heap.size]? = some (Obj.deferred (some [])) → Sim C { a1 with defers := [{ target := .collected w1.heap.size, args := #[] }] ++ a1.defers } W st := fun {W st} hS hq => by
      rw [hC1] at hS
      exact out_of hs hbel (by omega) hsz1 hpin1 hdf1 hS hq
    refine ⟨w1.heap.size + 1, [{ target := .collected w1.heap.size, args := #[] }], W1, { target := .fn (.func fI) #[.pointer (some ⟨w.heap.size, 0, none⟩)], args := #[.func (.yield (w1.heap.size + 1)) #[] #[]] }, W1, fI,
      #[.func (.yield (w1.heap.size + 1)) #[] #[]] ++ #[.pointer (some ⟨w.heap.size, 0, none⟩)], W1, ?_, ?_, fun _ _ => trivial, ?_, fun e => by simp [Fence.wide] at e, ?_⟩
    · rw [← hW1, hrec]; exact run_enterLoop_outer _ _ _ _ _
    · simp only [resolve, hfe]
      simp [go_sem]
    · simp [invoke, go_sem, hbk.enters]
    · have key : CallsIn Fence.wide (0 + 1) P fI #[.func (.yield l) #[] #[], .pointer (some ⟨w.heap.size, 0, none⟩)] W1 fun e W' => (∃ v, e = .returned v) ∧ (J es.length W' ∨ Jx W') := by
        have hbox : ∀ {st : PS} {W : World}, Sim (C1 l) { tmps := a1.tmps, defers := [] } W st → W.cell? ⟨w.heap.size, 0, none⟩ = some (.slice ad es.length cap) := fun {st W} ⟨D2, β2, h2s⟩ => by
          have := h2s.base.keep T w.heap.size 0 (by rw [hC1]; exact .inr ⟨rfl, rfl, rfl⟩)
          rw [this, hCw1]; exact hw1c
        have hcells : ∀ {st : PS} {W : World}, Sim (C1 l) { tmps := a1.tmps, defers := [] } W st → ∀ i, i < es.length → ∀ r, r < s → W.cell? ⟨g, off + (i * s + r), none⟩ = some (u (i * s + r)) := fun {st W} ⟨D2, β2, h2s⟩ i hi r hr => by
          have := h2s.base.keep E g (off + (i * s + r)) (by rw [hC1]; exact .inl (hD _ (hroom i r hi hr)))
          rw [this, hCw1, cell_below hbel (hs.base.dok _ _ _ (hD _ (hroom i r hi hr)))]
          exact hu _ (hroom i r hi hr)
        by_cases hlen0 : es.length = 0
        · have hJ0' := hJ0
          rw [hJ] at hJ0'
          obtain ⟨⟨x, _, hSx⟩, _⟩ := hJ0'
          have hb := hbox hSx
          rw [hlen0] at hb ⊢
          exact (hbk.empty 0 l w.heap.size cap ad (J 0) W1 hb hJ0).mono fun e W' ⟨h1, h2⟩ => ⟨h1, .inl h2⟩
        · obtain rfl := ha (by omega)
          refine hbk.rounds 0 l w.heap.size g off es.length cap (fun i r => u (i * s + r)) hlen J Jx (fun j W hj => ?_) (fun j W hj hlt => ?_) W1 hJ0
          · rw [hJ] at hj
            obtain ⟨⟨x, _, hSx⟩, _⟩ := hj
            exact ⟨hbox hSx, hcells hSx⟩
          · rw [hJ] at hj
            obtain ⟨⟨x, hIx, hSx⟩, hLW, hKW⟩ := hj
            have hlt' : es.length - 1 - j < es.length := by omega
            obtain ⟨d, hd⟩ : ∃ d, es[es.length - 1 - j]? = some d := ⟨_, List.getElem?_eq_getElem hlt'⟩
            obtain ⟨ag, hag⟩ : ∃ ag, ag = aggOf s (fun r => u ((es.length - 1 - j) * s + r)) := ⟨_, rfl⟩
            rw [← hag]
            have hy := run_yield (P := P) (args := #[.int .i64 ((es.length : Int) - 1 - (j : Int)), ag]) hLW (by rw [hrec]; rfl)
            rw [hrec] at hy
            refine ⟨fn, _, assign, body, hy, roundIn_of_wpIn trivial ?_⟩
            -- the round's frame
            obtain ⟨ar, har⟩ : ∃ ar : Act, ar = (({ tmps := a1.tmps, defers := [] } : Act).put (some p1) (.int .i64 ((es.length : Int) - 1 - (j : Int)))).put (some p2) ag := ⟨_, rfl⟩
            have harr : ({ tmps := (#[p1, p2].zip #[Value.int .i64 ((es.length : Int) - 1 - (j : Int)), ag]).foldl (fun t (p, v) => t.setIfInBounds p v) a1.tmps, defers := [] } : Act) = ar := by
              rw [har]; simp [Act.put]
            have hSr : Sim (C1 l) ar W ⟨(p2, .d d) :: (p1, .d (.val (.int .i64 ((es.length : Int) - 1 - (j : Int))))) :: (St x).sl, (St x).bs⟩ := by
              obtain ⟨D2, β2, h2s⟩ := hSx
              have hd1' : dstB (C1 l).n (some p1) = true := by rw [hCn]; exact hd1
              have hd2' : dstB (C1 l).n (some p2) = true := by rw [hCn]; exact hd2
              refine ⟨D2, β2, by rw [har]; exact (h2s.base.put hd1' _).put hd2' _, h2s.mem, h2s.high, fun t => ?_⟩
              show RepS W D2 β2 (ar.tmps.getD t undef) (sget ((p2, SV.d d) :: (p1, SV.d (.val (.int .i64 ((es.length : Int) - 1 - (j : Int))))) :: (St x).sl) t)
              rw [har, put_getD (put_size.trans h2s.base.size) hd2', put_getD h2s.base.size hd1', sget_cons, sget_cons]
              by_cases e2 : p2 = t
              · rw [if_pos e2, if_pos (by rw [e2])]
                have hrep : Rep w D ag d := by
                  have hmem : d ∈ es := List.mem_of_getElem? hd
                  obtain ⟨hc1, hc2⟩ := hcell d hmem
                  rw [hag, hc1]
                  refine .agg _ (by simp [hc2]) (fun v hv => ?_) (fun r v dc hv hdc => ?_)
                  · obtain ⟨r, hr, rfl⟩ := List.mem_map.1 hv
                    exact hone _ (hroom _ _ hlt' (List.mem_range.1 hr))
                  · have hr : r < s := by rw [← hc2]; exact (List.getElem?_eq_some_iff.1 hdc).1
                    rw [List.getElem?_map, List.getElem?_range hr] at hv
                    injection hv with hv
                    subst hv
                    refine hrr _ dc ?_
                    rw [flat_get (s := s) (e := d) (fun e he => (hcell e he).2) hd hr]
                    exact hdc
                refine Rep.mono (fun t' g' o' hd' => ⟨h2s.base.dmono _ _ _ (by rw [hC1]; exact .inl hd'), ?_⟩) hrep
                rw [h2s.base.keep t' g' o' (by rw [hC1]; exact .inl hd'), hCw1, cell_below hbel (hs.base.dok _ _ _ hd')]
              · rw [if_neg e2, if_neg (fun e => e2 (by injection e))]
                by_cases e1 : p1 = t
                · rw [if_pos e1, if_pos (by rw [e1])]
                  exact Rep.val _
                · rw [if_neg e1, if_neg (fun e => e1 (by injection e))]
                  exact h2s.slots t
            refine wpIn_mono (Q := fun e a' w' => ∃ st', Sim { C1 l with w1 := W } a' w' st' ∧ PThen (PWp P ⟨lo, C.n.hi, some l⟩ body (BackQ lo St I Q j)) (fun _ _ => False) e st') ?_ fun e a2 W2 h => ?_
            · have := hround l j x d hlt hIx hd { C1 l with w1 := W } ar W (0 : Nat) (hCn l) (sim_from hSr)
              rw [← harr] at this
              exact this
            · obtain ⟨st2, hS2, hp⟩ := h
              cases e with
              | normal =>
                have hL2 : W2.heap[l]? = some (.loop (rec .ready none)) := by obtain ⟨D2, β2, h2s⟩ := hS2; exact h2s.base.oth l _ hLW rfl
                have hK2' : W2.heap[w1.heap.size]? = some (.deferred (some [])) := by obtain ⟨D2, β2, h2s⟩ := hS2; exact h2s.base.oth _ _ hKW rfl
                have hS2' := sim_back hS2 hSr
                refine ⟨_, run_beginRound hL2 (by rw [hrec]), ?_⟩
                have hS3 := turn (r' := { rec .ready none with state := .busy }) hS2' hL2
                have hL3 : (W2.putObj l (.loop { rec .ready none with state := .busy })).heap[l]? = some (.loop { rec .ready none with state := .busy }) := World.putObj_heap_same (heap_lt hL2)
                have hK3 := hdef (ob := .loop { rec .ready none with state := .busy }) hK2'
                refine wpIn_mono (hp { C1 l with w1 := W2.putObj l (.loop { rec .ready none with state := .busy }) } a2 _ 0 (hCn l) (sim_from hS3)) fun e a4 W4 h => ?_
                obtain ⟨st4, hS4, hq⟩ := h
                have hL4 : W4.heap[l]? = some (.loop { rec .ready none with state := .busy }) := by obtain ⟨D2, β2, h2s⟩ := hS4; exact h2s.base.oth l _ hL3 rfl
                have hK4 : W4.heap[w1.heap.size]? = some (.deferred (some [])) := by obtain ⟨D2, β2, h2s⟩ := hS4; exact h2s.base.oth _ _ hK3 rfl
                have hS4' := sim_back hS4 hS3
                have repin : ∀ {W : World} {st : PS}, Sim (C1 l) a4 W st → (∀ p ∈ st.sl, p.1 < lo) → Sim (C1 l) { tmps := a1.tmps, defers := [] } W st := fun {W st} h hk =>
                  sim_repin h _ (by rw [hCn]; exact hk) (by rw [hCn]; exact hsz1) (fun t _ => by rw [hCtm]) .nil
                cases e with
                | normal =>
                  obtain ⟨y, hy1, hy2⟩ := hq
                  have hre := run_endRound (P := P) none hL4
                  refine ⟨_, _, hre, .inl ⟨rfl, ?_⟩⟩
                  rw [hJ]
                  refine ⟨⟨y, hy2, repin (hy1 _ _ _ (turn hS4' hL4)) (hst y)⟩, ?_, hdef hK4⟩
                  rw [World.putObj_heap_same (heap_lt hL4), hrec]; rfl
                | ret =>
                  obtain ⟨st5, hy1, hy2, hy3⟩ := hq
                  have hre := run_endRound (P := P) (some .ret) hL4
                  refine ⟨_, _, hre, .inr ⟨rfl, ?_⟩⟩
                  rw [hJx]
                  refine ⟨⟨st5, hy2, hy3, repin (hy1 _ _ _ (turn hS4' hL4)) hy2⟩, ?_, hdef hK4⟩
                  rw [World.putObj_heap_same (heap_lt hL4), hrec]; rfl
                | exit id => exact hq.elim
                | goto t => exact hq.elim
                | panic ch => exact hq.elim
                | outgrown => exact hq.elim
              | exit id => exact hp.elim
              | goto t => exact hp.elim
              | ret => exact hp.elim
              | panic ch => exact hp.elim
              | outgrown => exact hp.elim
      rw [hl] at key
      refine callsIn_any (key.mono ?_)
      rintro e W2 ⟨⟨v, rfl⟩, h⟩
      rcases h with h | h
      · rw [hJ] at h
        obtain ⟨⟨x, hIx, hSx⟩, hLW, hKW⟩ := h
        have hre := run_endLoop (P := P) hLW (by rw [hrec]; simp)
        have hS' := hout (turn (r' := { rec .ready none with state := .exhausted }) hSx hLW) (hdef hKW)
        rw [hl] at hre hS'
        subst hrec
        exact ⟨none, _, hre, _, hS', hend x hIx⟩
      · rw [hJx] at h
        obtain ⟨⟨st5, hk5, hq5, hS5⟩, hLW, hKW⟩ := h
        have hre := run_endLoop (P := P) hLW (by rw [hrec]; simp)
        have hS' := hout (turn (r' := { rec .done (some .ret) with state := .exhausted }) hS5 hLW) (hdef hKW)
        rw [hl] at hre hS'
        subst hrec
        exact ⟨some .ret, _, hre, wpIn_ret ⟨_, hS', hq5⟩⟩
end
theorem pwp_backSL {s : Nat} {P : Program} {n : Fr} {fB fI : FuncId} {T : TypeId} {S : SL} {B : BS} {Q : Exit → PS → Prop} {α γ : Type} (hbk : BacksS P fB fI T s) (hcb : callB P fB = true) (hrd : n.rd = none) {id rid : Nat} {o1 o2 : Oper} {t0 ta tf p1 p2 : Tmp} {ats : Array TypeId} {assign body : Code} {E : TypeId} (lo : Nat) (F : γ → Dat) (L : List γ) (z : γ) (St : α → PS) (I : Nat → α → Prop) (x0 : α)
    (h1 : o1.op = .move (.tmp t0)) (h1d : o1.dst = some ta) (h1g : o1.guard = none) (h2 : o2.op = .call { callee := .value (.func fB), args := #[.tmp ta], argTypes := ats }) (h2d : o2.dst = some tf) (h2g : o2.guard = none)
    (hda : dstB n (some ta) = true) (hdf : dstB n (some tf) = true) (hd1 : dstB ⟨lo, n.hi, none⟩ (some p1) = true) (hd2 : dstB ⟨lo, n.hi, none⟩ (some p2) = true) (hlo : Nat.ble n.lo lo = true)
    (hx : sget S t0 = .d (.sl E s (L.map F))) (hF : ∀ g, F g = .agg (F g).cells ∧ (F g).cells.length = s) (hst : ∀ x, ((St x).sl.all fun p => Nat.blt p.1 lo) = true) (h0 : SimImp ⟨(tf, .junk) :: (ta, .junk) :: S, B⟩ (St x0)) (hI : I 0 x0) (hlen : L.length ≤ 9223372036854775807)
    (hround : ∀ (l j : Nat) (x : α), j < L.length → I j x → PWp P ⟨lo, n.hi, some l⟩ assign (PThen (PWp P ⟨lo, n.hi, some l⟩ body (BackQ lo St I Q j)) (fun _ _ => False)) ⟨(p2, .d (F (L.getD (L.length - 1 - j) z))) :: (p1, .d (.val (.int .i64 ((L.length - 1 - j : Nat) : Int)))) :: (St x).sl, (St x).bs⟩)
    (hend : ∀ x, I L.length x → Q .normal (St x)) :
    PWp P n (.seq (.region rid #[o1, o2] false) (.block id (.rangeFunc (.tmp tf) #[p1, p2] assign body))) Q ⟨S, B⟩ := by
  refine pwp_backS hbk hcb hrd lo St I x0 h1 h1d h1g h2 h2d h2g hda hdf hd1 hd2 hlo hx (fun x p hp => ?_) h0 hI (by simpa using Int.ofNat_le.2 hlen) (fun l j x d hj hIx hd => ?_) (fun e he => ?_) (fun x hIx => hend x (by simpa using hIx))
  · exact Nat.le_of_ble_eq_true (List.all_eq_true.1 (hst x) p hp)
  · rw [List.length_map] at hj hd
    have h3 : j < L.length := hj
    have hlt : L.length - 1 - j < L.length := by omega
    have hd' : d = F (L.getD (L.length - 1 - j) z) := by
      rw [List.getElem?_map, List.getElem?_eq_getElem hlt] at hd
      simp only [Option.map_some, Option.some.injEq] at hd
      rw [← hd]
      simp [List.getD, List.getElem?_eq_getElem hlt]
    have hj' : (((L.map F).length : Int) - 1 - (j : Int)) = ((L.length - 1 - j : Nat) : Int) := by rw [List.length_map]; omega
    rw [hd', hj']
    exact hround l j x h3 hIx
  · obtain ⟨g, _, rfl⟩ := List.mem_map.1 he
    exact hF g
end Go.Fid
namespace Go.Proofs.YtihgdjljnaekmaaGreat
open Go.RowKit Go.Shelf Go.Fid
attribute [local go_sem] Oper.semAt_some
set_option maxRecDepth 100000 in
set_option maxHeartbeats 2000000 in
theorem back1S (N l Bs b off len cap : Nat) (u : Nat → Nat → Value) (hlen : (len : Int) ≤ 9223372036854775807) (J : Nat → World → Prop) (Jx : World → Prop)
    (hc : ∀ j W, J j W → W.cell? ⟨Bs, 0, none⟩ = some (.slice (some ⟨b, off, none⟩) len cap) ∧ ∀ i, i < len → ∀ r, r < 6 → W.cell? ⟨b, off + (i * 6 + r), none⟩ = some (u i r))
    (hY : ∀ j W, J j W → j < len → YieldAt Fence.wide N Tryz.prog l #[.int .i64 ((len : Int) - 1 - (j : Int)), .agg #[u (len - 1 - j) 0, u (len - 1 - j) 1, u (len - 1 - j) 2, u (len - 1 - j) 3, u (len - 1 - j) 4, u (len - 1 - j) 5]] W fun e W' =>
      (e = .returned (.bool true) ∧ J (j + 1) W') ∨ (e = .returned (.bool false) ∧ Jx W'))
    (W : World) (h0 : J 0 W) :
    CallsIn Fence.wide (N + 1) Tryz.prog 95 #[.func (.yield l) #[] #[], .pointer (some ⟨Bs, 0, none⟩)] W fun e W' => (∃ v, e = .returned v) ∧ (J len W' ∨ Jx W') := by
  refine callsIn_of_wp Tryz.func95 rfl trivial ?_ rfl
  simp only [Tryz.ntmps95, List.size_toArray, List.length_cons, List.length_nil, Nat.reduceAdd, Nat.reduceSub, Array.replicate_succ, Array.replicate_zero, List.push_toArray, List.append_toArray, List.nil_append, List.cons_append]
  have hBs := (hc 0 W h0).1
  gi_wp2
  gi_loopw [3] (fun i wr => ∃ j : Nat, j ≤ len ∧ i = .int .i64 ((len : Int) - 1 - (j : Int)) ∧ J j wr)
    (fun i _ => (intOf i + 1).toNat)
  case atStart => exact ⟨0, Nat.zero_le _, by simp, h0⟩
  case round =>
    obtain ⟨j, hk, rfl, hJs⟩ := hrel
    have hBj := (hc j wr hJs).1
    by_cases hlt : j < len
    · have hcj := (hc j wr hJs).2 (len - 1 - j) (by omega)
      have hcj0 : wr.cell? ⟨b, off + (len - 1 - j) * 6, none⟩ = some (u (len - 1 - j) 0) := by have := hcj 0 (by omega); rwa [← Nat.add_assoc] at this
      have hcj1 : wr.cell? ⟨b, off + (len - 1 - j) * 6 + 1, none⟩ = some (u (len - 1 - j) 1) := by have := hcj 1 (by omega); rwa [← Nat.add_assoc] at this
      have hcj2 : wr.cell? ⟨b, off + (len - 1 - j) * 6 + 2, none⟩ = some (u (len - 1 - j) 2) := by have := hcj 2 (by omega); rwa [← Nat.add_assoc] at this
      have hcj3 : wr.cell? ⟨b, off + (len - 1 - j) * 6 + 3, none⟩ = some (u (len - 1 - j) 3) := by have := hcj 3 (by omega); rwa [← Nat.add_assoc] at this
      have hcj4 : wr.cell? ⟨b, off + (len - 1 - j) * 6 + 4, none⟩ = some (u (len - 1 - j) 4) := by have := hcj 4 (by omega); rwa [← Nat.add_assoc] at this
      have hcj5 : wr.cell? ⟨b, off + (len - 1 - j) * 6 + 5, none⟩ = some (u (len - 1 - j) 5) := by have := hcj 5 (by omega); rwa [← Nat.add_assoc] at this
      obtain ⟨fn, tmps, assign, body, hy, hR⟩ := hY j wr hJs hlt
      gi_wp2
      refine hR.mono ?_
      rintro e W3 (⟨rfl, hJ3⟩ | ⟨rfl, hJx3⟩)
      · gi_wp2
        go_roundw
        case rel => exact ⟨j + 1, by omega, by simp; omega, hJ3⟩
        case measure => simp [intOf]; omega
      · gi_wp2
        refine bodyPost_ret (results_none rfl _ _ _) rfl ?_
        exact ⟨⟨_, rfl⟩, .inr hJx3⟩
    · obtain rfl : j = len := by omega
      gi_wp2
      go_end0
      exact ⟨⟨_, rfl⟩, .inl hJs⟩
set_option maxRecDepth 100000 in
set_option maxHeartbeats 2000000 in
theorem back1_nilS (N l Bs cap : Nat) (ao : Option Addr) (J : World → Prop) (W : World) (hBs : W.cell? ⟨Bs, 0, none⟩ = some (.slice ao 0 cap)) (h0 : J W) :
    CallsIn Fence.wide (N + 1) Tryz.prog 95 #[.func (.yield l) #[] #[], .pointer (some ⟨Bs, 0, none⟩)] W fun e W' => (∃ v, e = .returned v) ∧ J W' := by
  refine callsIn_of_wp Tryz.func95 rfl trivial ?_ rfl
  simp only [Tryz.ntmps95, List.size_toArray, List.length_cons, List.length_nil, Nat.reduceAdd, Nat.reduceSub, Array.replicate_succ, Array.replicate_zero, List.push_toArray, List.append_toArray, List.nil_append, List.cons_append]
  gi_wp2
  gi_loopw [3] (fun i wr => i = .int .i64 (-1) ∧ J wr) (fun _ _ => 0)
  case atStart => exact ⟨by simp, h0⟩
  case round =>
    obtain ⟨rfl, hJs⟩ := hrel
    gi_wp2
    go_end0
    exact ⟨⟨_, rfl⟩, hJs⟩
set_option maxHeartbeats 1000000 in
theorem back_inS (a : Option Addr) (len cap : Nat) (w : World) :
    Calls Tryz.prog 49 #[.slice a len cap] w fun e w' => e = .returned (.func (.func 95) #[] #[.pointer (some ⟨w.heap.size, 0, none⟩)]) ∧ w' = w.alloc (.cells #[.slice a len cap] 39) := by
  refine (callsIn_wide (n := 1)).1 (callsIn_of_wp Tryz.func49 rfl trivial ?_ rfl)
  simp only [Tryz.ntmps49, List.size_toArray, List.length_cons, List.length_nil, Nat.reduceAdd, Nat.reduceSub, Array.replicate_succ, Array.replicate_zero, List.push_toArray, List.append_toArray, List.nil_append, List.cons_append]
  gi_wp2
  go_ret
  exact ⟨rfl, rfl⟩
theorem backsS : Go.Fid.BacksS Tryz.prog 49 95 39 6 := ⟨back_inS, back1_nilS, fun N l c b off len cap u hlen J Jx hc hY W h0 => back1S N l c b off len cap u hlen J Jx hc hY W h0, enters_of Tryz.func95 (by kernel_rfl) rfl⟩
end Go.Proofs.YtihgdjljnaekmaaGreat
namespace Go.Proofs.YtihgdjljnaekmaaGreat
open Go.Fid
set_option maxRecDepth 4000
set_option linter.unusedVariables false
set_option linter.unusedSimpArgs false
theorem by56 : bytesB Tryz.prog 56 = some 48 := by kernel_rfl
theorem cb12 : callB Tryz.prog 12 = true := by kernel_rfl
theorem cb49 : callB Tryz.prog 49 = true := by kernel_rfl
theorem ze39 : zeroB Tryz.prog 39 = some [.slice none 0 0] := by kernel_rfl
theorem zn39 : ZOk [.slice none 0 0] [.val (.slice none 0 0)] := by simp [ZOk, Value.oneCell']
theorem w_ordN (z : Int) (es : List REdge) (bs : List Bool) (hf : fewB z es = false) : Takes Tryz.prog 12 [(.val (.int .i64 (z))), (.sl 56 6 (List.map encEdge es)), (.sl 4 1 (List.map enc_bool bs))] (.val (.bool (true))) := by
  refine fn_intro Tryz.func12 rfl cb12 rfl ?_
  show PWp _ _ _ _ ⟨[(0, (vi z)), (1, (vl 56 6 encEdge es)), (2, (vl 4 1 enc_bool bs))], []⟩
  refine pwp_seq <| kx [(5, (.ref 0 0)), (6, (.ref 1 0))] [(0, some (bx (.sl 4 1 (List.map enc_bool bs)))), (1, some (bx (.val (.bool (false)))))] (zN (oBx 0) <| zN (oAl 1 ze4 zo4) <| zZ) ?_
  refine pwp_seq <| pwp_seq <| kx [(17, (vb false))] [] (zE (oCl l_known) <| zE oNt <| zZ) ?_
  refine pwp_cond (b := false) (by kernel_rfl) (fun h => by cases h) (fun _ => ?_)
  refine pwp_skip <| pwp_seq <| pwp_seq <| kx [(27, (vb true))] [] (zM <| zM <| zE (oBk false (oCl (l_few z es)) (by exact hf)) <| zE oNt <| zM <| zK <| zK <| zK <| zK <| zE oPt <| zZ) ?_
  refine pwp_cond (b := true) (by kernel_rfl) (fun _ => ?_) (fun h => by cases h)
  refine pwp_seq <| kx [] [(1, some (bx (.val (.bool (true)))))] (zT (oSt sh4) <| zZ) ?_
  refine pwp_ret ⟨_, (res_1 (cs := (bx (.val (.bool (true))))) (d := (.val (.bool (true)))) rfl rfl sh4 rfl rfl .nil), ?_⟩
  rfl
theorem w_ordC (z : Int) (es : List REdge) (bs : List Bool) (hf : fewB z es = true) (hc : lopC z es ≠ 0) : Takes Tryz.prog 12 [(.val (.int .i64 (z))), (.sl 56 6 (List.map encEdge es)), (.sl 4 1 (List.map enc_bool bs))] (.val (.bool (true))) := by
  refine fn_intro Tryz.func12 rfl cb12 rfl ?_
  show PWp _ _ _ _ ⟨[(0, (vi z)), (1, (vl 56 6 encEdge es)), (2, (vl 4 1 enc_bool bs))], []⟩
  refine pwp_seq <| kx [(5, (.ref 0 0)), (6, (.ref 1 0))] [(0, some (bx (.sl 4 1 (List.map enc_bool bs)))), (1, some (bx (.val (.bool (false)))))] (zN (oBx 0) <| zN (oAl 1 ze4 zo4) <| zZ) ?_
  refine pwp_seq <| pwp_seq <| kx [(17, (vb false))] [] (zE (oCl l_known) <| zE oNt <| zZ) ?_
  refine pwp_cond (b := false) (by kernel_rfl) (fun h => by cases h) (fun _ => ?_)
  refine pwp_skip <| pwp_seq <| pwp_seq <| kx [(27, (vb true))] [] (zM <| zM <| zE (oBk true (oCl (l_few z es)) (by exact hf)) <| zE oNt <| zM <| zM <| zM <| zE (oCl (l8_check z es (by have := few_len hf; omega))) <| zE (oBk true oNe (by exact bne_iff_ne.2 (by have hx := hc; omega))) <| zE oPf <| zZ) ?_
  refine pwp_cond (b := true) (by kernel_rfl) (fun _ => ?_) (fun h => by cases h)
  refine pwp_seq <| kx [] [(1, some (bx (.val (.bool (true)))))] (zT (oSt sh4) <| zZ) ?_
  refine pwp_ret ⟨_, (res_1 (cs := (bx (.val (.bool (true))))) (d := (.val (.bool (true)))) rfl rfl sh4 rfl rfl .nil), ?_⟩
  rfl
theorem w_ordY (z : Int) (es : List REdge) (bs : List Bool) (hf : fewB z es = true) (hc : lopC z es = 0) : Takes Tryz.prog 12 [(.val (.int .i64 (z))), (.sl 56 6 (List.map encEdge es)), (.sl 4 1 (List.map enc_bool bs))] (.val (.bool (true))) := by
  have hlen := few_len hf
  obtain ⟨hz1, hz2, hl2, heo⟩ := lopC_0 hc
  refine fn_intro Tryz.func12 rfl cb12 rfl ?_
  show PWp _ _ _ _ ⟨[(0, (vi z)), (1, (vl 56 6 encEdge es)), (2, (vl 4 1 enc_bool bs))], []⟩
  refine pwp_seq <| kx [(5, (.ref 0 0)), (6, (.ref 1 0))] [(0, some (bx (.sl 4 1 (List.map enc_bool bs)))), (1, some (bx (.val (.bool (false)))))] (zN (oBx 0) <| zN (oAl 1 ze4 zo4) <| zZ) ?_
  refine pwp_seq <| pwp_seq <| kx [(17, (vb false))] [] (zE (oCl l_known) <| zE oNt <| zZ) ?_
  refine pwp_cond (b := false) (by kernel_rfl) (fun h => by cases h) (fun _ => ?_)
  refine pwp_skip <| pwp_seq <| pwp_seq <| kx [(27, (vb false))] [] (zM <| zM <| zE (oBk true (oCl (l_few z es)) (by exact hf)) <| zE oNt <| zM <| zM <| zM <| zE (oCl (l8_check z es (by have := few_len hf; omega))) <| zE (oBk false oNe (by exact bne_eq_false_iff_eq.2 (by rw [show (lopC z es) = 0 from hc]; rfl))) <| zE oPf <| zZ) ?_
  refine pwp_cond (b := false) (by kernel_rfl) (fun h => by cases h) (fun _ => ?_)
  refine pwp_skip <| pwp_seq <| kx [(7, (vb (conV z es))), (8, (vin (conC z es)))] [] (zM <| zM <| zE (oCl (l_Con z es (by have := few_len hf; omega))) <| zM <| zE oEx <| zE oEx <| zM <| zM <| zZ) ?_
  refine pwp_seq <| kx [(9, (.ref 2 0))] [(2, some (bx (.val (.slice none 0 0))))] (zN (oAl 2 ze39 zn39) <| zZ) ?_
  refine pwp_seq <| pwp_own 2 0 3 56 6 (cs := (bx (.val (.slice none 0 0)))) (h := ?_)
  refine pwp_sim (wk (l := [(0, (vi z)), (1, (vl 56 6 encEdge es)), (5, (.ref 0 0)), (6, (.ref 1 0)), (7, (vb (conV z es))), (8, (vin (conC z es))), (9, (.ref 2 0))]) (b := [(0, some (bx (.sl 4 1 (List.map enc_bool bs)))), (1, some (bx (.val (.bool (false))))), (2, some [(.own 3 56 6 0)]), (3, some (bxs encEdge []))])) ?_
  refine pwp_backSL backsS cb49 rfl 10 encEdge es (REdge.mk 0 0 (RQuat.mk 0 0 0 0)) (fun ot => ⟨[(0, (vi z)), (5, (.ref 0 0)), (6, (.ref 1 0)), (7, (vb (conV z es))), (8, (vin (conC z es))), (9, (.ref 2 0))], [(0, some (bx (.sl 4 1 (List.map enc_bool bs)))), (1, some (bx (.val (.bool (false))))), (2, some [(.own 3 56 6 ot.length)]), (3, some (bxs encEdge ot))]⟩) (fun (j : Nat) ot => ot = (rvL bs es).take j) [] rfl rfl rfl rfl rfl rfl rfl rfl rfl rfl rfl rfl (fun _ => ⟨rfl, rfl⟩) (fun _ => rfl) wk rfl (by omega) ?_ ?_
  · rintro rl j ot hj hot
    have hol : ot.length ≤ 12 := by rw [hot]; have := List.length_take_le' j (rvL bs es); have := rv_len bs es; omega
    have hei : EOkE z.toNat (es.getD (es.length - 1 - j) (REdge.mk 0 0 (RQuat.mk 0 0 0 0))) := eget heo (k := (es.length - 1 - j)) (by omega)
    have hcj := qC_cj hei.q
    refine pwp_seq <| kx [(10, (vin (es.length - 1 - j)))] [] (zM <| zZ) ?_
    refine kx [(11, (.ref 4 0))] [(4, some (bx (encEdge (es.getD (es.length - 1 - j) (REdge.mk 0 0 (RQuat.mk 0 0 0 0))))))] (zH (oAl 4 ze56 zo56) <| zT (oSt sh56) <| zZ) ?_
    refine pwp_block <| pwp_seq <| pwp_seq <| kx [(47, (vb (decide ((((es.length - 1 - j) : Nat) : Int) < ((bs.length : Nat) : Int)) && (bs.getD (es.length - 1 - j) false))))] [] ?_ ?_
    · refine zM <| zR (oL1 sh101) <| zE (oLm el101) <| zE oLt <| zE (oV (vb (decide ((((es.length - 1 - j) : Nat) : Int) < ((bs.length : Nat) : Int)))) (mv_ok (by kernel_rfl))) <| ?_
      rcases hb1 : (decide ((((es.length - 1 - j) : Nat) : Int) < ((bs.length : Nat) : Int))) with _ | _
      · replace hb1 := of_decide_eq_false hb1
        exact zK <| zK <| zK <| zK <| zE oPf <| zZ
      · replace hb1 := of_decide_eq_true hb1
        exact zR (oL1 sh101) <| zM <| zE (oXl el101 (es.length - 1 - j) (false : Bool)) <| zE (oC1 sh4) <| zE oPa <| zZ
    refine pwp_cond rfl (fun h2 => ?_) (fun h2 => ?_)
    · refine pwp_seq <| kx [(12, (.ref 5 0)), (13, (vin (qC (qcj ((es.getD (es.length - 1 - j) (REdge.mk 0 0 (RQuat.mk 0 0 0 0))).turn)))))] [(5, some (bx (encQuat (qV (qcj ((es.getD (es.length - 1 - j) (REdge.mk 0 0 (RQuat.mk 0 0 0 0))).turn))))))] (zE (oFr fo56_2) <| zR (oLa sh28) <| zE (oCl (l8_conj ((es.getD (es.length - 1 - j) (REdge.mk 0 0 (RQuat.mk 0 0 0 0))).turn) hei.q)) <| zM <| zE oEx <| zE oEx <| zH (oAl 5 ze28 zo28) <| zT (oSt sh28) <| zM <| zZ) ?_
      refine pwp_seq <| pwp_seq <| kx [(55, (vb false))] [] (zM <| zE (oBk false oNe (by exact bne_eq_false_iff_eq.2 (by rw [show (qC (qcj ((es.getD (es.length - 1 - j) (REdge.mk 0 0 (RQuat.mk 0 0 0 0))).turn))) = 0 from hcj]; rfl))) <| zZ) ?_
      refine pwp_cond (b := false) (by kernel_rfl) (fun h => by cases h) (fun _ => ?_)
      refine pwp_skip <| kx [] [(4, some (bx (encEdge (REdge.mk ((es.getD (es.length - 1 - j) (REdge.mk 0 0 (RQuat.mk 0 0 0 0))).to_) ((es.getD (es.length - 1 - j) (REdge.mk 0 0 (RQuat.mk 0 0 0 0))).fr) (qV (qcj ((es.getD (es.length - 1 - j) (REdge.mk 0 0 (RQuat.mk 0 0 0 0))).turn)))))))] (zE (oFr fo56_1) <| zR (oL1 sh3) <| zE (oFr fo56_0) <| zR (oL1 sh3) <| zR (oLa sh28) <| zE (oBd pl56 ze56 zo56) <| zT (oSt sh56) <| zZ) ?_
      refine kf [] [(2, some [(.own 3 56 6 ((ot ++ [(REdge.mk ((es.getD (es.length - 1 - j) (REdge.mk 0 0 (RQuat.mk 0 0 0 0))).to_) ((es.getD (es.length - 1 - j) (REdge.mk 0 0 (RQuat.mk 0 0 0 0))).fr) (qV (qcj ((es.getD (es.length - 1 - j) (REdge.mk 0 0 (RQuat.mk 0 0 0 0))).turn))))]).length))]), (3, some (bxs encEdge (ot ++ [(REdge.mk ((es.getD (es.length - 1 - j) (REdge.mk 0 0 (RQuat.mk 0 0 0 0))).to_) ((es.getD (es.length - 1 - j) (REdge.mk 0 0 (RQuat.mk 0 0 0 0))).fr) (qV (qcj ((es.getD (es.length - 1 - j) (REdge.mk 0 0 (RQuat.mk 0 0 0 0))).turn))))])))] (zR (oL1 sh39) <| zR (oLa sh56) <| zE (oBs el39 ze56 zo56) <| zAmS 2 0 encEdge ot [(REdge.mk ((es.getD (es.length - 1 - j) (REdge.mk 0 0 (RQuat.mk 0 0 0 0))).to_) ((es.getD (es.length - 1 - j) (REdge.mk 0 0 (RQuat.mk 0 0 0 0))).fr) (qV (qcj ((es.getD (es.length - 1 - j) (REdge.mk 0 0 (RQuat.mk 0 0 0 0))).turn))))] rfl el39 ze56 by56 (cs := [(.own 3 56 6 ot.length)]) (hB := by repeat first | exact clrn_nil _ _ | refine clrn_hide ?_ | refine clrn_self ?_ | refine clrn_map ?_ | refine clrn_none ?_ | refine clrn_bx ?_ | refine clrn_d ?_ | refine clrn_cons rfl ?_) (k := 3) <| zT (oSo sh39) <| zF) ?_
      exact ⟨(ot ++ [(REdge.mk (es.getD (es.length - 1 - j) (REdge.mk 0 0 (RQuat.mk 0 0 0 0))).to_ (es.getD (es.length - 1 - j) (REdge.mk 0 0 (RQuat.mk 0 0 0 0))).fr (qV (qcj (es.getD (es.length - 1 - j) (REdge.mk 0 0 (RQuat.mk 0 0 0 0))).turn)))]), wk, (rv_y hj hot h2)⟩
    · refine pwp_skip <| kf [] [(2, some [(.own 3 56 6 ((ot ++ [(es.getD (es.length - 1 - j) (REdge.mk 0 0 (RQuat.mk 0 0 0 0)))]).length))]), (3, some (bxs encEdge (ot ++ [(es.getD (es.length - 1 - j) (REdge.mk 0 0 (RQuat.mk 0 0 0 0)))])))] (zR (oL1 sh39) <| zR (oLa sh56) <| zE (oBs el39 ze56 zo56) <| zAmS 2 0 encEdge ot [(es.getD (es.length - 1 - j) (REdge.mk 0 0 (RQuat.mk 0 0 0 0)))] rfl el39 ze56 by56 (cs := [(.own 3 56 6 ot.length)]) (hB := by repeat first | exact clrn_nil _ _ | refine clrn_hide ?_ | refine clrn_self ?_ | refine clrn_map ?_ | refine clrn_none ?_ | refine clrn_bx ?_ | refine clrn_d ?_ | refine clrn_cons rfl ?_) (k := 3) <| zT (oSo sh39) <| zF) ?_
      exact ⟨(ot ++ [(es.getD (es.length - 1 - j) (REdge.mk 0 0 (RQuat.mk 0 0 0 0)))]), wk, (rv_n hj hot h2)⟩
  · rintro ot hot
    have hrl := rv_len bs es
    have hot : ot = (rvL bs es) := by rw [hot, ← hrl, List.take_length]
    refine pwp_seq <| pwp_sim (publishB (j := 2) (k := 3) (es := List.map encEdge ot) rfl rfl rfl (pubs_cells _ _ (fun _ => rfl)) (map_len _ _ rfl) (pubs_take encEdge ot (fun _ => rfl) rfl)) ?_
    refine pwp_sim (wk (l := [(0, (vi z)), (5, (.ref 0 0)), (6, (.ref 1 0)), (7, (vb (conV z es))), (8, (vin (conC z es))), (9, (.ref 2 0))]) (b := [(0, some (bx (.sl 4 1 (List.map enc_bool bs)))), (1, some (bx (.val (.bool (false))))), (2, some (bx (.sl 56 6 (List.map encEdge ot))))])) ?_
    refine kx [(14, (vb (conV z (rvL bs es)))), (15, (vin (conC z (rvL bs es))))] [] (zM <| zR (oQr (.sl 56 6 (List.map encEdge ot)) (.sl 56 6 (List.map encEdge (rvL bs es))) (oL1 sh39) (by exact (by rw [hot]))) <| zE (oCl (l_Con z (rvL bs es) (by rw [rv_len]; omega))) <| zM <| zE oEx <| zE oEx <| zM <| zM <| zZ) ?_
    refine pwp_seq <| pwp_seq <| kx [(77, (vb (((((conC z es) : Nat) : Int) == 3) || ((((conC z (rvL bs es)) : Nat) : Int) == 3))))] [] ?_ ?_
    · refine zM <| zE oEq <| zE (oV (vb ((((conC z es) : Nat) : Int) == 3)) (mv_ok (by kernel_rfl))) <| ?_
      rcases hb3 : ((((conC z es) : Nat) : Int) == 3) with _ | _
      · replace hb3 := ne_of_beq_false hb3
        exact zM <| zE oEq <| zE oPo <| zZ
      · replace hb3 := eq_of_beq hb3
        exact zK <| zK <| zE oPt <| zZ
    refine pwp_cond rfl (fun h4 => ?_) (fun h4 => ?_)
    · refine pwp_seq <| kx [] [(1, some (bx (.val (.bool (true)))))] (zT (oSt sh4) <| zZ) ?_
      refine pwp_ret ⟨_, (res_1 (cs := (bx (.val (.bool (true))))) (d := (.val (.bool (true)))) rfl rfl sh4 rfl rfl .nil), ?_⟩
      rfl
    · have hne := or_ne h4
      have hc1 : conC z es = 0 := Classical.byContradiction fun e => hne.1 (con_03 hc e)
      have hc2 : conC z (rvL bs es) = 0 := Classical.byContradiction fun e => hne.2 (con_03 (rv_lop hc) e)
      have hab := rv_con (bs := bs) hc hc1 hc2
      refine pwp_skip <| pwp_seq <| kx [] [(1, some (bx (.val (.bool (true)))))] (zM <| zE (oBk true oEq (by exact beq_iff_eq.2 (by rw [show (conC z es) = 0 from hc1]; rfl))) <| zM <| zM <| zE (oBk true oEq (by exact beq_iff_eq.2 (by rw [show (conC z (rvL bs es)) = 0 from hc2]; rfl))) <| zE oPt <| zM <| zM <| zM <| zE (oBk true (oEb bo4) (by exact beq_iff_eq.2 hab)) <| zE oPt <| zT (oSt sh4) <| zZ) ?_
      refine pwp_ret ⟨_, (res_1 (cs := (bx (.val (.bool (true))))) (d := (.val (.bool (true)))) rfl rfl sh4 rfl rfl .nil), ?_⟩
      rfl
end Go.Proofs.YtihgdjljnaekmaaGreat
