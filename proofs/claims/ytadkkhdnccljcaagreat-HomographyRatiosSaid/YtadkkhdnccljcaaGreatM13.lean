/- Part 13 of a proof: rules, plain facts, and functions walked. -/
import Derived.Test.YtadkkhdnccljcaaGreatM5
set_option linter.unusedVariables false
set_option linter.unusedSimpArgs false
namespace Go.Fid
open Go.RowKit (Below)
section
variable {P : Program} {o : Oper} {S : Nat → SV}
theorem e_mkf {f : FuncId} {ks : List Nat} {caps : List Operand} (ho : o.op = .makeFunc (.func f) #[] caps.toArray) (hx : caps.map (ev S) = ks.map (fun k => .ref k 0)) : EOk P o S [] (.clo f ks) :=
  EOk.same fun a w D β hop _ => by
    refine ⟨.func (.func f) #[] (caps.map a.eval).toArray, ?_, caps.map a.eval, rfl, ?_, fun i k hk => ?_⟩
    · simp only [execOp, ho, Instr.makeFunc, Array.map_empty, List.map_toArray, Sem.run_bind, Sem.run_pure, Result.andThen_ok]
      rfl
    · simpa using congrArg List.length hx
    · have hi := congrArg (fun l : List SV => l[i]?) hx
      simp only [List.getElem?_map, hk, Option.map_some, Option.map_eq_some_iff] at hi
      obtain ⟨c, hc, e⟩ := hi
      have hm := hop c (by simp [ho, Op.operands, List.mem_of_getElem? hc])
      rw [e] at hm
      obtain ⟨b, h1, h2⟩ := hm
      exact ⟨b, h1, by rw [List.getElem?_map, hc, Option.map_some, h2]⟩
theorem e_clc {y : Operand} {xs : List Operand} {ats : Array TypeId} {f : FuncId} {ds : List Dat} {r : Dat} {ks : List Nat} {css : List (List Dat)} {E : TypeId} {rd : List (Nat × List SV)}
    (hf : Takes P f (ds ++ css.map (fun cs => .cptr E cs 0)) r) (ho : o.op = .call { callee := .value y, args := xs.toArray, argTypes := ats }) (hy : ev S y = .clo f ks) (hx : xs.map (ev S) = ds.map .d)
    (hrk : rd = ks.zip (css.map (fun cs => cs.map SV.d))) (hlen : css.length = ks.length) (ha : Avoids E r) : EOk P o S rd (.d r) :=
  fun a w D β Q hop hrd hD => by
    have hyv := hop y (by simp [ho, Op.operands, Call.operands])
    rw [hy] at hyv
    obtain ⟨vs, hv1, hv2, hv3⟩ := hyv
    have hl : xs.length = ds.length := by simpa using congrArg List.length hx
    have hargs0 : Args w D (xs.map a.eval) ds := by
      refine ⟨by simpa using hl, fun i v d hv hd => ?_⟩
      rw [List.getElem?_map, Option.map_eq_some_iff] at hv
      obtain ⟨x, hxi, rfl⟩ := hv
      have hm := hop x (by simp [ho, Op.operands, Call.operands, List.mem_of_getElem? hxi])
      have hi := congrArg (fun l : List SV => l[i]?) hx
      simp only [List.getElem?_map, hxi, hd, Option.map_some, Option.some.injEq] at hi
      rw [hi] at hm
      exact hm
    have hrun : (execOp a.eval o).run P w = .ok (.enter f (xs.map a.eval ++ vs).toArray) w := by
      simp only [execOp, ho, resolve, Deferred.ofValue, hv1, Sem.run_bind, Sem.run_pure, Result.andThen_ok, invoke, Array.empty_append]
      rw [run_callFunc hf.may]
      simp
    -- the private variables are published for the time of the call
    let X : TypeId → Nat → Nat → Prop := fun t g _ => t = E ∧ ∃ k ∈ ks, β k = some g
    have hblk : ∀ (i : Nat) k cs, ks[i]? = some k → css[i]? = some cs → BlkOk w D β k (cs.map SV.d) := fun i k cs hk hc => by
      refine hrd (k, cs.map SV.d) ?_
      rw [hrk]
      refine List.mem_of_getElem? (i := i) ?_
      rw [List.getElem?_zip_eq_some]
      exact ⟨hk, by rw [List.getElem?_map, hc]; rfl⟩
    have hcap : ∀ (i : Nat) k cs, ks[i]? = some k → css[i]? = some cs → ∃ b us T', β k = some b ∧ vs[i]? = some (.pointer (some ⟨b, 0, none⟩)) ∧ w.heap[b]? = some (.cells us T' (0, 0)) ∧
        (∀ (j : Nat) x, (cs.map SV.d)[j]? = some x → ∃ u, us[j]? = some u ∧ u.oneCell' = true ∧ RepS w D β u x) ∧ ∀ t o, ¬ D t b o := fun i k cs hk hc => by
      obtain ⟨b, h1, h2⟩ := hv3 i k hk
      rcases hblk i k cs hk hc with ⟨g1, _⟩ | ⟨b', us, T', g1, g2, g3, g4, g5⟩
      · rw [h1] at g1; cases g1
      · obtain rfl : b = b' := by rw [h1] at g1; injection g1
        exact ⟨b, us, T', h1, h2, g2, g4, g5⟩
    have hXb : ∀ t g i, X t g i → (∀ t' i', ¬ D t' g i') ∧ g < w.heap.size := fun t g i ⟨_, k, hk, hb⟩ => by
      obtain ⟨i, hi⟩ := List.getElem?_of_mem hk
      have hlt : i < css.length := by rw [hlen]; exact (List.getElem?_eq_some_iff.1 hi).1
      obtain ⟨b, us, T', h1, _, h3, _, h5⟩ := hcap i k _ hi (List.getElem?_eq_getElem hlt)
      obtain rfl : g = b := by rw [hb] at h1; injection h1
      exact ⟨fun t' i' => h5 t' i', heap_lt h3⟩
    have hD' : DOk (fun t g i => D t g i ∨ X t g i) w := fun t g i hd => by
      rcases hd with hd | hd
      · exact hD _ _ _ hd
      · exact (hXb t g i hd).2
    have hmono : ∀ t' g i, D t' g i → (D t' g i ∨ X t' g i) ∧ w.cell? ⟨g, i, none⟩ = w.cell? ⟨g, i, none⟩ := fun t' g i hd => ⟨.inl hd, rfl⟩
    have hargs : Args w (fun t g i => D t g i ∨ X t g i) (xs.map a.eval ++ vs) (ds ++ css.map (fun cs => .cptr E cs 0)) := by
      refine ⟨by simp [hl, hv2, hlen], fun i v d hv hd => ?_⟩
      by_cases hi : i < xs.length
      · rw [List.getElem?_append_left (by simpa using hi)] at hv
        rw [List.getElem?_append_left (by omega)] at hd
        exact Rep.mono hmono (hargs0.2 i v d hv hd)
      · rw [List.getElem?_append_right (by simpa using hi), List.length_map] at hv
        rw [List.getElem?_append_right (by omega), ← hl] at hd
        rw [List.getElem?_map, Option.map_eq_some_iff] at hd
        obtain ⟨cs, hcs, rfl⟩ := hd
        have hlt : i - xs.length < ks.length := by rw [← hlen]; exact (List.getElem?_eq_some_iff.1 hcs).1
        obtain ⟨b, us, T', h1, h2, h3, h4, h5⟩ := hcap _ _ cs (List.getElem?_eq_getElem hlt) hcs
        rw [h2] at hv
        injection hv with hv
        subst hv
        have hcell : ∀ j, w.cell? ⟨b, j, none⟩ = us[j]? := fun j => cell_of_row w b j us T' (0, 0) h3
        have hj : ∀ j, j < cs.length → ∃ u, us[j]? = some u ∧ u.oneCell' = true ∧ Rep w D u (cs[j]?.getD (.tup [])) := fun j hj => by
          obtain ⟨u, q1, q2, q3⟩ := h4 j (.d cs[j]) (by rw [List.getElem?_map, List.getElem?_eq_getElem hj]; rfl)
          exact ⟨u, q1, q2, by rw [List.getElem?_eq_getElem hj]; exact q3⟩
        refine Rep.cptr (off := 0) b 0 (fun j => us.getD j undef) (fun j _ => .inr ⟨rfl, _, List.getElem_mem hlt, h1⟩) (fun j hj' => ?_) (fun j hj' => ?_) (fun j d hd => ?_)
        · obtain ⟨u, q1, _, _⟩ := hj j hj'
          rw [Nat.zero_add, hcell, Array.getD_eq_getD_getElem?, q1]; rfl
        · obtain ⟨u, q1, q2, _⟩ := hj j hj'
          rw [Array.getD_eq_getD_getElem?, q1]; exact q2
        · obtain ⟨u, q1, q2, q3⟩ := hj j (List.getElem?_eq_some_iff.1 hd).1
          rw [Array.getD_eq_getD_getElem?, q1]
          rw [hd] at q3
          exact Rep.mono hmono q3
    refine wp_enter hrun ((hf.run w _ _ hD' hargs).mono fun e w' h => ?_)
    obtain ⟨v, D2, he, h1, h2, h3⟩ := h
    refine ⟨v, he, v, fun t g i => D2 t g i ∧ ¬ X t g i, rfl, h1, ⟨fun t g i hd => ⟨h2.up _ _ _ (.inl hd), fun hx' => (hXb t g i hx').1 t i hd⟩, fun t g i hd => ?_⟩, ?_⟩
    · rcases h2.new t g i hd.1 with h | h
      · rcases h with h | h
        · exact .inl h
        · exact absurd h hd.2
      · exact .inr h
    · exact ha.rep (fun t g i hne hd => ⟨hd, fun hx' => hne hx'.1⟩) h3
theorem oMf {f : FuncId} {caps : List Operand} (ks : List Nat) (ho : o.op = .makeFunc (.func f) #[] caps.toArray := by exact rfl) (hx : caps.map (ev S) = ks.map (fun k => .ref k 0) := by kernel_rfl) : EOk P o S [] (.clo f ks) := e_mkf ho hx
end
def RKs (P : Program) (o : Oper) (S : SL) (B : BS) (ks : List Nat) (x : SV) : Prop := ∃ rd : List (Nat × List SV), rd.map (·.1) = ks ∧ EOk P o (sget S) rd x ∧ ∀ p ∈ rd, bget B p.1 = some p.2
theorem oCc {P : Program} {o : Oper} {S : SL} {B : BS} {y : Operand} {xs : List Operand} {ats : Array TypeId} {f : FuncId} {ds : List Dat} {r : Dat} (ks : List Nat) (css : List (List Dat))
    (hf : Takes P f (ds ++ css.map (fun cs => .cptr 1000000 cs 0)) r) (ha : Avoids 1000000 r) (ho : o.op = .call { callee := .value y, args := xs.toArray, argTypes := ats } := by exact rfl) (hy : ev (sget S) y = .clo f ks := by kernel_rfl) (hx : xs.map (ev (sget S)) = ds.map .d := by kernel_rfl)
    (hlen : Nat.beq css.length ks.length = true := by kernel_rfl) (hb : ks.map (fun k => bget B k) = css.map (fun cs => some (cs.map SV.d)) := by kernel_rfl) : RKs P o S B ks (.d r) := by
  have hlen := Nat.eq_of_beq_eq_true hlen
  refine ⟨ks.zip (css.map (fun cs => cs.map SV.d)), ?_, e_clc hf ho hy hx rfl hlen ha, fun p hp => ?_⟩
  · rw [List.map_fst_zip]; simp [hlen]
  · obtain ⟨i, hi⟩ := List.getElem?_of_mem hp
    rw [List.getElem?_zip_eq_some] at hi
    have h1 := congrArg (fun l : List (Option (List SV)) => l[i]?) hb
    simp only [List.getElem?_map, hi.1, Option.map_some] at h1
    have h2 := hi.2
    rw [List.getElem?_map, Option.map_eq_some_iff] at h2
    obtain ⟨cs, hc, e⟩ := h2
    rw [hc] at h1
    simp only [Option.map_some, Option.some.injEq] at h1
    rw [h1, e]
section
variable {P : Program} {n : Fr} {ops : Array Oper} {K : SL → BS → Prop} {S : SL} {B : BS} {l : List Oper} {o : Oper} {news : List Nat} {acc0 : List (List Nat × List Nat)}
theorem wC {ks : List Nat} {x : SV} (h : RKs P o S B ks x) (r : DK P n ops K news (acc0 ++ [(ks, [])]) ((dO o, x) :: S) B l) (g : goK n ops S o = true := by kernel_rfl) (hn : clearR ops S o news x = true := by kernel_rfl) : DK P n ops K news acc0 S B (o :: l) := by
  obtain ⟨st1, acc, r1, r0, r2⟩ := r
  obtain ⟨rd, hk, h, hbk⟩ := h
  obtain ⟨hd, hg, hb⟩ := goK_spec g
  have hs := DStep.e (P := P) (n := n) (ops := ops) (news := news) (st := ⟨S, B⟩) (o := o) h hg (by rw [hd]; exact hb) hbk hn
  rw [hd, hk] at hs
  exact ⟨st1, (ks, []) :: acc, .cons hs r1, by simpa using r0, r2⟩
end
end Go.Fid
