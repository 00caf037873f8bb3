import Derived.Test.YtadkkhdnccljcaaGreatFid15
/-
  Short names and short rules for what a printer prints. For any program.
-/
set_option linter.unusedVariables false
namespace Go.Fid
abbrev vi (z : Int) : SV := .d (.val (.int .i64 z))
abbrev vin (n : Nat) : SV := .d (.val (.int .i64 (n : Int)))
abbrev vqn (n : Nat) : SV := .d (.val (.int .u64 (n : Int)))
abbrev vwn (n : Nat) : SV := .d (.val (.int .u32 (n : Int)))
abbrev vb (b : Bool) : SV := .d (.val (.bool b))
abbrev vl {α : Type} (E z : Nat) (F : α → Dat) (L : List α) : SV := .d (.sl E z (L.map F))
abbrev bm {α : Type} (F : α → Dat) (L : List α) : List SV := L.map (fun g => SV.d (F g))
section
variable {P : Program} {n : Fr} {ops : Array Oper} {S S' : SL} {B B' : BS} {l : List Oper} {o : Oper} {news : List Nat} {acc0 : List (List Nat × List Nat)}
end
theorem fillL_all {s : Nat} : ∀ (ds : List Dat) (k : Nat) (a z : List Dat), a.length = k * s → z.length = ds.length * s → (∀ d ∈ ds, d.cells.length = s) →
    fillL (fun i => some (i * s, s)) (a ++ z) ((ds.zipIdx k).map fun p => (p.2, p.1.cells)) = some (a ++ flat ds)
  | [], k, a, z, ha, hz, _ => by
    have : z = [] := List.eq_nil_of_length_eq_zero (by simpa using hz)
    subst this; simp [fillL, flat]
  | d :: ds, k, a, z, ha, hz, hs => by
    have hd := hs d (by simp)
    have hz' : z.length = s + ds.length * s := by rw [hz, List.length_cons, Nat.add_mul]; omega
    rw [List.zipIdx_cons, List.map_cons]
    simp only [fillL]
    have h1 : (Nat.beq d.cells.length s && Nat.ble (k * s + d.cells.length) (a ++ z).length) = true := by
      rw [Bool.and_eq_true]
      refine ⟨by rw [hd]; exact Nat.beq_refl s, Nat.ble_eq_true_of_le ?_⟩
      rw [List.length_append, ha, hd]; omega
    rw [h1, cond_true]
    have h2 : patch (a ++ z) (k * s) d.cells = (a ++ d.cells) ++ z.drop s := by
      unfold patch
      rw [← ha, List.take_left, hd]
      congr 1
      rw [List.drop_append, List.drop_of_length_le (by omega), List.nil_append]
      congr 1; omega
    rw [h2, fillL_all ds (k + 1) (a ++ d.cells) (z.drop s) (by rw [List.length_append, ha, hd, Nat.add_mul]; omega) (by rw [List.length_drop]; omega) (fun x hx => hs x (by simp [hx])), flat_cons, List.append_assoc]
theorem e_bldF {P : Program} {o : Oper} {S : Nat → SV} {T E : TypeId} {n s : Nat} {ps : List (Nat × Operand)} {ds : List Dat} {zv : List Value} {zd : List Dat} {y : Dat} (ho : o.op = .build T ps.toArray) (hT : arrB P T = some (n, E, s)) (hz : zeroB P T = some zv) (hzd : ZOk zv zd)
    (hps : ps.map (fun p => (p.1, ev S p.2)) = ds.zipIdx.map (fun p => (p.2, .d p.1))) (hok : ds.all (fun d => d.ok1) = true) (hs : ds.all (fun d => Nat.beq d.cells.length s) = true) (hl : Nat.beq zd.length (ds.length * s) = true) (hy : Dat.agg (flat ds) = y) : EOk P o S [] (.d y) := by
  subst hy
  refine e_build_arr (pd := ds.zipIdx.map fun p => (p.2, p.1)) ho hT hz hzd (by rw [hps, List.map_map]; rfl) ?_ ?_
  · rw [List.all_eq_true] at hok ⊢
    intro p hp
    obtain ⟨q, hq, rfl⟩ := List.mem_map.1 hp
    exact hok _ (List.fst_mem_of_mem_zipIdx hq)
  · have := fillL_all ds 0 [] zd (by simp) (Nat.eq_of_beq_eq_true hl) (fun d hd => Nat.eq_of_beq_eq_true (List.all_eq_true.1 hs d hd))
    rw [List.map_map]
    rw [List.nil_append, List.nil_append] at this
    exact this
theorem pubs_cells {α : Type} {s : Nat} (F : α → Dat) (L : List α) (hF : ∀ g, (F g).cells.length = s) : ∀ e ∈ L.map F, e.cells.length = s := by
  intro e he
  obtain ⟨g, _, rfl⟩ := List.mem_map.1 he
  exact hF g
theorem pubs_take {α : Type} {s : Nat} (F : α → Dat) (L : List α) (hF : ∀ g, (F g).cells.length = s) {m : Nat} (h : L.length = m) : (bxs F L).take (m * s) = (flat (L.map F)).map .d := by
  refine List.take_of_length_le ?_
  rw [List.length_map, flat_maplen F hF, h]
  exact Nat.le_refl _
end Go.Fid
