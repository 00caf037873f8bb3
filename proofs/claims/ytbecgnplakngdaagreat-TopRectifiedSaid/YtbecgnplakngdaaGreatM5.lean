/- Part 5 of a proof: rules, plain facts, and functions walked. -/
import Derived.Test.YtbecgnplakngdaaGreatM3
import Derived.Test.YtbecgnplakngdaaGreatM4
import Derived.Test.YtbecgnplakngdaaGreatChecked
import Derived.LoopNIn
import Derived.RangeFuncBox
import Derived.Shelf.Abstract
import Derived.OwnWalkIn
import Derived.TacticsInMore
import Derived.LoopIn
namespace Go.Proofs.YtbecgnplakngdaaGreat
open Go.Fid
def encI (x : RInt) : Dat := .agg [.val (.bool x.neg), .sl 152 1 (x.gs.map enc_u32)]
def encR (x : RRat) : Dat := .agg [.val (.bool x.num.neg), .sl 152 1 (x.num.gs.map enc_u32), .val (.bool x.den.neg), .sl 152 1 (x.den.gs.map enc_u32)]
def encG (x : RRng) : Dat := .agg [.val (.bool x.lo.num.neg), .sl 152 1 (x.lo.num.gs.map enc_u32), .val (.bool x.lo.den.neg), .sl 152 1 (x.lo.den.gs.map enc_u32), .val (.bool x.hi.num.neg), .sl 152 1 (x.hi.num.gs.map enc_u32), .val (.bool x.hi.den.neg), .sl 152 1 (x.hi.den.gs.map enc_u32)]
structure RPix where
  x : Int
  y : Int
structure RPlace where
  x : RRat
  y : RRat
def encPlace (x : RPlace) : Dat := .agg [.val (.bool x.x.num.neg), .sl 152 1 (x.x.num.gs.map enc_u32), .val (.bool x.x.den.neg), .sl 152 1 (x.x.den.gs.map enc_u32), .val (.bool x.y.num.neg), .sl 152 1 (x.y.num.gs.map enc_u32), .val (.bool x.y.den.neg), .sl 152 1 (x.y.den.gs.map enc_u32)]
structure RSpot where
  x : Int
  y : Int
  z : Int
def encSpot (x : RSpot) : Dat := .agg [.val (.int .i64 x.x), .val (.int .i64 x.y), .val (.int .i64 x.z)]
structure RQuat where
  a : Int
  b : Int
  c : Int
  d : Int
def encQuat (x : RQuat) : Dat := .agg [.val (.int .i64 x.a), .val (.int .i64 x.b), .val (.int .i64 x.c), .val (.int .i64 x.d)]
structure RStn where
  at_ : RSpot
  turn : RQuat
  focal : Int
  centre : RPix
def encStn (x : RStn) : Dat := .agg [.val (.int .i64 x.at_.x), .val (.int .i64 x.at_.y), .val (.int .i64 x.at_.z), .val (.int .i64 x.turn.a), .val (.int .i64 x.turn.b), .val (.int .i64 x.turn.c), .val (.int .i64 x.turn.d), .val (.int .i64 x.focal), .val (.int .i64 x.centre.x), .val (.int .i64 x.centre.y)]
structure RStereo where
  left : RStn
  right : RStn
def encStereo (x : RStereo) : Dat := .agg [.val (.int .i64 x.left.at_.x), .val (.int .i64 x.left.at_.y), .val (.int .i64 x.left.at_.z), .val (.int .i64 x.left.turn.a), .val (.int .i64 x.left.turn.b), .val (.int .i64 x.left.turn.c), .val (.int .i64 x.left.turn.d), .val (.int .i64 x.left.focal), .val (.int .i64 x.left.centre.x), .val (.int .i64 x.left.centre.y), .val (.int .i64 x.right.at_.x), .val (.int .i64 x.right.at_.y), .val (.int .i64 x.right.at_.z), .val (.int .i64 x.right.turn.a), .val (.int .i64 x.right.turn.b), .val (.int .i64 x.right.turn.c), .val (.int .i64 x.right.turn.d), .val (.int .i64 x.right.focal), .val (.int .i64 x.right.centre.x), .val (.int .i64 x.right.centre.y)]
structure RRst where
  width : Int
  height : Int
  max_ : Int
  pixels : List Int
structure RWin where
  right : Bool
  low : RPix
  high : RPix
  cell : RRat
structure A3 (α : Type) where
  a0 : α
  a1 : α
  a2 : α
structure A4 (α : Type) where
  a0 : α
  a1 : α
  a2 : α
  a3 : α
structure A9 (α : Type) where
  a0 : α
  a1 : α
  a2 : α
  a3 : α
  a4 : α
  a5 : α
  a6 : α
  a7 : α
  a8 : α
def encA43 (x : A3 (RRat)) : Dat := .agg [.val (.bool x.a0.num.neg), .sl 152 1 (x.a0.num.gs.map enc_u32), .val (.bool x.a0.den.neg), .sl 152 1 (x.a0.den.gs.map enc_u32), .val (.bool x.a1.num.neg), .sl 152 1 (x.a1.num.gs.map enc_u32), .val (.bool x.a1.den.neg), .sl 152 1 (x.a1.den.gs.map enc_u32), .val (.bool x.a2.num.neg), .sl 152 1 (x.a2.num.gs.map enc_u32), .val (.bool x.a2.den.neg), .sl 152 1 (x.a2.den.gs.map enc_u32)]
def encA130 (x : A3 (A3 (RRat))) : Dat := .agg [.val (.bool x.a0.a0.num.neg), .sl 152 1 (x.a0.a0.num.gs.map enc_u32), .val (.bool x.a0.a0.den.neg), .sl 152 1 (x.a0.a0.den.gs.map enc_u32), .val (.bool x.a0.a1.num.neg), .sl 152 1 (x.a0.a1.num.gs.map enc_u32), .val (.bool x.a0.a1.den.neg), .sl 152 1 (x.a0.a1.den.gs.map enc_u32), .val (.bool x.a0.a2.num.neg), .sl 152 1 (x.a0.a2.num.gs.map enc_u32), .val (.bool x.a0.a2.den.neg), .sl 152 1 (x.a0.a2.den.gs.map enc_u32), .val (.bool x.a1.a0.num.neg), .sl 152 1 (x.a1.a0.num.gs.map enc_u32), .val (.bool x.a1.a0.den.neg), .sl 152 1 (x.a1.a0.den.gs.map enc_u32), .val (.bool x.a1.a1.num.neg), .sl 152 1 (x.a1.a1.num.gs.map enc_u32), .val (.bool x.a1.a1.den.neg), .sl 152 1 (x.a1.a1.den.gs.map enc_u32), .val (.bool x.a1.a2.num.neg), .sl 152 1 (x.a1.a2.num.gs.map enc_u32), .val (.bool x.a1.a2.den.neg), .sl 152 1 (x.a1.a2.den.gs.map enc_u32), .val (.bool x.a2.a0.num.neg), .sl 152 1 (x.a2.a0.num.gs.map enc_u32), .val (.bool x.a2.a0.den.neg), .sl 152 1 (x.a2.a0.den.gs.map enc_u32), .val (.bool x.a2.a1.num.neg), .sl 152 1 (x.a2.a1.num.gs.map enc_u32), .val (.bool x.a2.a1.den.neg), .sl 152 1 (x.a2.a1.den.gs.map enc_u32), .val (.bool x.a2.a2.num.neg), .sl 152 1 (x.a2.a2.num.gs.map enc_u32), .val (.bool x.a2.a2.den.neg), .sl 152 1 (x.a2.a2.den.gs.map enc_u32)]
def encA203 (x : A3 (Int)) : Dat := .agg [.val (.int .i64 x.a0), .val (.int .i64 x.a1), .val (.int .i64 x.a2)]
def encA204 (x : A3 (A3 (Int))) : Dat := .agg [.val (.int .i64 x.a0.a0), .val (.int .i64 x.a0.a1), .val (.int .i64 x.a0.a2), .val (.int .i64 x.a1.a0), .val (.int .i64 x.a1.a1), .val (.int .i64 x.a1.a2), .val (.int .i64 x.a2.a0), .val (.int .i64 x.a2.a1), .val (.int .i64 x.a2.a2)]
def encA228 (x : A4 (Int)) : Dat := .agg [.val (.int .i64 x.a0), .val (.int .i64 x.a1), .val (.int .i64 x.a2), .val (.int .i64 x.a3)]
structure RRp where
  left : RStn
  right : RStn
  base : A3 (RRat)
  axes : A3 (A3 (RRat))
def encRp (x : RRp) : Dat := .agg [.val (.int .i64 x.left.at_.x), .val (.int .i64 x.left.at_.y), .val (.int .i64 x.left.at_.z), .val (.int .i64 x.left.turn.a), .val (.int .i64 x.left.turn.b), .val (.int .i64 x.left.turn.c), .val (.int .i64 x.left.turn.d), .val (.int .i64 x.left.focal), .val (.int .i64 x.left.centre.x), .val (.int .i64 x.left.centre.y), .val (.int .i64 x.right.at_.x), .val (.int .i64 x.right.at_.y), .val (.int .i64 x.right.at_.z), .val (.int .i64 x.right.turn.a), .val (.int .i64 x.right.turn.b), .val (.int .i64 x.right.turn.c), .val (.int .i64 x.right.turn.d), .val (.int .i64 x.right.focal), .val (.int .i64 x.right.centre.x), .val (.int .i64 x.right.centre.y), .val (.bool x.base.a0.num.neg), .sl 152 1 (x.base.a0.num.gs.map enc_u32), .val (.bool x.base.a0.den.neg), .sl 152 1 (x.base.a0.den.gs.map enc_u32), .val (.bool x.base.a1.num.neg), .sl 152 1 (x.base.a1.num.gs.map enc_u32), .val (.bool x.base.a1.den.neg), .sl 152 1 (x.base.a1.den.gs.map enc_u32), .val (.bool x.base.a2.num.neg), .sl 152 1 (x.base.a2.num.gs.map enc_u32), .val (.bool x.base.a2.den.neg), .sl 152 1 (x.base.a2.den.gs.map enc_u32), .val (.bool x.axes.a0.a0.num.neg), .sl 152 1 (x.axes.a0.a0.num.gs.map enc_u32), .val (.bool x.axes.a0.a0.den.neg), .sl 152 1 (x.axes.a0.a0.den.gs.map enc_u32), .val (.bool x.axes.a0.a1.num.neg), .sl 152 1 (x.axes.a0.a1.num.gs.map enc_u32), .val (.bool x.axes.a0.a1.den.neg), .sl 152 1 (x.axes.a0.a1.den.gs.map enc_u32), .val (.bool x.axes.a0.a2.num.neg), .sl 152 1 (x.axes.a0.a2.num.gs.map enc_u32), .val (.bool x.axes.a0.a2.den.neg), .sl 152 1 (x.axes.a0.a2.den.gs.map enc_u32), .val (.bool x.axes.a1.a0.num.neg), .sl 152 1 (x.axes.a1.a0.num.gs.map enc_u32), .val (.bool x.axes.a1.a0.den.neg), .sl 152 1 (x.axes.a1.a0.den.gs.map enc_u32), .val (.bool x.axes.a1.a1.num.neg), .sl 152 1 (x.axes.a1.a1.num.gs.map enc_u32), .val (.bool x.axes.a1.a1.den.neg), .sl 152 1 (x.axes.a1.a1.den.gs.map enc_u32), .val (.bool x.axes.a1.a2.num.neg), .sl 152 1 (x.axes.a1.a2.num.gs.map enc_u32), .val (.bool x.axes.a1.a2.den.neg), .sl 152 1 (x.axes.a1.a2.den.gs.map enc_u32), .val (.bool x.axes.a2.a0.num.neg), .sl 152 1 (x.axes.a2.a0.num.gs.map enc_u32), .val (.bool x.axes.a2.a0.den.neg), .sl 152 1 (x.axes.a2.a0.den.gs.map enc_u32), .val (.bool x.axes.a2.a1.num.neg), .sl 152 1 (x.axes.a2.a1.num.gs.map enc_u32), .val (.bool x.axes.a2.a1.den.neg), .sl 152 1 (x.axes.a2.a1.den.gs.map enc_u32), .val (.bool x.axes.a2.a2.num.neg), .sl 152 1 (x.axes.a2.a2.num.gs.map enc_u32), .val (.bool x.axes.a2.a2.den.neg), .sl 152 1 (x.axes.a2.a2.den.gs.map enc_u32)]
structure RLp where
  s : RStereo
  base : A3 (RRat)
  e : A3 (A3 (RRat))
def enc_sl_52 (l : List (RRat)) : Dat := .sl 42 4 (l.map encR)
end Go.Proofs.YtbecgnplakngdaaGreat
namespace Go.Proofs.YtbecgnplakngdaaGreat
open Go.Fid
theorem mo : Tryz.prog.follows .mixedOrders = true := by kernel_rfl
end Go.Proofs.YtbecgnplakngdaaGreat
set_option linter.unusedVariables false
namespace Go.Fid
abbrev vi (z : Int) : SV := .d (.val (.int .i64 z))
abbrev vin (n : Nat) : SV := .d (.val (.int .i64 (n : Int)))
abbrev vqn (n : Nat) : SV := .d (.val (.int .u64 (n : Int)))
abbrev vwn (n : Nat) : SV := .d (.val (.int .u32 (n : Int)))
abbrev vb (b : Bool) : SV := .d (.val (.bool b))
abbrev vl {α : Type} (E z : Nat) (F : α → Dat) (L : List α) : SV := .d (.sl E z (L.map F))
abbrev bm {α : Type} (F : α → Dat) (L : List α) : List SV := L.map (fun g => SV.d (F g))
section
variable {P : Program} {n : Fr} {ops : Array Oper} {S S' : SL} {B B' : BS} {l : List Oper} {o : Oper} {news : List Nat} {acc0 : List (List Nat × List Nat)}
end
theorem fillL_all {s : Nat} : ∀ (ds : List Dat) (k : Nat) (a z : List Dat), a.length = k * s → z.length = ds.length * s → (∀ d ∈ ds, d.cells.length = s) →
    fillL (fun i => some (i * s, s)) (a ++ z) ((ds.zipIdx k).map fun p => (p.2, p.1.cells)) = some (a ++ flat ds)
  | [], k, a, z, ha, hz, _ => by
    have : z = [] := List.eq_nil_of_length_eq_zero (by simpa using hz)
    subst this; simp [fillL, flat]
  | d :: ds, k, a, z, ha, hz, hs => by
    have hd := hs d (by simp)
    have hz' : z.length = s + ds.length * s := by rw [hz, List.length_cons, Nat.add_mul]; omega
    rw [List.zipIdx_cons, List.map_cons]
    simp only [fillL]
    have h1 : (Nat.beq d.cells.length s && Nat.ble (k * s + d.cells.length) (a ++ z).length) = true := by
      rw [Bool.and_eq_true]
      refine ⟨by rw [hd]; exact Nat.beq_refl s, Nat.ble_eq_true_of_le ?_⟩
      rw [List.length_append, ha, hd]; omega
    rw [h1, cond_true]
    have h2 : patch (a ++ z) (k * s) d.cells = (a ++ d.cells) ++ z.drop s := by
      unfold patch
      rw [← ha, List.take_left, hd]
      congr 1
      rw [List.drop_append, List.drop_of_length_le (by omega), List.nil_append]
      congr 1; omega
    rw [h2, fillL_all ds (k + 1) (a ++ d.cells) (z.drop s) (by rw [List.length_append, ha, hd, Nat.add_mul]; omega) (by rw [List.length_drop]; omega) (fun x hx => hs x (by simp [hx])), flat_cons, List.append_assoc]
theorem e_bldF {P : Program} {o : Oper} {S : Nat → SV} {T E : TypeId} {n s : Nat} {ps : List (Nat × Operand)} {ds : List Dat} {zv : List Value} {zd : List Dat} {y : Dat} (ho : o.op = .build T ps.toArray) (hT : arrB P T = some (n, E, s)) (hz : zeroB P T = some zv) (hzd : ZOk zv zd)
    (hps : ps.map (fun p => (p.1, ev S p.2)) = ds.zipIdx.map (fun p => (p.2, .d p.1))) (hok : ds.all (fun d => d.ok1) = true) (hs : ds.all (fun d => Nat.beq d.cells.length s) = true) (hl : Nat.beq zd.length (ds.length * s) = true) (hy : Dat.agg (flat ds) = y) : EOk P o S [] (.d y) := by
  subst hy
  refine e_build_arr (pd := ds.zipIdx.map fun p => (p.2, p.1)) ho hT hz hzd (by rw [hps, List.map_map]; rfl) ?_ ?_
  · rw [List.all_eq_true] at hok ⊢
    intro p hp
    obtain ⟨q, hq, rfl⟩ := List.mem_map.1 hp
    exact hok _ (List.fst_mem_of_mem_zipIdx hq)
  · have := fillL_all ds 0 [] zd (by simp) (Nat.eq_of_beq_eq_true hl) (fun d hd => Nat.eq_of_beq_eq_true (List.all_eq_true.1 hs d hd))
    rw [List.map_map]
    rw [List.nil_append, List.nil_append] at this
    exact this
theorem pubs_cells {α : Type} {s : Nat} (F : α → Dat) (L : List α) (hF : ∀ g, (F g).cells.length = s) : ∀ e ∈ L.map F, e.cells.length = s := by
  intro e he
  obtain ⟨g, _, rfl⟩ := List.mem_map.1 he
  exact hF g
theorem pubs_take {α : Type} {s : Nat} (F : α → Dat) (L : List α) (hF : ∀ g, (F g).cells.length = s) {m : Nat} (h : L.length = m) : (bxs F L).take (m * s) = (flat (L.map F)).map .d := by
  refine List.take_of_length_le ?_
  rw [List.length_map, flat_maplen F hF, h]
  exact Nat.le_refl _
end Go.Fid
set_option linter.unusedVariables false
set_option linter.unusedSimpArgs false
namespace Go.Fid
open Go.RowKit (Below)
def PRounds (P : Program) (n : Fr) (c : Code) (Q : Exit → PS → Prop) : Nat → PS → Prop
  | 0, _ => False
  | m + 1, st => PWp P n c (PThen (PRounds P n c Q m) Q) st
theorem pwp_rounds {P : Program} {n : Fr} {c : Code} {Q : Exit → PS → Prop} {st : PS} (m : Nat) (h : PRounds P n c Q m st) : PWp P n (.loop c) Q st := fun C a w N hn hs => by
  refine wpIn_loop_rounds m ?_
  have key : ∀ m st a w, Sim C a w st → PRounds P n c Q m st → Code.roundsIn (fen n) N P c (fun e a' w' => ∃ st', Sim C a' w' st' ∧ Q e st') m a w := by
    intro m
    induction m with
    | zero => intro st a w _ h; exact h.elim
    | succ m ih =>
      intro st a w hs h
      refine wpIn_mono (h C a w N hn hs) fun e a' w' ⟨s, h1, h2⟩ => ?_
      cases e with
      | normal => exact ih s a' w' h1 h2
      | _ => exact ⟨s, h1, h2⟩
  exact key m st a w hs h
theorem pwp_round {P : Program} {n : Fr} {c : Code} {Q : Exit → PS → Prop} {st : PS} {m : Nat} (h : PWp P n c (PThen (PRounds P n c Q m) Q) st) : PRounds P n c Q (m + 1) st := h
theorem pwp_again {P : Program} {n : Fr} {c : Code} {Q : Exit → PS → Prop} {s st : PS} {m : Nat} (hw : SimImp s st) (h : PWp P n c (PThen (PRounds P n c Q m) Q) st) : PThen (PRounds P n c Q (m + 1)) Q .normal s :=
  show PWp P n c (PThen (PRounds P n c Q m) Q) s from fun C a w N hn hs => h C a w N hn (hw C a w hs)
section
variable {P : Program} {o : Oper} {S : Nat → SV}
theorem run_sliceArr {T E : TypeId} {n s : Nat} (hT : arrB P T = some (n, E, s)) (hn : 0 < n) (w : World) (b q : Nat) : (Instr.sliceAt T (.pointer (some ⟨b, q, none⟩)) none none none).run P w = .ok (.slice (some ⟨b, q, none⟩) n n) w := by
  obtain ⟨j, e1, e2, e3⟩ := arr_of hT
  have hne : ¬ n = 0 := by omega
  simp [Instr.sliceAt, run_underlying e1, Instr.sliceBounds, run_sizeOf e2, Instr.sureAddr, Addr.add_lit, hne]
theorem e_slv {T E : TypeId} {x : Operand} {k q n s : Nat} (ho : o.op = .slice T x none none none) (hT : arrB P T = some (n, E, s)) (hx : ev S x = .ref k q) (hn : Nat.blt 0 n = true) (hm : Nat.ble n maxLen = true) : EOk P o S [] (.view k q n) :=
  EOk.same fun a w D β hop _ => by
    have hp := hop x (by simp [ho, Op.operands])
    rw [hx] at hp
    obtain ⟨b, h1, h2⟩ := hp
    have hn' : 0 < n := Nat.le_of_ble_eq_true hn
    refine ⟨.slice (some ⟨b, q, none⟩) n n, ?_, b, n, h1, rfl, Nat.le_refl _, Nat.le_of_ble_eq_true hm⟩
    simp [execOp, ho, h2, run_sliceArr hT hn']
theorem e_nckr {x : Operand} {k q : Nat} (ho : o.op = .nilCheck x) (hx : ev S x = .ref k q) : EOk P o S [] (.ref k q) :=
  EOk.same fun a' w D β hop _ => by
    have hp := hop x (by simp [ho, Op.operands])
    rw [hx] at hp
    obtain ⟨b, h1, h2⟩ := hp
    exact ⟨.pointer (some ⟨b, q, none⟩), by simp [execOp, ho, h2], b, h1, rfl⟩
theorem e_ixa {T E : TypeId} {x ix : Operand} {n s sz : Nat} {agg : Bool} {k : IntKind} {i : Int} {j : Nat} {cs : List Dat} {y : SV} (ho : o.op = .index T x ix) (hx : ev S x = .d (.agg cs)) (hT : arrB P T = some (n, E, s)) (hs : shapeB P E = some (agg, sz)) (h1 : agg = false → sz = 1)
    (hi : ev S ix = .d (.val (.int k i))) (hj : i = (j : Int)) (hn : Nat.blt j n = true) (hle : Nat.ble (j * s + sz) cs.length = true) (hy : gather agg (((cs.drop (j * s)).take sz).map .d) = y) : EOk P o S [] y := by
  subst hj
  have hn' : j < n := Nat.le_of_ble_eq_true hn
  have h := e_index_arr (P := P) (i := (j : Int)) (k := k) ho hx hT hs h1 hi (by omega) (by omega) (by simpa using Nat.le_of_ble_eq_true hle)
  rw [show ((j : Int)).toNat = j from rfl] at h
  exact hy ▸ h
inductive Avoids (E : TypeId) : Dat → Prop
  | val (v : Value) : Avoids E (.val v)
  | sl {t : TypeId} {s : Nat} {es : List Dat} (h : t ≠ E) (hs : ∀ (i : Nat) d, (flat es)[i]? = some d → Avoids E d) : Avoids E (.sl t s es)
  | agg {cs : List Dat} (hs : ∀ (i : Nat) d, cs[i]? = some d → Avoids E d) : Avoids E (.agg cs)
  | tup {cs : List Dat} (hs : ∀ (i : Nat) d, cs[i]? = some d → Avoids E d) : Avoids E (.tup cs)
  | cptr {t : TypeId} {cs : List Dat} {off : Nat} (h : t ≠ E) (hs : ∀ (i : Nat) d, cs[i]? = some d → Avoids E d) : Avoids E (.cptr t cs off)
theorem avo_nil {E : TypeId} : ∀ (i : Nat) d, ([] : List Dat)[i]? = some d → Avoids E d := fun i d h => by simp at h
theorem avo_cons {E : TypeId} {x : Dat} {l : List Dat} (h : Avoids E x) (hl : ∀ (i : Nat) d, l[i]? = some d → Avoids E d) : ∀ (i : Nat) d, (x :: l)[i]? = some d → Avoids E d := fun i d hd => by
  rcases i with _ | i
  · simp at hd; subst hd; exact h
  · exact hl i d (by simpa using hd)
theorem avo_vals {α : Type} {E t : TypeId} {s : Nat} {F : α → Value} (h : t ≠ E) (l : List α) : Avoids E (.sl t s (l.map fun x => Dat.val (F x))) :=
  .sl h (fun i d hd => by
    have : d ∈ flat (l.map fun x => Dat.val (F x)) := List.mem_of_getElem? hd
    simp only [flat, List.mem_flatMap, List.mem_map] at this
    obtain ⟨x, ⟨y, _, rfl⟩, hx⟩ := this
    simp only [Dat.cells, List.mem_singleton] at hx
    subst hx; exact .val _)
theorem Avoids.rep {E : TypeId} {w : World} {D D' : DSet} (hk : ∀ t g o, t ≠ E → D t g o → D' t g o) {v : Value} {r : Dat} (ha : Avoids E r) (h : Rep w D v r) : Rep w D' v r := by
  induction h with
  | val v => exact .val v
  | sl g off u hn hc hm hs hao hD hu h1 hr ih =>
    cases ha with
    | sl hne has => exact .sl g off u hn hc hm hs hao (fun i hi => hk _ _ _ hne (hD i hi)) hu h1 (fun i d hd => ih i d hd (has i d hd))
  | agg vs hl h1 hr ih =>
    cases ha with
    | agg has => exact .agg vs hl h1 (fun i v d hv hd => ih i v d hv hd (has i d hd))
  | tup vs hl hr ih =>
    cases ha with
    | tup has => exact .tup vs hl (fun i v d hv hd => ih i v d hv hd (has i d hd))
  | cptr g o u hD hu h1 hr ih =>
    cases ha with
    | cptr hne has => exact .cptr g o u (fun i hi => hk _ _ _ hne (hD i hi)) hu h1 (fun i d hd => ih i d hd (has i d hd))
inductive ViewArgs (k : Nat) (E : TypeId) (s q m : Nat) (es : List Dat) : List SV → List Dat → Prop
  | nil : ViewArgs k E s q m es [] []
  | d {x : Dat} {zs : List SV} {ds : List Dat} (h : ViewArgs k E s q m es zs ds) : ViewArgs k E s q m es (.d x :: zs) (x :: ds)
  | v {zs : List SV} {ds : List Dat} (h : ViewArgs k E s q m es zs ds) : ViewArgs k E s q m es (.view k q m :: zs) (.sl E s es :: ds)
theorem ViewArgs.len {k E s q m : Nat} {es : List Dat} {zs : List SV} {ds : List Dat} (h : ViewArgs k E s q m es zs ds) : zs.length = ds.length := by
  induction h with
  | nil => rfl
  | d h ih => simp [ih]
  | v h ih => simp [ih]
theorem ViewArgs.rep {k E s q m : Nat} {es : List Dat} {w : World} {D D' : DSet} {β : BMap} (h1 : ∀ v x, Rep w D v x → Rep w D' v x) (h2 : ∀ v, RepS w D β v (.view k q m) → Rep w D' v (.sl E s es)) {zs : List SV} {ds : List Dat} (h : ViewArgs k E s q m es zs ds) :
    ∀ {vs : List Value}, vs.length = zs.length → (∀ (i : Nat) v x, vs[i]? = some v → zs[i]? = some x → RepS w D β v x) → ∀ (i : Nat) v d, vs[i]? = some v → ds[i]? = some d → Rep w D' v d := by
  induction h with
  | nil => intro vs _ _ i v d _ hd; simp at hd
  | d h ih =>
    intro vs hl hr i v d' hv hd
    rcases vs with _ | ⟨v0, vs⟩
    · simp at hl
    · rcases i with _ | i
      · simp at hv hd; subst hv; subst hd; exact h1 _ _ (hr 0 _ _ rfl rfl)
      · exact ih (by simpa using hl) (fun i v x h3 h4 => hr (i + 1) v x (by simpa using h3) (by simpa using h4)) i v d' (by simpa using hv) (by simpa using hd)
  | v h ih =>
    intro vs hl hr i v d' hv hd
    rcases vs with _ | ⟨v0, vs⟩
    · simp at hl
    · rcases i with _ | i
      · simp at hv hd; subst hv; subst hd; exact h2 _ (hr 0 _ _ rfl rfl)
      · exact ih (by simpa using hl) (fun i v x h3 h4 => hr (i + 1) v x (by simpa using h3) (by simpa using h4)) i v d' (by simpa using hv) (by simpa using hd)
theorem e_clv {y : Operand} {xs : List Operand} {ats : Array TypeId} {f : FuncId} {ds es : List Dat} {r : Dat} {zs : List SV} {cs : List SV} {k E s q m : Nat} (hf : Takes P f ds r) (ho : o.op = .call { callee := .value y, args := xs.toArray, argTypes := ats }) (hy : ev S y = .d (.val (.func (.func f) #[] #[])))
    (hx : xs.map (ev S) = zs) (hz : ViewArgs k E s q m es zs ds) (hes : ∀ e ∈ es, e.cells.length = s) (hl : es.length = m) (hc : (cs.drop q).take (m * s) = (flat es).map .d) (ha : Avoids E r) : EOk P o S [(k, cs)] (.d r) :=
  fun a w D β Q hop hrd hD => by
    have hyv := hop y (by simp [ho, Op.operands, Call.operands])
    rw [hy] at hyv
    have hyv' := rep_val hyv
    have hrep : ∀ (i : Nat) v x, (xs.map a.eval)[i]? = some v → zs[i]? = some x → RepS w D β v x := fun i v x hv hz' => by
      rw [List.getElem?_map, Option.map_eq_some_iff] at hv
      obtain ⟨p, hqi, rfl⟩ := hv
      have hm := hop p (by simp [ho, Op.operands, Call.operands, List.mem_of_getElem? hqi])
      have hi := congrArg (fun l : List SV => l[i]?) hx
      simp only [List.getElem?_map, hqi, hz', Option.map_some, Option.some.injEq] at hi
      rw [hi] at hm
      exact hm
    have hlen : (xs.map a.eval).length = zs.length := by rw [← hx]; simp
    have hrun : (execOp a.eval o).run P w = .ok (.enter f (xs.map a.eval).toArray) w := by
      simp only [execOp, ho, resolve, Deferred.ofValue, hyv', Sem.run_bind, Sem.run_pure, Result.andThen_ok, invoke, Array.empty_append, Array.append_empty]
      rw [run_callFunc hf.may]
      simp
    have hfl := flat_length hes
    have hblk := hrd (k, cs) (by simp)
    have key : ∃ (D' : DSet) (X : TypeId → Nat → Nat → Prop), DOk D' w ∧ (∀ t g i, D' t g i ↔ D t g i ∨ X t g i) ∧ (∀ t g i, X t g i → t = E ∧ ∀ t' i', ¬ D t' g i') ∧ (∀ v x, Rep w D v x → Rep w D' v x) ∧ (∀ v, RepS w D β v (.view k q m) → Rep w D' v (.sl E s es)) := by
      rcases hblk with ⟨g1, hcs⟩ | ⟨b, vs, T', g1, g2, g3, g4, g5⟩
      · refine ⟨D, fun _ _ _ => False, hD, fun t g i => by simp, fun _ _ _ h => h.elim, fun _ _ h => h, fun v hv => ?_⟩
        obtain ⟨b, cap, h1, _⟩ := hv
        rw [h1] at g1; cases g1
      · have hmono : ∀ t' g i, D t' g i → (D t' g i ∨ (t' = E ∧ g = b)) ∧ w.cell? ⟨g, i, none⟩ = w.cell? ⟨g, i, none⟩ := fun t' g i hd => ⟨.inl hd, rfl⟩
        refine ⟨fun t' g i => D t' g i ∨ (t' = E ∧ g = b), fun t' g i => t' = E ∧ g = b, fun t' g i hd => ?_, fun _ _ _ => Iff.rfl, fun t g i h => ⟨h.1, fun t' i' hd => g5 t' i' (h.2 ▸ hd)⟩, fun v x hr => Rep.mono hmono hr, fun v hv => ?_⟩
        · rcases hd with hd | ⟨_, e⟩
          · exact hD _ _ _ hd
          · subst e; exact heap_lt g2
        · obtain ⟨b2, cap, h1, h2, h5, h6⟩ := hv
          obtain rfl : b = b2 := by rw [h1] at g1; injection g1 with g1; exact g1.symm
          rw [h2]
          have key : ∀ (i : Nat) d, (flat es)[i]? = some d → ∃ u, vs[q + i]? = some u ∧ u.oneCell' = true ∧ Rep w D u d := fun i d hd => by
            have hi : i < m * s := by
              have := (List.getElem?_eq_some_iff.1 hd).1
              rw [hfl, hl] at this; exact this
            have e1 : cs[q + i]? = some (.d d) := by
              have : ((cs.drop q).take (m * s))[i]? = some (.d d) := by rw [hc]; simp [hd]
              rw [List.getElem?_take_of_lt hi, List.getElem?_drop] at this
              exact this
            exact g4 _ _ e1
          have hcell : ∀ i, w.cell? ⟨b, i, none⟩ = vs[i]? := fun i => cell_of_row w b i vs T' (0, 0) g2
          refine Rep.sl b q (fun i => vs.getD (q + i) undef) hl.symm h5 h6 hes (fun _ => rfl) (fun i hi => .inr ⟨rfl, rfl⟩) (fun i hi => ?_) (fun i hi => ?_) (fun i d hd => ?_)
          · obtain ⟨x, q1, q2, q3⟩ := key i _ (List.getElem?_eq_getElem hi)
            rw [hcell, Array.getD_eq_getD_getElem?, q1]; rfl
          · obtain ⟨x, q1, q2, q3⟩ := key i _ (List.getElem?_eq_getElem hi)
            rw [Array.getD_eq_getD_getElem?, q1]; exact q2
          · obtain ⟨x, q1, q2, q3⟩ := key i d hd
            rw [Array.getD_eq_getD_getElem?, q1]
            exact Rep.mono hmono q3
    obtain ⟨D', X, hD', hX, hXp, hm1, hm2⟩ := key
    have hargs : Args w D' (xs.map a.eval) ds := ⟨hlen.trans hz.len, hz.rep hm1 hm2 hlen hrep⟩
    refine wp_enter hrun ((hf.run w D' _ hD' hargs).mono fun e w' h => ?_)
    obtain ⟨v, D2, he, h1, h2, h3⟩ := h
    refine ⟨v, he, v, fun t g i => D2 t g i ∧ ¬ X t g i, rfl, h1, ⟨fun t g i hd => ⟨h2.up _ _ _ ((hX t g i).2 (.inl hd)), fun hx' => (hXp t g i hx').2 t i hd⟩, fun t g i hd => ?_⟩, ?_⟩
    · rcases h2.new t g i hd.1 with h | h
      · rcases (hX t g i).1 h with h | h
        · exact .inl h
        · exact absurd h hd.2
      · exact .inr h
    · exact ha.rep (fun t g i hne hd => ⟨hd, fun hx' => hne (hXp t g i hx').1⟩) h3
end
end Go.Fid
set_option linter.unusedVariables false
set_option linter.unusedSimpArgs false
namespace Go.Fid
def up : SL → SL → SL
  | [], S => S
  | p :: D, S => p :: up D S
def upB : BS → BS → BS
  | [], S => S
  | p :: D, S => p :: upB D S
def inS (D : SL) (t : Nat) : Bool := D.any fun p => Nat.beq p.1 t
def inB (D : BS) (t : Nat) : Bool := D.any fun p => Nat.beq p.1 t
def isJ : SV → Bool
  | .junk => true
  | _ => false
theorem isJ_eq {x : SV} (h : isJ x = true) : x = .junk := by cases x <;> first | rfl | cases h
theorem sget_up (D S : SL) (t : Nat) : sget (up D S) t = bif inS D t then sget D t else sget S t := by
  induction D with
  | nil => rfl
  | cons p D ih =>
    obtain ⟨j, x⟩ := p
    show sget ((j, x) :: up D S) t = bif (Nat.beq j t || inS D t) then _ else _
    rw [sget_cons, sget_cons, ih]
    by_cases h : j = t
    · subst h; simp
    · have : Nat.beq j t = false := by rw [← Bool.not_eq_true]; exact fun e => h (Nat.eq_of_beq_eq_true e)
      rw [if_neg h, if_neg h, this, Bool.false_or]
theorem bget_up (D S : BS) (t : Nat) : bget (upB D S) t = bif inB D t then bget D t else bget S t := by
  induction D with
  | nil => rfl
  | cons p D ih =>
    obtain ⟨j, x⟩ := p
    show bget ((j, x) :: upB D S) t = bif (Nat.beq j t || inB D t) then _ else _
    rw [bget_cons, bget_cons, ih]
    by_cases h : j = t
    · subst h; simp
    · have : Nat.beq j t = false := by rw [← Bool.not_eq_true]; exact fun e => h (Nat.eq_of_beq_eq_true e)
      rw [if_neg h, if_neg h, this, Bool.false_or]
theorem sget_out {D : SL} {t : Nat} (h : inS D t = false) : sget D t = .junk := by
  induction D with
  | nil => rfl
  | cons p D ih =>
    obtain ⟨j, x⟩ := p
    simp only [inS, List.any_cons, Bool.or_eq_false_iff] at h
    rw [sget_cons, if_neg (fun e => by subst e; simp at h), ih h.2]
theorem up_app (W S : SL) : up W S = W ++ S := by
  induction W with
  | nil => rfl
  | cons p W ih => show p :: up W S = p :: (W ++ S); rw [ih]
theorem upB_app (W S : BS) : upB W S = W ++ S := by
  induction W with
  | nil => rfl
  | cons p W ih => show p :: upB W S = p :: (W ++ S); rw [ih]
structure FinS (S0 D Sf : SL) : Prop where
  d : D.map (fun p => sget Sf p.1) = D.map (·.2)
  k : Sf.drop (Sf.length - S0.length) = S0
  j : ((Sf.take (Sf.length - S0.length)).all fun p => inS D p.1 || isJ (sget S0 p.1)) = true
structure FinB (B0 E Bf : BS) : Prop where
  d : (E.filter fun p => p.2.isSome).map (fun p => bget Bf p.1) = (E.filter fun p => p.2.isSome).map (·.2)
  k : Bf.drop (Bf.length - B0.length) = B0
  j : ((Bf.take (Bf.length - B0.length)).all fun p => inB E p.1) = true
structure FinF (S0 D Sf : SL) : Prop where
  d : D.map (fun p => sget Sf p.1) = D.map (·.2)
  j : ((S0.filter fun p => !inS D p.1).map fun p => sget S0 p.1) = ((S0.filter fun p => !inS D p.1).map fun p => sget Sf p.1)
theorem FinS.get {S0 D Sf : SL} (h : FinS S0 D Sf) (t : Nat) : sget (up D S0) t = .junk ∨ sget (up D S0) t = sget Sf t := by
  rw [sget_up]
  cases hD : inS D t with
  | true => exact sget_eq_or h.d t
  | false =>
    rw [cond_false]
    have e : Sf = up (Sf.take (Sf.length - S0.length)) S0 := by rw [up_app]; conv => lhs; rw [← List.take_append_drop (Sf.length - S0.length) Sf, h.k]
    cases hW : inS (Sf.take (Sf.length - S0.length)) t with
    | false => right; conv => rhs; rw [e, sget_up, hW, cond_false]
    | true =>
      left
      simp only [inS, List.any_eq_true] at hW
      obtain ⟨p, hp, hpt⟩ := hW
      have := List.all_eq_true.1 h.j p hp
      rw [Nat.eq_of_beq_eq_true hpt, hD, Bool.false_or] at this
      exact isJ_eq this
theorem FinF.get {S0 D Sf : SL} (h : FinF S0 D Sf) (t : Nat) : sget (up D S0) t = .junk ∨ sget (up D S0) t = sget Sf t := by
  rw [sget_up]
  cases hD : inS D t with
  | true => exact sget_eq_or h.d t
  | false =>
    rw [cond_false]
    cases hS : inS S0 t with
    | false => left; exact sget_out hS
    | true =>
      right
      simp only [inS, List.any_eq_true] at hS
      obtain ⟨p, hp, hpt⟩ := hS
      have hpt := Nat.eq_of_beq_eq_true hpt
      subst hpt
      exact List.map_inj_left.1 h.j p (List.mem_filter.2 ⟨hp, by rw [hD]; rfl⟩)
theorem FinB.get {B0 E Bf : BS} (h : FinB B0 E Bf) {k : Nat} {c : List SV} (hc : bget (upB E B0) k = some c) : bget Bf k = some c := by
  rw [bget_up] at hc
  cases hD : inB E k with
  | true =>
    rw [hD, cond_true] at hc
    exact List.map_inj_left.1 h.d (k, some c) (List.mem_filter.2 ⟨bget_mem hc, rfl⟩)
  | false =>
    rw [hD, cond_false] at hc
    have e : Bf = upB (Bf.take (Bf.length - B0.length)) B0 := by rw [upB_app]; conv => lhs; rw [← List.take_append_drop (Bf.length - B0.length) Bf, h.k]
    cases hW : inB (Bf.take (Bf.length - B0.length)) k with
    | false => rw [e, bget_up, hW, cond_false]; exact hc
    | true =>
      simp only [inB, List.any_eq_true] at hW
      obtain ⟨p, hp, hpt⟩ := hW
      have := List.all_eq_true.1 h.j p hp
      rw [Nat.eq_of_beq_eq_true hpt, hD] at this
      cases this
theorem sim_get {S B S' B'} (h1 : ∀ t, sget S' t = .junk ∨ sget S' t = sget S t) (h2 : ∀ k c, bget B' k = some c → bget B k = some c) : SimImp ⟨S, B⟩ ⟨S', B'⟩ := fun C a w ⟨D, β, hs⟩ =>
  ⟨D, β, hs.base, ⟨fun k cs hk => hs.mem.ok k cs (h2 _ _ hk), fun k1 k2 c1 c2 q1 q2 => hs.mem.inj k1 k2 c1 c2 (h2 _ _ q1) (h2 _ _ q2)⟩, fun k c hk => hs.high k c (h2 _ _ hk), fun t => by
    rcases h1 t with h | h
    · show RepS w D β _ (sget S' t)
      rw [h]; trivial
    · show RepS w D β _ (sget S' t)
      rw [h]; exact hs.slots t⟩
theorem wk {st : PS} {l : SL} {b : BS} (h1 : l.map (fun p => sget st.sl p.1) = l.map (·.2) := by kernel_rfl) (h2 : b.map (fun p => bget st.bs p.1) = b.map (·.2) := by kernel_rfl) : SimImp st ⟨l, b⟩ := weak h1 h2
def SK (P : Program) (n : Fr) (ops : Array Oper) (K : SL → BS → Prop) (S : SL) (B : BS) (l : List Oper) : Prop := ∃ st1, Steps P n ops ⟨S, B⟩ l st1 ∧ K st1.sl st1.bs
def DK (P : Program) (n : Fr) (ops : Array Oper) (K : SL → BS → Prop) (news : List Nat) (acc0 : List (List Nat × List Nat)) (S : SL) (B : BS) (l : List Oper) : Prop :=
  ∃ st1 acc, DSteps P n ops news ⟨S, B⟩ l acc st1 ∧ orderB ops (acc0 ++ acc) = true ∧ K st1.sl st1.bs
def KS (S0 : SL) (B0 : BS) (D : SL) (E : BS) (Sf : SL) (Bf : BS) : Prop := FinS S0 D Sf ∧ FinB B0 E Bf
def KF (S0 : SL) (B0 : BS) (D : SL) (E : BS) (Sf : SL) (Bf : BS) : Prop := FinF S0 D Sf ∧ FinB B0 E Bf
def dO (o : Oper) : Tmp := o.dst.getD 0
def goK (n : Fr) (ops : Array Oper) (S : SL) (o : Oper) : Bool := match o.dst with
  | some d => match guardSt ops S o with
    | some true => dstB n (some d)
    | _ => false
  | none => false
theorem goK_spec {n : Fr} {ops : Array Oper} {S : SL} {o : Oper} (h : goK n ops S o = true) : o.dst = some (dO o) ∧ guardSt ops S o = some true ∧ dstB n (some (dO o)) = true := by
  unfold goK at h
  unfold dO
  split at h
  · rename_i d hd
    split at h
    · rename_i hg; rw [hd]; exact ⟨rfl, hg, h⟩
    · cases h
  · cases h
def goF (n : Fr) (ops : Array Oper) (S : SL) (o : Oper) : Bool := match o.dst with
  | some d => match guardSt ops S o with
    | some false => dstB n (some d)
    | _ => false
  | none => false
theorem goF_spec {n : Fr} {ops : Array Oper} {S : SL} {o : Oper} (h : goF n ops S o = true) : o.dst = some (dO o) ∧ guardSt ops S o = some false ∧ dstB n (some (dO o)) = true := by
  unfold goF at h
  unfold dO
  split at h
  · rename_i d hd
    split at h
    · rename_i hg; rw [hd]; exact ⟨rfl, hg, h⟩
    · cases h
  · cases h
def goT (ops : Array Oper) (S : SL) (o : Oper) : Bool := match o.dst with
  | some _ => false
  | none => match guardSt ops S o with
    | some true => true
    | _ => false
theorem goT_spec {ops : Array Oper} {S : SL} {o : Oper} (h : goT ops S o = true) : o.dst = none ∧ guardSt ops S o = some true := by
  unfold goT at h
  split at h
  · cases h
  · rename_i hd
    split at h
    · rename_i hg; exact ⟨hd, hg⟩
    · cases h
def mvV (S : SL) (o : Oper) : SV := match o.op with
  | .move x => ev (sget S) x
  | .assign x => ev (sget S) x
  | _ => .junk
def mvK (o : Oper) : Bool := match o.op with
  | .move _ => true
  | .assign _ => true
  | _ => false
def ROk (P : Program) (o : Oper) (S : SL) (B : BS) (k : Nat) (x : SV) : Prop := ∃ cs, EOk P o (sget S) [(k, cs)] x ∧ bget B k = some cs
def TK (P : Program) (o : Oper) (S : SL) (B : BS) (k : Nat) (cs : List SV) : Prop := ∃ old, TOk P o (sget S) k old cs ∧ bget B k = some old
section
variable {P : Program} {n : Fr} {ops : Array Oper} {K : SL → BS → Prop} {S : SL} {B : BS} {l : List Oper} {o : Oper} {news : List Nat} {acc0 : List (List Nat × List Nat)}
theorem mv_ok (h : mvK o = true) : EOk P o (sget S) [] (mvV S o) := by
  unfold mvK at h
  unfold mvV
  split at h
  · rename_i x hx; exact e_move (.inl hx)
  · rename_i x hx; exact e_move (.inr hx)
  · cases h
theorem zE {x : SV} (h : EOk P o (sget S) [] x) (r : SK P n ops K ((dO o, x) :: S) B l) (g : goK n ops S o = true := by kernel_rfl) : SK P n ops K S B (o :: l) := by
  obtain ⟨st1, r1, r2⟩ := r
  obtain ⟨hd, hg, hb⟩ := goK_spec g
  have hs := Step.e (P := P) (n := n) (ops := ops) (st := ⟨S, B⟩) (o := o) h hg (by rw [hd]; exact hb) (by simp)
  rw [hd] at hs
  exact ⟨st1, .cons hs r1, r2⟩
theorem zM (r : SK P n ops K ((dO o, mvV S o) :: S) B l) (h : mvK o = true := by kernel_rfl) (g : goK n ops S o = true := by kernel_rfl) : SK P n ops K S B (o :: l) := zE (mv_ok h) r g
theorem zR {k : Nat} {x : SV} (h : ROk P o S B k x) (r : SK P n ops K ((dO o, x) :: S) B l) (g : goK n ops S o = true := by kernel_rfl) : SK P n ops K S B (o :: l) := by
  obtain ⟨st1, r1, r2⟩ := r
  obtain ⟨cs, h, hbk⟩ := h
  obtain ⟨hd, hg, hb⟩ := goK_spec g
  have hs := Step.e (P := P) (n := n) (ops := ops) (st := ⟨S, B⟩) (o := o) h hg (by rw [hd]; exact hb) (by simpa using hbk)
  rw [hd] at hs
  exact ⟨st1, .cons hs r1, r2⟩
theorem zN {k : Nat} {cs : List SV} {x : SV} (h : NOk P o (sget S) k cs x) (r : SK P n ops K ((dO o, x) :: S) ((k, some cs) :: B) l) (g : goK n ops S o = true := by kernel_rfl) (hf : freshB k ⟨S, B⟩ = true := by kernel_rfl) : SK P n ops K S B (o :: l) := by
  obtain ⟨st1, r1, r2⟩ := r
  obtain ⟨hd, hg, hb⟩ := goK_spec g
  have hs := Step.n (P := P) (n := n) (ops := ops) (st := ⟨S, B⟩) (o := o) h hg (by rw [hd]; exact hb) hf
  rw [hd] at hs
  exact ⟨st1, .cons hs r1, r2⟩
theorem zH {k : Nat} {cs : List SV} {x : SV} (h : NOk P o (sget S) k cs x) (r : SK P n ops K ((dO o, x) :: S) ((k, some cs) :: B) l) (g : goK n ops S o = true := by kernel_rfl) (h1 : (S.all fun p => !p.2.names k) = true := by kernel_rfl)
    (h2 : FrB k B := by repeat first | exact frb_nil _ | refine frb_map rfl ?_ | refine frb_d rfl ?_ | refine frb_cs rfl rfl ?_ | refine frb_none rfl ?_) : SK P n ops K S B (o :: l) := zN h r g (freshB_of h1 h2)
theorem zT {k : Nat} {cs : List SV} (h : TK P o S B k cs) (r : SK P n ops K S ((k, some cs) :: B) l) (g : goT ops S o = true := by kernel_rfl) : SK P n ops K S B (o :: l) := by
  obtain ⟨st1, r1, r2⟩ := r
  obtain ⟨old, h, hb⟩ := h
  obtain ⟨hd, hg⟩ := goT_spec g
  have hs := Step.t (P := P) (n := n) (ops := ops) (st := ⟨S, B⟩) (o := o) h hg (by rw [hd]; rfl) hb
  rw [hd] at hs
  exact ⟨st1, .cons hs r1, r2⟩
theorem zK (r : SK P n ops K ((dO o, .d (.tup [])) :: S) B l) (g : goF n ops S o = true := by kernel_rfl) : SK P n ops K S B (o :: l) := by
  obtain ⟨st1, r1, r2⟩ := r
  obtain ⟨hd, hg, hb⟩ := goF_spec g
  have hs := Step.skip (P := P) (n := n) (ops := ops) (st := ⟨S, B⟩) (o := o) hg (by rw [hd]; exact hb)
  rw [hd] at hs
  exact ⟨st1, .cons hs r1, r2⟩
theorem zX {S1 : SL} {B1 : BS} (h : ∀ (C : Ctx) (a : Act) (w : World) (Q : Exit → Act → World → Prop), C.n = n → Sim C a w ⟨S, B⟩ → o.wp P a w (fun a' w' => Sim C a' w' ⟨S1, B1⟩) Q) (hg : guardSt ops S o = some true) (r : SK P n ops K S1 B1 l) : SK P n ops K S B (o :: l) := by
  obtain ⟨st1, r1, r2⟩ := r
  exact ⟨st1, .cons (.sem h hg) r1, r2⟩
section
variable {S0 : SL} {B0 : BS} {D : SL} {E : BS}
theorem zZ (h1 : D.map (fun p => sget S p.1) = D.map (·.2) := by kernel_rfl) (h2 : S.drop (S.length - S0.length) = S0 := by kernel_rfl) (h3 : ((S.take (S.length - S0.length)).all fun p => inS D p.1 || isJ (sget S0 p.1)) = true := by kernel_rfl)
    (h4 : (E.filter fun p => p.2.isSome).map (fun p => bget B p.1) = (E.filter fun p => p.2.isSome).map (·.2) := by kernel_rfl) (h5 : B.drop (B.length - B0.length) = B0 := by kernel_rfl) (h6 : ((B.take (B.length - B0.length)).all fun p => inB E p.1) = true := by kernel_rfl) : SK P n ops (KS S0 B0 D E) S B [] :=
  ⟨⟨S, B⟩, .nil, ⟨h1, h2, h3⟩, ⟨h4, h5, h6⟩⟩
theorem zF (h1 : D.map (fun p => sget S p.1) = D.map (·.2) := by kernel_rfl) (h2 : ((S0.filter fun p => !inS D p.1).map fun p => sget S0 p.1) = ((S0.filter fun p => !inS D p.1).map fun p => sget S p.1) := by kernel_rfl)
    (h4 : (E.filter fun p => p.2.isSome).map (fun p => bget B p.1) = (E.filter fun p => p.2.isSome).map (·.2) := by kernel_rfl) (h5 : B.drop (B.length - B0.length) = B0 := by kernel_rfl) (h6 : ((B.take (B.length - B0.length)).all fun p => inB E p.1) = true := by kernel_rfl) : SK P n ops (KF S0 B0 D E) S B [] :=
  ⟨⟨S, B⟩, .nil, ⟨h1, h2⟩, ⟨h4, h5, h6⟩⟩
theorem wZ (h1 : D.map (fun p => sget S p.1) = D.map (·.2) := by kernel_rfl) (h2 : S.drop (S.length - S0.length) = S0 := by kernel_rfl) (h3 : ((S.take (S.length - S0.length)).all fun p => inS D p.1 || isJ (sget S0 p.1)) = true := by kernel_rfl)
    (h4 : (E.filter fun p => p.2.isSome).map (fun p => bget B p.1) = (E.filter fun p => p.2.isSome).map (·.2) := by kernel_rfl) (h5 : B.drop (B.length - B0.length) = B0 := by kernel_rfl) (h6 : ((B.take (B.length - B0.length)).all fun p => inB E p.1) = true := by kernel_rfl) (h7 : orderB ops acc0 = true := by kernel_rfl) : DK P n ops (KS S0 B0 D E) news acc0 S B [] :=
  ⟨⟨S, B⟩, [], .nil, by simpa using h7, ⟨h1, h2, h3⟩, ⟨h4, h5, h6⟩⟩
theorem kx {id : Nat} {Q : Exit → PS → Prop} (D : SL) (E : BS) (h : SK P n l.toArray (KS S0 B0 D E) S0 B0 l) (hq : Q .normal ⟨up D S0, upB E B0⟩) (hp : l.all plainB = true := by kernel_rfl) : PWp P n (.region id l.toArray false) Q ⟨S0, B0⟩ := fun C a w N hn hs => by
  obtain ⟨st1, h1, h2, h3⟩ := h
  subst hn
  exact wpIn_region_lit (steps_sound (C := C) h1 hp rfl (fun a' w' hs' => ⟨_, sim_get h2.get (fun k c => h3.get) C a' w' hs', hq⟩) hs)
theorem kf {id : Nat} {Q : Exit → PS → Prop} (D : SL) (E : BS) (h : SK P n l.toArray (KF S0 B0 D E) S0 B0 l) (hq : Q .normal ⟨up D S0, upB E B0⟩) (hp : l.all plainB = true := by kernel_rfl) : PWp P n (.region id l.toArray false) Q ⟨S0, B0⟩ := fun C a w N hn hs => by
  obtain ⟨st1, h1, h2, h3⟩ := h
  subst hn
  exact wpIn_region_lit (steps_sound (C := C) h1 hp rfl (fun a' w' hs' => ⟨_, sim_get h2.get (fun k c => h3.get) C a' w' hs', hq⟩) hs)
theorem kd {id : Nat} {Q : Exit → PS → Prop} (D : SL) (E : BS) (hm : P.follows .mixedOrders = true) (h : DK P n l.toArray (KS S0 B0 D E) [] [] S0 B0 l) (hq : Q .normal ⟨up D S0, upB E B0⟩) (hb : backB l.toArray = true := by kernel_rfl) (hp : l.all plainB = true := by kernel_rfl) : PWp P n (.region id l.toArray true) Q ⟨S0, B0⟩ := fun C a w N hn hs => by
  obtain ⟨st1, acc, h1, h0, h2, h3⟩ := h
  subst hn
  exact wpIn_region_any hm (draw_sound (C := C) rfl (by simpa using h1) (by simpa using h0) hb (by simpa using hp) (fun a' w' hs' => ⟨_, sim_get h2.get (fun k c => h3.get) C a' w' hs', hq⟩) hs)
end
theorem wE {x : SV} (h : EOk P o (sget S) [] x) (r : DK P n ops K news (acc0 ++ [([], [])]) ((dO o, x) :: S) B l) (g : goK n ops S o = true := by kernel_rfl) (hn : clearR ops S o news x = true := by kernel_rfl) : DK P n ops K news acc0 S B (o :: l) := by
  obtain ⟨st1, acc, r1, r0, r2⟩ := r
  obtain ⟨hd, hg, hb⟩ := goK_spec g
  have hs := DStep.e (P := P) (n := n) (ops := ops) (news := news) (st := ⟨S, B⟩) (o := o) h hg (by rw [hd]; exact hb) (by simp) hn
  rw [hd] at hs
  exact ⟨st1, ([], []) :: acc, .cons hs r1, by simpa using r0, r2⟩
theorem wM (r : DK P n ops K news (acc0 ++ [([], [])]) ((dO o, mvV S o) :: S) B l) (h : mvK o = true := by kernel_rfl) (g : goK n ops S o = true := by kernel_rfl) (hn : clearR ops S o news (mvV S o) = true := by kernel_rfl) : DK P n ops K news acc0 S B (o :: l) := wE (mv_ok h) r g hn
theorem wR {k : Nat} {x : SV} (h : ROk P o S B k x) (r : DK P n ops K news (acc0 ++ [([k], [])]) ((dO o, x) :: S) B l) (g : goK n ops S o = true := by kernel_rfl) (hn : clearR ops S o news x = true := by kernel_rfl) : DK P n ops K news acc0 S B (o :: l) := by
  obtain ⟨st1, acc, r1, r0, r2⟩ := r
  obtain ⟨cs, h, hbk⟩ := h
  obtain ⟨hd, hg, hb⟩ := goK_spec g
  have hs := DStep.e (P := P) (n := n) (ops := ops) (news := news) (st := ⟨S, B⟩) (o := o) h hg (by rw [hd]; exact hb) (by simpa using hbk) hn
  rw [hd] at hs
  exact ⟨st1, ([k], []) :: acc, .cons hs r1, by simpa using r0, r2⟩
theorem wN {k : Nat} {cs : List SV} {x : SV} (h : NOk P o (sget S) k cs x) (r : DK P n ops K (k :: news) (acc0 ++ [([], [k])]) ((dO o, x) :: S) ((k, some cs) :: B) l) (g : goK n ops S o = true := by kernel_rfl) (hf : freshB k ⟨S, B⟩ = true := by kernel_rfl) (hn : clear1 news x = true := by kernel_rfl) (hc : clearL news cs = true := by kernel_rfl) : DK P n ops K news acc0 S B (o :: l) := by
  obtain ⟨st1, acc, r1, r0, r2⟩ := r
  obtain ⟨hd, hg, hb⟩ := goK_spec g
  have hs := DStep.n (P := P) (n := n) (ops := ops) (news := news) (st := ⟨S, B⟩) (o := o) h hg (by rw [hd]; exact hb) hf hn hc
  rw [hd] at hs
  exact ⟨st1, ([], [k]) :: acc, .cons hs r1, by simpa using r0, r2⟩
theorem wT {k : Nat} {cs : List SV} (h : TK P o S B k cs) (r : DK P n ops K news (acc0 ++ [([k], [k])]) S ((k, some cs) :: B) l) (g : goT ops S o = true := by kernel_rfl) (hc : clearL news cs = true := by kernel_rfl) : DK P n ops K news acc0 S B (o :: l) := by
  obtain ⟨st1, acc, r1, r0, r2⟩ := r
  obtain ⟨old, h, hb⟩ := h
  obtain ⟨hd, hg⟩ := goT_spec g
  have hs := DStep.t (P := P) (n := n) (ops := ops) (news := news) (st := ⟨S, B⟩) (o := o) h hg (by rw [hd]; rfl) hb hc
  rw [hd] at hs
  exact ⟨st1, ([k], [k]) :: acc, .cons hs r1, by simpa using r0, r2⟩
theorem wK (r : DK P n ops K news (acc0 ++ [([], [])]) ((dO o, .d (.tup [])) :: S) B l) (g : goF n ops S o = true := by kernel_rfl) : DK P n ops K news acc0 S B (o :: l) := by
  obtain ⟨st1, acc, r1, r0, r2⟩ := r
  obtain ⟨hd, hg, hb⟩ := goF_spec g
  have hs := DStep.skip (P := P) (n := n) (ops := ops) (news := news) (st := ⟨S, B⟩) (o := o) hg (by rw [hd]; exact hb)
  rw [hd] at hs
  exact ⟨st1, ([], []) :: acc, .cons hs r1, by simpa using r0, r2⟩
end
end Go.Fid
set_option linter.unusedVariables false
set_option linter.unusedSimpArgs false
namespace Go.Fid
def datOf : SV → Dat
  | .d x => x
  | _ => .tup []
def isD : SV → Bool
  | .d _ => true
  | _ => false
def kLo : IntKind → Int
  | .i64 => -9223372036854775808
  | .u64 => 0
  | .u32 => 0
  | .u8 => 0
  | _ => 1
def kHi : IntKind → Int
  | .i64 => 9223372036854775807
  | .u64 => 18446744073709551615
  | .u32 => 4294967295
  | .u8 => 255
  | _ => 0
theorem wAny {k : IntKind} {m r : Int} (h : m = r) (h1 : kLo k ≤ r) (h2 : r ≤ kHi k) : k.wrap m = r := by
  cases k <;> simp only [kLo, kHi] at h1 h2 <;> first | exact wi64 h h1 h2 | exact wu64 h h1 h2 | exact wu32 h h1 h2 | exact wu8 h h1 h2 | (exfalso; omega)
def kHiN : IntKind → Nat
  | .i64 => 9223372036854775807
  | .u64 => 18446744073709551615
  | .u32 => 4294967295
  | .u8 => 255
  | _ => 0
theorem wNat {k : IntKind} {m : Int} {r : Nat} (h : m = ((r : Nat) : Int)) (h2 : r ≤ kHiN k) (h1 : kLo k ≤ 0) : k.wrap m = ((r : Nat) : Int) := by
  refine wAny h (Int.le_trans h1 (Int.natCast_nonneg _)) ?_
  cases k <;> simp only [kHi, kHiN] at h2 ⊢ <;> first | omega | (exfalso; revert h1; decide)
theorem qAny {k : IntKind} (a b : Nat) (h : a ≤ kHiN k) (h1 : kLo k ≤ 0) : k.wrap (Int.tdiv (a : Int) (b : Int)) = ((a / b : Nat) : Int) :=
  wNat rfl (Nat.le_trans (Nat.div_le_self a b) h) h1
theorem isD_eq {x : SV} (h : isD x = true) : x = .d (datOf x) := by cases x <;> first | rfl | cases h
section
variable {P : Program} {o : Oper} {S : Nat → SV} {T T' : TypeId} {x y c : Operand} {k l : IntKind} {m n : Int}
theorem oAd (r : Nat) (ho : o.op = .binOp .add T x y T' := by exact rfl) (hx : ev S x = .d (.val (.int k m)) := by exact rfl) (hy : ev S y = .d (.val (.int k n)) := by exact rfl) (hr : k.wrap (m + n) = ((r : Nat) : Int) := by exact wNat (by first | rfl | omega | (dsimp only; omega)) (by simp only [kHiN]; omega) (by decide)) : EOk P o S [] (.d (.val (.int k ((r : Nat) : Int)))) := e_add ho hx hy hr
theorem oSb (r : Nat) (ho : o.op = .binOp .sub T x y T' := by exact rfl) (hx : ev S x = .d (.val (.int k m)) := by exact rfl) (hy : ev S y = .d (.val (.int k n)) := by exact rfl) (hr : k.wrap (m - n) = ((r : Nat) : Int) := by exact wNat (by first | rfl | omega | (dsimp only; omega)) (by simp only [kHiN]; omega) (by decide)) : EOk P o S [] (.d (.val (.int k ((r : Nat) : Int)))) := e_sub ho hx hy hr
theorem oMl (r : Nat) (ho : o.op = .binOp .mul T x y T' := by exact rfl) (hx : ev S x = .d (.val (.int k m)) := by exact rfl) (hy : ev S y = .d (.val (.int k n)) := by exact rfl) (hr : k.wrap (m * n) = ((r : Nat) : Int) := by exact wNat (by first | rfl | omega | (dsimp only; omega)) (by simp only [kHiN]; omega) (by decide)) : EOk P o S [] (.d (.val (.int k ((r : Nat) : Int)))) := e_mul ho hx hy hr
theorem zAd (r : Int) (ho : o.op = .binOp .add T x y T' := by exact rfl) (hx : ev S x = .d (.val (.int k m)) := by exact rfl) (hy : ev S y = .d (.val (.int k n)) := by exact rfl) (hr : k.wrap (m + n) = r := by exact wAny (by first | omega | (dsimp only; omega)) (by simp only [kLo]; omega) (by simp only [kHi]; omega)) : EOk P o S [] (.d (.val (.int k r))) := e_add ho hx hy hr
theorem zSb (r : Int) (ho : o.op = .binOp .sub T x y T' := by exact rfl) (hx : ev S x = .d (.val (.int k m)) := by exact rfl) (hy : ev S y = .d (.val (.int k n)) := by exact rfl) (hr : k.wrap (m - n) = r := by exact wAny (by first | omega | (dsimp only; omega)) (by simp only [kLo]; omega) (by simp only [kHi]; omega)) : EOk P o S [] (.d (.val (.int k r))) := e_sub ho hx hy hr
theorem zMl (r : Int) (ho : o.op = .binOp .mul T x y T' := by exact rfl) (hx : ev S x = .d (.val (.int k m)) := by exact rfl) (hy : ev S y = .d (.val (.int k n)) := by exact rfl) (hr : k.wrap (m * n) = r := by exact wAny (by first | omega | (dsimp only; omega)) (by simp only [kLo]; omega) (by simp only [kHi]; omega)) : EOk P o S [] (.d (.val (.int k r))) := e_mul ho hx hy hr
theorem oQu (r : Nat) (ho : o.op = .binOp .quo T x y T' := by exact rfl) (hx : ev S x = .d (.val (.int k m)) := by exact rfl) (hy : ev S y = .d (.val (.int k n)) := by exact rfl) (h0 : n ≠ 0 := by first | decide | omega) (hr : k.wrap (m.tdiv n) = ((r : Nat) : Int) := by exact qAny _ _ (by simp only [kHiN]; omega) (by decide)) : EOk P o S [] (.d (.val (.int k ((r : Nat) : Int)))) := e_quo ho hx hy h0 hr
theorem oRe (r : Nat) (ho : o.op = .binOp .rem T x y T' := by exact rfl) (hx : ev S x = .d (.val (.int k m)) := by exact rfl) (hy : ev S y = .d (.val (.int k n)) := by exact rfl) (h0 : n ≠ 0 := by first | decide | omega) (hr : m.tmod n = ((r : Nat) : Int) := by exact tmod_nat _ _) : EOk P o S [] (.d (.val (.int k ((r : Nat) : Int)))) := e_rem ho hx hy h0 hr
theorem zQu (r : Int) (ho : o.op = .binOp .quo T x y T' := by exact rfl) (hx : ev S x = .d (.val (.int k m)) := by exact rfl) (hy : ev S y = .d (.val (.int k n)) := by exact rfl) (h0 : n ≠ 0 := by first | decide | omega) (hr : k.wrap (m.tdiv n) = r := by exact qAny _ _ (by simp only [kHiN]; omega) (by decide)) : EOk P o S [] (.d (.val (.int k r))) := e_quo ho hx hy h0 hr
theorem oEq (ho : o.op = .binOp .eql T x y T' := by exact rfl) (hx : ev S x = .d (.val (.int k m)) := by exact rfl) (hy : ev S y = .d (.val (.int k n)) := by exact rfl) : EOk P o S [] (.d (.val (.bool (m == n)))) := e_eql ho hx hy
theorem oNe (ho : o.op = .binOp .neq T x y T' := by exact rfl) (hx : ev S x = .d (.val (.int k m)) := by exact rfl) (hy : ev S y = .d (.val (.int k n)) := by exact rfl) : EOk P o S [] (.d (.val (.bool (m != n)))) := e_neq ho hx hy
theorem oLt (ho : o.op = .binOp .lss T x y T' := by exact rfl) (hx : ev S x = .d (.val (.int k m)) := by exact rfl) (hy : ev S y = .d (.val (.int k n)) := by exact rfl) : EOk P o S [] (.d (.val (.bool (decide (m < n))))) := e_lss ho hx hy
theorem oLe (ho : o.op = .binOp .leq T x y T' := by exact rfl) (hx : ev S x = .d (.val (.int k m)) := by exact rfl) (hy : ev S y = .d (.val (.int k n)) := by exact rfl) : EOk P o S [] (.d (.val (.bool (decide (m ≤ n))))) := e_leq ho hx hy
theorem oGt (ho : o.op = .binOp .gtr T x y T' := by exact rfl) (hx : ev S x = .d (.val (.int k m)) := by exact rfl) (hy : ev S y = .d (.val (.int k n)) := by exact rfl) : EOk P o S [] (.d (.val (.bool (decide (n < m))))) := e_gtr ho hx hy
theorem oGe (ho : o.op = .binOp .geq T x y T' := by exact rfl) (hx : ev S x = .d (.val (.int k m)) := by exact rfl) (hy : ev S y = .d (.val (.int k n)) := by exact rfl) : EOk P o S [] (.d (.val (.bool (decide (n ≤ m))))) := e_geq ho hx hy
theorem oEb (hT : boolB P T = true) {p q : Bool} (ho : o.op = .binOp .eql T x y T' := by exact rfl) (hx : ev S x = .d (.val (.bool p)) := by exact rfl) (hy : ev S y = .d (.val (.bool q)) := by exact rfl) : EOk P o S [] (.d (.val (.bool (p == q)))) := e_eqlb ho hT hx hy
theorem oNb (hT : boolB P T = true) {p q : Bool} (ho : o.op = .binOp .neq T x y T' := by exact rfl) (hx : ev S x = .d (.val (.bool p)) := by exact rfl) (hy : ev S y = .d (.val (.bool q)) := by exact rfl) : EOk P o S [] (.d (.val (.bool (!(p == q))))) := e_neqb ho hT hx hy
theorem oNt {b : Bool} (ho : o.op = .unOp .not T x := by exact rfl) (hx : ev S x = .d (.val (.bool b)) := by exact rfl) : EOk P o S [] (.d (.val (.bool !b))) := e_not ho hx
theorem oNg (r : Int) (ho : o.op = .unOp .neg T x := by exact rfl) (hx : ev S x = .d (.val (.int k n)) := by exact rfl) (hr : k.wrap (0 - n) = r := by exact wAny (by first | omega | (dsimp only; omega)) (by simp only [kLo]; omega) (by simp only [kHi]; omega)) : EOk P o S [] (.d (.val (.int k r))) := e_neg ho hx hr
theorem oCv {src dst : TypeId} (hs : (P.underlying src).isSome = true) (hd : intB P dst = some l) (r : Nat) (ho : o.op = .convert src dst x := by exact rfl) (hx : ev S x = .d (.val (.int k n)) := by exact rfl) (hr : l.wrap n = ((r : Nat) : Int) := by exact wNat (by first | rfl | omega | (dsimp only; omega)) (by simp only [kHiN]; omega) (by decide)) : EOk P o S [] (.d (.val (.int l ((r : Nat) : Int)))) := e_conv ho hs hd hx hr
theorem oMx (r : Nat) (ho : o.op = .call { callee := .builtin .max, args := #[x, y], argTypes := #[T, T'] } := by exact rfl) (hx : ev S x = .d (.val (.int k m)) := by exact rfl) (hy : ev S y = .d (.val (.int k n)) := by exact rfl) (hr : (if m < n then n else m) = ((r : Nat) : Int) := by omega) : EOk P o S [] (.d (.val (.int k ((r : Nat) : Int)))) := e_maxn ho hx hy hr
theorem zMn (r : Int) (ho : o.op = .call { callee := .builtin .min, args := #[x, y], argTypes := #[T, T'] } := by exact rfl) (hx : ev S x = .d (.val (.int k m)) := by exact rfl) (hy : ev S y = .d (.val (.int k n)) := by exact rfl) (hr : (if n < m then n else m) = r := by omega) : EOk P o S [] (.d (.val (.int k r))) := e_minn ho hx hy hr
theorem oBk (c : Bool) {b : Bool} (h : EOk P o S [] (.d (.val (.bool b)))) (e : b = c := by decide) : EOk P o S [] (.d (.val (.bool c))) := e ▸ h
theorem oV {z : SV} (w : SV) (h : EOk P o S [] z) (e : z = w := by kernel_rfl) : EOk P o S [] w := e ▸ h
theorem oPt (ho : o.op = .pick c x y := by exact rfl) (hc : ev S c = .d (.val (.bool true)) := by kernel_rfl) : EOk P o S [] (ev S x) := e_pkt ho hc rfl
theorem oPf (ho : o.op = .pick c x y := by exact rfl) (hc : ev S c = .d (.val (.bool false)) := by kernel_rfl) : EOk P o S [] (ev S y) := e_pkf ho hc rfl
theorem oPa {q : Bool} (ho : o.op = .pick c x y := by exact rfl) (hc : ev S c = .d (.val (.bool true)) := by kernel_rfl) (hx : ev S x = .d (.val (.bool q)) := by exact rfl) : EOk P o S [] (.d (.val (.bool (true && q)))) := e_pkta ho hc hx
theorem oPo {q : Bool} (ho : o.op = .pick c x y := by exact rfl) (hc : ev S c = .d (.val (.bool false)) := by kernel_rfl) (hy : ev S y = .d (.val (.bool q)) := by exact rfl) : EOk P o S [] (.d (.val (.bool (false || q)))) := e_pkfo ho hc hy
def nilK (o : Oper) : Bool := match o.op with
  | .move (.const (.slice none 0 0)) => true
  | .assign (.const (.slice none 0 0)) => true
  | _ => false
theorem nilK_eq (h : nilK o = true) : o.op = .move (.const (.slice none 0 0)) ∨ o.op = .assign (.const (.slice none 0 0)) := by
  unfold nilK at h
  split at h
  · exact .inl (by assumption)
  · exact .inr (by assumption)
  · cases h
theorem oNl (t s : Nat) (h : nilK o = true := by kernel_rfl) : EOk P o S [] (.d (.sl t s [])) := e_nil t s (nilK_eq h)
theorem oNc {k q : Nat} (ho : o.op = .nilCheck x := by exact rfl) (hx : ev S x = .ref k q := by exact rfl) : EOk P o S [] (.ref k q) := e_nckr ho hx
theorem oFr {f off b p : Nat} (hf : fieldB P T f = some off) (ho : o.op = .fieldAddr T x f := by exact rfl) (hx : ev S x = .ref b p := by exact rfl) : EOk P o S [] (.ref b (p + off)) := e_fieldAddr_ref ho hx hf
theorem oFc {t : TypeId} {f off p : Nat} {cs : List Dat} (hf : fieldB P T f = some off) (ho : o.op = .fieldAddr T x f := by exact rfl) (hx : ev S x = .d (.cptr t cs p) := by exact rfl) : EOk P o S [] (.d (.cptr t cs (p + off))) := e_fieldAddr_cptr ho hx hf
theorem oXr {E : TypeId} {N s b p : Nat} (hT : arrB P T = some (N, E, s)) (j : Nat) (ho : o.op = .indexAddr T x y := by exact rfl) (hx : ev S x = .ref b p := by exact rfl) (hi : ev S y = .d (.val (.int k ((j : Nat) : Int))) := by exact rfl) (h1 : Nat.blt j N = true := by kernel_rfl) : EOk P o S [] (.ref b (p + j * s)) := e_ixar ho hT hx hi rfl (Nat.le_of_ble_eq_true h1) rfl
theorem oXo {E t : TypeId} {N b : Nat} (hT : elemB P T = some (E, 1)) (j : Nat) (ho : o.op = .indexAddr T x y := by exact rfl) (hx : ev S x = .own b t 1 N := by exact rfl) (hi : ev S y = .d (.val (.int k n)) := by exact rfl) (hj : n = ((j : Nat) : Int) := by omega) (h1 : j < N := by omega) : EOk P o S [] (.ref b j) := e_ixo ho hT hx hi hj h1 (Nat.mul_one j)
theorem oXs {E t : TypeId} {s : Nat} {es : List Dat} (hT : elemB P T = some (E, s)) (j : Nat) (ho : o.op = .indexAddr T x y := by exact rfl) (hx : ev S x = .d (.sl t s es) := by exact rfl) (hi : ev S y = .d (.val (.int k ((j : Nat) : Int))) := by exact rfl) (h1 : Nat.blt j es.length = true := by kernel_rfl) : EOk P o S [] (.d (.cptr t (es.getD j (.tup [])).cells 0)) :=
  e_ixs ho hT hx hi rfl (by
    have h1 := Nat.le_of_ble_eq_true h1
    simp [List.getElem?_eq_getElem h1, List.getD])
theorem oXl {α : Type} {E t : TypeId} {s : Nat} {F : α → Dat} {L : List α} (hT : elemB P T = some (E, s)) (j : Nat) (d : α) (ho : o.op = .indexAddr T x y := by exact rfl) (hx : ev S x = .d (.sl t s (L.map F)) := by exact rfl) (hi : ev S y = .d (.val (.int k n)) := by exact rfl) (hj : n = ((j : Nat) : Int) := by omega) (h1 : j < L.length := by omega) : EOk P o S [] (.d (.cptr t (F (L.getD j d)).cells 0)) :=
  e_ixs ho hT hx hi hj (ixm F L j d h1)
theorem oC1 {t : TypeId} {off : Nat} {cs : List Dat} (hs : shapeB P T = some (false, 1)) (ho : o.op = .load T x := by exact rfl) (hx : ev S x = .d (.cptr t cs off) := by exact rfl) (hl : Nat.blt off cs.length = true := by kernel_rfl) : EOk P o S [] (.d (cs.getD off (.tup []))) :=
  e_lc1 ho hx hs (by
    have hl := Nat.le_of_ble_eq_true hl
    simp [List.getElem?_eq_getElem hl, List.getD])
theorem oCa {t : TypeId} {off sz : Nat} {cs : List Dat} (hs : shapeB P T = some (true, sz)) (ho : o.op = .load T x := by exact rfl) (hx : ev S x = .d (.cptr t cs off) := by exact rfl) (hl : Nat.ble (off + sz) cs.length = true := by kernel_rfl) : EOk P o S [] (gather true (((cs.drop off).take sz).map .d)) := e_lca ho hx hs hl rfl
theorem oEx {i : Nat} {ds : List Dat} (ho : o.op = .extract x i := by exact rfl) (hx : ev S x = .d (.tup ds) := by exact rfl) (hi : Nat.blt i ds.length = true := by kernel_rfl) : EOk P o S [] (.d (ds.getD i (.tup []))) :=
  e_exD ho hx (by
    have hi := Nat.le_of_ble_eq_true hi
    simp [List.getElem?_eq_getElem hi, List.getD])
theorem oFv {t : TypeId} {f off sz : Nat} {cs : List Dat} (hf : fieldT P T f = some (off, t)) (hs : shapeB P t = some (true, sz)) (ho : o.op = .field T x f := by exact rfl) (hx : ev S x = .d (.agg cs) := by exact rfl) (hle : Nat.ble (off + sz) cs.length = true := by kernel_rfl) : EOk P o S [] (gather true (((cs.drop off).take sz).map .d)) := e_fldv ho hx hf hs hle rfl
theorem oF1 {t : TypeId} {f off : Nat} {cs : List Dat} (hf : fieldT P T f = some (off, t)) (hs : shapeB P t = some (false, 1)) (ho : o.op = .field T x f := by exact rfl) (hx : ev S x = .d (.agg cs) := by exact rfl) (hle : Nat.ble (off + 1) cs.length = true := by kernel_rfl) : EOk P o S [] (gather false (((cs.drop off).take 1).map .d)) := e_fld1 ho hx hf hs hle rfl
theorem oXa {E : TypeId} {N s sz : Nat} {agg : Bool} {cs : List Dat} (hT : arrB P T = some (N, E, s)) (hs : shapeB P E = some (agg, sz)) (h1 : agg = false → sz = 1) (j : Nat) (ho : o.op = .index T x y := by exact rfl) (hx : ev S x = .d (.agg cs) := by exact rfl) (hi : ev S y = .d (.val (.int k ((j : Nat) : Int))) := by exact rfl) (hn : Nat.blt j N = true := by kernel_rfl) (hle : Nat.ble (j * s + sz) cs.length = true := by kernel_rfl) : EOk P o S [] (gather agg (((cs.drop (j * s)).take sz).map .d)) := e_ixa ho hx hT hs h1 hi rfl hn hle rfl
theorem oLm {α : Type} {E t : TypeId} {s : Nat} {F : α → Dat} {L : List α} (hT : elemB P T = some (E, s)) (ho : o.op = .call { callee := .builtin .len, args := #[x], argTypes := #[T] } := by exact rfl) (hx : ev S x = .d (.sl t s (L.map F)) := by exact rfl) : EOk P o S [] (.d (.val (.int .i64 ((L.length : Nat) : Int)))) := e_ln ho hT hx (by simp)
theorem oLn {E t : TypeId} {s : Nat} {es : List Dat} (hT : elemB P T = some (E, s)) (r : Nat) (ho : o.op = .call { callee := .builtin .len, args := #[x], argTypes := #[T] } := by exact rfl) (hx : ev S x = .d (.sl t s es) := by exact rfl) (hr : (es.length : Int) = ((r : Nat) : Int) := by simp) : EOk P o S [] (.d (.val (.int .i64 ((r : Nat) : Int)))) := e_ln ho hT hx hr
theorem oLo {E t : TypeId} {s b N : Nat} (hT : elemB P T = some (E, s)) (ho : o.op = .call { callee := .builtin .len, args := #[x], argTypes := #[T] } := by exact rfl) (hx : ev S x = .own b t s N := by exact rfl) : EOk P o S [] (.d (.val (.int .i64 ((N : Nat) : Int)))) := e_len_own ho hT hx
theorem oBd {ps : List (Nat × Operand)} {pl : List (Nat × Nat)} {zv : List Value} {zd : List Dat} (hT : placesB P T = some pl) (hz : zeroB P T = some zv) (hzd : ZOk zv zd) (ho : o.op = .build T ps.toArray := by exact rfl)
    (hps : (ps.all fun p => isD (ev S p.2) && (datOf (ev S p.2)).ok1) = true := by kernel_rfl) (hr : (fillL (fun i => pl[i]?) zd (ps.map fun p => (p.1, (datOf (ev S p.2)).cells))).isSome = true := by kernel_rfl) :
    EOk P o S [] (.d (.agg ((fillL (fun i => pl[i]?) zd (ps.map fun p => (p.1, (datOf (ev S p.2)).cells))).getD []))) := by
  rw [List.all_eq_true] at hps
  obtain ⟨r, hr⟩ := Option.isSome_iff_exists.1 hr
  have h := e_build (P := P) (o := o) (S := S) (pd := ps.map fun p => (p.1, datOf (ev S p.2))) ho hT hz hzd (by
    rw [List.map_map]
    refine List.map_congr_left fun p hp => ?_
    have := hps p hp
    rw [Bool.and_eq_true] at this
    show (p.1, ev S p.2) = (p.1, SV.d (datOf (ev S p.2)))
    rw [← isD_eq this.1]) (by
    rw [List.all_eq_true]
    intro q hq
    obtain ⟨p, hp, rfl⟩ := List.mem_map.1 hq
    have := hps p hp
    rw [Bool.and_eq_true] at this
    exact this.2) (by rw [List.map_map]; exact hr)
  rw [hr]; exact h
theorem oBf {E : TypeId} {N s : Nat} {ps : List (Nat × Operand)} {zv : List Value} {zd : List Dat} (hT : arrB P T = some (N, E, s)) (hz : zeroB P T = some zv) (hzd : ZOk zv zd) (ho : o.op = .build T ps.toArray := by exact rfl)
    (hps : ps.map (fun p => (p.1, ev S p.2)) = (ps.map fun p => datOf (ev S p.2)).zipIdx.map (fun p => (p.2, .d p.1)) := by kernel_rfl) (hok : (ps.all fun p => (datOf (ev S p.2)).ok1 && Nat.beq (datOf (ev S p.2)).cells.length s) = true := by kernel_rfl) (hl : Nat.beq zd.length (ps.length * s) = true := by kernel_rfl) :
    EOk P o S [] (.d (.agg (flat (ps.map fun p => datOf (ev S p.2))))) := by
  rw [List.all_eq_true] at hok
  refine e_bldF (ds := ps.map fun p => datOf (ev S p.2)) ho hT hz hzd hps ?_ ?_ (by rw [List.length_map]; exact hl) rfl
  · rw [List.all_eq_true]
    intro d hd
    obtain ⟨p, hp, rfl⟩ := List.mem_map.1 hd
    have := hok p hp
    rw [Bool.and_eq_true] at this
    exact this.1
  · rw [List.all_eq_true]
    intro d hd
    obtain ⟨p, hp, rfl⟩ := List.mem_map.1 hd
    have := hok p hp
    rw [Bool.and_eq_true] at this
    exact this.2
theorem bs_fill {s len : Nat} {ps : List (Nat × Operand)} {zd : List Dat} (hzl : Nat.beq zd.length s = true) (hps : ps.map (fun p => (p.1, ev S p.2)) = (ps.map fun p => datOf (ev S p.2)).zipIdx.map (fun p => (p.2, .d p.1)))
    (hok : (ps.all fun p => (datOf (ev S p.2)).ok1 && Nat.beq (datOf (ev S p.2)).cells.length s) = true) (hl : Nat.beq ps.length len = true) :
    (∀ e ∈ ps.map (fun p => datOf (ev S p.2)), e.cells.length = s) ∧ fillL (fun i => some (i * s, s)) (List.replicate len zd).flatten (((ps.map fun p => datOf (ev S p.2)).zipIdx.map fun p => (p.2, p.1)).map fun p => (p.1, p.2.cells)) = some (flat (ps.map fun p => datOf (ev S p.2))) := by
  have hzl := Nat.eq_of_beq_eq_true hzl
  have hl := Nat.eq_of_beq_eq_true hl
  have hs : ∀ e ∈ ps.map (fun p => datOf (ev S p.2)), e.cells.length = s := fun d hd => by
    obtain ⟨p, hp, rfl⟩ := List.mem_map.1 hd
    have := List.all_eq_true.1 hok p hp
    rw [Bool.and_eq_true] at this
    exact Nat.eq_of_beq_eq_true this.2
  refine ⟨hs, ?_⟩
  have h := fillL_all (ps.map fun p => datOf (ev S p.2)) 0 [] (List.replicate len zd).flatten (by simp) (by
    rw [List.length_map, hl, List.length_flatten, List.map_replicate, hzl]; simp) hs
  rw [List.nil_append, List.nil_append] at h
  rw [List.map_map]
  exact h
theorem oBs {E : TypeId} {s len : Nat} {ps : List (Nat × Operand)} {zv : List Value} {zd : List Dat} (hT : elemB P T = some (E, s)) (hz : zeroB P E = some zv) (hzd : ZOk zv zd) (ho : o.op = .buildSlice T len ps.toArray := by exact rfl)
    (hzl : Nat.beq zd.length s = true := by kernel_rfl) (hps : ps.map (fun p => (p.1, ev S p.2)) = (ps.map fun p => datOf (ev S p.2)).zipIdx.map (fun p => (p.2, .d p.1)) := by kernel_rfl) (hok : (ps.all fun p => (datOf (ev S p.2)).ok1 && Nat.beq (datOf (ev S p.2)).cells.length s) = true := by kernel_rfl) (hl : Nat.beq ps.length len = true := by kernel_rfl)
    (hbig : Nat.ble (len * s) 16777216 = true := by kernel_rfl) (hbig' : Nat.ble len 16777216 = true := by kernel_rfl) : EOk P o S [] (.d (.sl E s (ps.map fun p => datOf (ev S p.2)))) := by
  obtain ⟨h1, h2⟩ := bs_fill hzl hps hok hl
  refine e_buildSlice (pd := (ps.map fun p => datOf (ev S p.2)).zipIdx.map fun p => (p.2, p.1)) ho hT hz hzd (Nat.eq_of_beq_eq_true hzl) (by rw [hps, List.map_map]; rfl) ?_ (Nat.le_of_ble_eq_true hbig) (Nat.le_of_ble_eq_true hbig') (by rw [List.length_map]; exact Nat.eq_of_beq_eq_true hl) h1 h2
  rw [List.all_eq_true]
  intro q hq
  obtain ⟨p, hp, rfl⟩ := List.mem_map.1 hq
  obtain ⟨p', hp', he⟩ := List.mem_map.1 (List.fst_mem_of_mem_zipIdx hp)
  have := List.all_eq_true.1 hok p' hp'
  rw [Bool.and_eq_true] at this
  rw [← he]
  exact this.1
theorem oBe {E : TypeId} {s : Nat} (hT : elemB P T = some (E, s)) (ho : o.op = .buildSlice T 0 #[] := by exact rfl) : EOk P o S [] .emp := e_bse ho hT
theorem oBo {E : TypeId} {s len : Nat} {ps : List (Nat × Operand)} {zv : List Value} {zd : List Dat} (b : Nat) (hT : elemB P T = some (E, s)) (hz : zeroB P E = some zv) (hzd : ZOk zv zd) (ho : o.op = .buildSlice T len ps.toArray := by exact rfl)
    (hzl : Nat.beq zd.length s = true := by kernel_rfl) (hps : ps.map (fun p => (p.1, ev S p.2)) = (ps.map fun p => datOf (ev S p.2)).zipIdx.map (fun p => (p.2, .d p.1)) := by kernel_rfl) (hok : (ps.all fun p => (datOf (ev S p.2)).ok1 && Nat.beq (datOf (ev S p.2)).cells.length s) = true := by kernel_rfl) (hl : Nat.beq ps.length len = true := by kernel_rfl)
    (hbig : Nat.ble (len * s) 16777216 = true := by kernel_rfl) (hbig' : Nat.ble len 16777216 = true := by kernel_rfl) : NOk P o S b ((flat (ps.map fun p => datOf (ev S p.2))).map .d) (.own b E s len) := by
  obtain ⟨h1, h2⟩ := bs_fill hzl hps hok hl
  refine n_bso (pd := (ps.map fun p => datOf (ev S p.2)).zipIdx.map fun p => (p.2, p.1)) b ho hT hz hzd (Nat.eq_of_beq_eq_true hzl) (by rw [hps, List.map_map]; rfl) ?_ hbig hbig' (by rw [List.length_map]; exact Nat.eq_of_beq_eq_true hl) ?_ h2 rfl
  · rw [List.all_eq_true]
    intro q hq
    obtain ⟨p, hp, rfl⟩ := List.mem_map.1 hq
    obtain ⟨p', hp', he⟩ := List.mem_map.1 (List.fst_mem_of_mem_zipIdx hp)
    have := List.all_eq_true.1 hok p' hp'
    rw [Bool.and_eq_true] at this
    rw [← he]
    exact this.1
  · refine List.eq_replicate_iff.2 ⟨by rw [List.length_map, List.length_map]; exact Nat.eq_of_beq_eq_true hl, fun z hz => ?_⟩
    obtain ⟨e, he, rfl⟩ := List.mem_map.1 hz
    exact h1 e he
theorem oBx {d : Dat} (b : Nat) (ho : o.op = .box T x := by exact rfl) (hx : ev S x = .d d := by exact rfl) (h1 : d.ok1 = true := by kernel_rfl) : NOk P o S b (bx d) (.ref b 0) := n_box b ho hx h1
theorem oAl {zv : List Value} {zd : List Dat} (b : Nat) (hz : zeroB P T = some zv) (hzd : ZOk zv zd) (ho : o.op = .alloc T := by exact rfl) : NOk P o S b (zd.map .d) (.ref b 0) := n_alloc b ho hz hzd
theorem oMk {α : Type} {E : TypeId} {s bytes : Nat} {kl kc : IntKind} {zv : List Value} {zd : List Dat} {x y : Operand} (b : Nat) (F : α → Dat) (z : α) (N M : Nat) (hT : elemB P T = some (E, s)) (hz : zeroB P E = some zv) (hzd : ZOk zv zd) (hby : bytesB P E = some bytes) (ho : o.op = .makeSlice T x y := by exact rfl)
    (hl : ev S x = .d (.val (.int kl m)) := by exact rfl) (hc : ev S y = .d (.val (.int kc n)) := by exact rfl) (hlN : m = ((N : Nat) : Int) := by omega) (hcM : n = ((M : Nat) : Int) := by omega) (hzl : Nat.beq zd.length s = true := by kernel_rfl) (hnm : N ≤ M := by omega) (hb : bytes * M ≤ 281474976710656 := by omega) (hm : M ≤ maxLen := by unfold maxLen; omega) (hzF : zd = [F z] := by kernel_rfl) :
    NOk P o S b ((List.replicate M z).map (fun g => SV.d (F g))) (.own b E s N) := by
  subst hlN; subst hcM; subst hzF
  exact n_mks b ho hT hz hzd (Nat.eq_of_beq_eq_true hzl) hby hl hc hnm hb hm (own_zero F M z)
end
section
variable {P : Program} {o : Oper} {S : SL} {B : BS} {T : TypeId} {x y : Operand} {k off : Nat}
theorem oL1 {cs : List SV} (hs : shapeB P T = some (false, 1)) (ho : o.op = .load T x := by exact rfl) (hx : ev (sget S) x = .ref k off := by exact rfl) (hb : bget B k = some cs := by exact rfl) (hl : Nat.blt off cs.length = true := by kernel_rfl) : ROk P o S B k (cs.getD off .junk) :=
  ⟨cs, e_ld1 ho hx hs (by
    have hl := Nat.le_of_ble_eq_true hl
    simp [List.getElem?_eq_getElem hl, List.getD]), hb⟩
theorem oLa {sz : Nat} {cs : List SV} (hs : shapeB P T = some (true, sz)) (ho : o.op = .load T x := by exact rfl) (hx : ev (sget S) x = .ref k off := by exact rfl) (hb : bget B k = some cs := by exact rfl) (hl : Nat.ble (off + sz) cs.length = true := by kernel_rfl) : ROk P o S B k (gather true ((cs.drop off).take sz)) := ⟨cs, e_lda ho hx hs hl rfl, hb⟩
theorem oLp {α : Type} {F : α → Dat} {L : List α} (hs : shapeB P T = some (false, 1)) (j : Nat) (d : α) (ho : o.op = .load T x := by exact rfl) (hx : ev (sget S) x = .ref k j := by exact rfl) (hb : bget B k = some (L.map fun g => SV.d (F g)) := by exact rfl) (h1 : j < L.length := by omega) : ROk P o S B k (.d (F (L.getD j d))) := ⟨_, e_ld1 ho hx hs (own_get F L j d h1), hb⟩
theorem oSt {sz : Nat} {agg : Bool} {old : List SV} {d : Dat} (hs : shapeB P T = some (agg, sz)) (ho : o.op = .store T x y := by exact rfl) (hx : ev (sget S) x = .ref k off := by exact rfl) (hy : ev (sget S) y = .d d := by exact rfl) (hb : bget B k = some old := by exact rfl) (h1 : d.ok1 = true := by kernel_rfl) (hlen : Nat.beq d.cells.length sz = true := by kernel_rfl) (hle : Nat.ble (off + sz) old.length = true := by kernel_rfl) : TK P o S B k (patch old off (d.cells.map .d)) :=
  ⟨old, t_std ho hx hy hs h1 (Nat.eq_of_beq_eq_true hlen) hle rfl, hb⟩
theorem oSo {j E s N : Nat} {u : SV} (hs : shapeB P T = some (false, 1)) (ho : o.op = .store T x y := by exact rfl) (hx : ev (sget S) x = .ref k 0 := by exact rfl) (hy : ev (sget S) y = .own j E s N := by exact rfl) (hb : bget B k = some [u] := by exact rfl) : TK P o S B k [.own j E s N] := ⟨_, t_sto ho hx hy hs, hb⟩
theorem oSp {α : Type} {F : α → Dat} {L : List α} (hs : shapeB P T = some (false, 1)) (j : Nat) (v : α) (ho : o.op = .store T x y := by exact rfl) (hx : ev (sget S) x = .ref k j := by exact rfl) (hb : bget B k = some (L.map fun g => SV.d (F g)) := by exact rfl) (hy : ev (sget S) y = .d (F v) := by kernel_rfl) (h2 : (F v).ok1 = true := by kernel_rfl) (h3 : (F v).cells = [F v] := by kernel_rfl) (h1 : j < L.length := by omega) : TK P o S B k ((L.set j v).map fun g => SV.d (F g)) :=
  ⟨_, t_st1 ho hx hy hs h2 h3 (own_len F L j h1) (own_set F L j v), hb⟩
theorem oCl {S : Nat → SV} {xs : List Operand} {ats : Array TypeId} {f : FuncId} {ds : List Dat} {r : Dat} (hf : Takes P f ds r) (ho : o.op = .call { callee := .value y, args := xs.toArray, argTypes := ats } := by exact rfl) (hy : ev S y = .d (.val (.func (.func f) #[] #[])) := by kernel_rfl) (hx : xs.map (ev S) = ds.map .d := by kernel_rfl) : EOk P o S [] (.d r) := e_cl hf ho hy hx
theorem oCo {xs : List Operand} {ats : Array TypeId} {f : FuncId} {ds : List Dat} {α : Type} {F : α → Dat} {L : List α} {Tt s N : Nat} {S : Nat → SV} (b : Nat) (hf : TakesO P f ds Tt s N (L.map F)) (ho : o.op = .call { callee := .value y, args := xs.toArray, argTypes := ats } := by exact rfl) (hy : ev S y = .d (.val (.func (.func f) #[] #[])) := by kernel_rfl) (hx : xs.map (ev S) = ds.map .d := by kernel_rfl) : NOk P o S b (L.map (fun g => SV.d (F g))) (.own b Tt s N) := n_own b hf ho hy hx (by rw [List.map_map]; rfl)
end
inductive NilL : List Dat → List Dat → Prop
  | nil : NilL [] []
  | same {d : Dat} {l l' : List Dat} (h : NilL l l') : NilL (d :: l) (d :: l')
  | cut (t s : Nat) {l l' : List Dat} (h : NilL l l') : NilL (.sl t s [] :: l) (.val (.slice none 0 0) :: l')
theorem NilL.rep {ds ds' : List Dat} (h : NilL ds ds') {w : World} {D : DSet} : ds.length = ds'.length ∧ ∀ (i : Nat) (v : Value) (d : Dat), ds[i]? = some d → (∀ d', ds'[i]? = some d' → Rep w D v d') → Rep w D v d := by
  induction h with
  | nil => exact ⟨rfl, fun i v d h => by simp at h⟩
  | same h ih =>
    refine ⟨by simp [ih.1], fun i v d hd hr => ?_⟩
    cases i with
    | zero => exact hr d (by simpa using hd)
    | succ i => exact ih.2 i v d (by simpa using hd) (fun d' hd' => hr d' (by simpa using hd'))
  | cut t s h ih =>
    refine ⟨by simp [ih.1], fun i v d hd hr => ?_⟩
    cases i with
    | zero =>
      have e := hr (.val (.slice none 0 0)) (by simp)
      simp only [List.getElem?_cons_zero, Option.some.injEq] at hd
      subst hd
      exact nil_sl t s w D (fun _ => none) v e
    | succ i => exact ih.2 i v d (by simpa using hd) (fun d' hd' => hr d' (by simpa using hd'))
theorem clr_none {k j : Nat} {bs : BS} (h : Clr k bs) : Clr k ((j, none) :: bs) := fun i c hi hb => by
  rw [bget_cons] at hb
  split at hb
  · cases hb
  · exact h i c hi hb
section
variable {P : Program} {n : Fr} {ops : Array Oper} {K : SL → BS → Prop} {S : SL} {B : BS} {l : List Oper} {o : Oper} {α : Type} {T E t' : TypeId} {x y : Operand} {k s m bytes : Nat} {zv : List Value}
theorem app_go (F : α → Dat) {L L' : List α} {m2 : Nat} (hF : ∀ g, (F g).cells.length = s) (ho : o.op = .call { callee := .builtin .append, args := #[x, y], argTypes := #[T, T] }) (g : goK n ops S o = true) (hT : elemB P T = some (E, s)) (hz : zeroB P E = some zv) (hzl : zv.length = s) (hby : bytesB P E = some bytes)
    (hx : ev (sget S) x = .own k E s m) (hb : bget B k = some (bxs F L)) (hL : L.length = m) (hy : ev (sget S) y = .d (.sl t' s (L'.map F))) (hbig : m + L'.length ≤ maxLen) (hbig' : (m + L'.length) * bytes ≤ 140737488355328) (hB : Clr k B) (hm : m + L'.length = m2)
    (r : SK P n ops K ((dO o, .own k E s m2) :: forget k S) ((k, some (bxs F (L ++ L'))) :: B) l) : SK P n ops K S B (o :: l) := by
  obtain ⟨hd, hg, hdB⟩ := goK_spec g
  refine zX (S1 := (dO o, .own k E s m2) :: forget k S) (B1 := (k, some (bxs F (L ++ L'))) :: B) (fun C a w Q hn hs => ?_) hg r
  subst hm
  have := app_sound (st := ⟨S, B⟩) (N := n) (es := L.map F) (es' := L'.map F) ho (by rw [hd]; exact hdB) hT hz hzl hby hx hb rfl (by rw [flat_maplen F hF, hL]) hy (by simpa using hbig) (by simpa using hbig') hB C a w Q hn hs
  rw [hd, ← List.map_append, List.length_map] at this
  exact this
theorem zA (F : α → Dat) (L L' : List α) (hL : L.length = m) (hT : elemB P T = some (E, 1)) (hz : zeroB P E = some zv) (hby : bytesB P E = some bytes) (r : SK P n ops K ((dO o, .own k E 1 (L ++ L').length) :: forget k S) ((k, some ((L ++ L').map (fun g => SV.d (F g)))) :: B) l)
    (ho : o.op = .call { callee := .builtin .append, args := #[x, y], argTypes := #[T, T] } := by exact rfl) (g : goK n ops S o = true := by kernel_rfl) (hx : ev (sget S) x = .own k E 1 m := by exact rfl) (hb : bget B k = some (L.map (fun g => SV.d (F g))) := by kernel_rfl) (hy : ev (sget S) y = .d (.sl t' 1 (L'.map F)) := by exact rfl) (hF : ∀ g, (F g).cells = [F g] := by intro g; kernel_rfl) (hzl : zv.length = 1 := by kernel_rfl)
    (hbig : m + L'.length ≤ maxLen := by first | (simp only [List.length_cons, List.length_nil, maxLen]; omega) | (simp [maxLen]; omega)) (hbig' : (m + L'.length) * bytes ≤ 140737488355328 := by first | omega | (simp only [List.length_cons, List.length_nil]; omega) | (simp; omega))
    (hB : Clr k B := by repeat first | exact clr_nil _ | refine clr_self ?_ | refine clr_map ?_ | refine clr_none ?_ | refine clr_bx ?_ | refine clr_d ?_) : SK P n ops K S B (o :: l) :=
  app_go F (s := 1) (m2 := (L ++ L').length) (fun g => by rw [hF g]; rfl) ho g hT hz hzl hby hx (by rw [bxs_one F hF]; exact hb) hL hy hbig hbig' hB (by rw [List.length_append, hL]) (by rw [bxs_one F hF]; exact r)
theorem zAS (F : α → Dat) (L L' : List α) (hL : L.length = m) (hT : elemB P T = some (E, s)) (hz : zeroB P E = some zv) (hby : bytesB P E = some bytes) (r : SK P n ops K ((dO o, .own k E s (L ++ L').length) :: forget k S) ((k, some (bxs F (L ++ L'))) :: B) l)
    (ho : o.op = .call { callee := .builtin .append, args := #[x, y], argTypes := #[T, T] } := by exact rfl) (g : goK n ops S o = true := by kernel_rfl) (hx : ev (sget S) x = .own k E s m := by exact rfl) (hb : bget B k = some (bxs F L) := by kernel_rfl) (hy : ev (sget S) y = .d (.sl t' s (L'.map F)) := by exact rfl) (hF : ∀ g, (F g).cells.length = s := by intro g; kernel_rfl) (hzl : zv.length = s := by kernel_rfl)
    (hbig : m + L'.length ≤ maxLen := by first | (simp only [List.length_cons, List.length_nil, maxLen]; omega) | (simp [maxLen]; omega)) (hbig' : (m + L'.length) * bytes ≤ 140737488355328 := by first | omega | (simp only [List.length_cons, List.length_nil]; omega) | (simp; omega))
    (hB : Clr k B := by repeat first | exact clr_nil _ | refine clr_self ?_ | refine clr_map ?_ | refine clr_none ?_ | refine clr_bx ?_ | refine clr_d ?_) : SK P n ops K S B (o :: l) :=
  app_go F (m2 := (L ++ L').length) hF ho g hT hz hzl hby hx hb hL hy hbig hbig' hB (by rw [List.length_append, hL]) r
theorem zAQ (F : α → Dat) (L L' : List α) (hL : L.length = m) (hT : elemB P T = some (E, 1)) (hz : zeroB P E = some zv) (hby : bytesB P E = some bytes) (r : SK P n ops K ((dO o, .d (.sl E 1 ((L ++ L').map F))) :: forget k S) ((k, none) :: B) l)
    (ho : o.op = .call { callee := .builtin .append, args := #[x, y], argTypes := #[T, T] } := by exact rfl) (g : goK n ops S o = true := by kernel_rfl) (hx : ev (sget S) x = .own k E 1 m := by exact rfl) (hb : bget B k = some (L.map (fun g => SV.d (F g))) := by kernel_rfl) (hy : ev (sget S) y = .d (.sl t' 1 (L'.map F)) := by exact rfl) (hF : ∀ g, (F g).cells = [F g] := by intro g; kernel_rfl) (hzl : zv.length = 1 := by kernel_rfl)
    (hbig : m + L'.length ≤ maxLen := by first | (simp only [List.length_cons, List.length_nil, maxLen]; omega) | (simp [maxLen]; omega)) (hbig' : (m + L'.length) * bytes ≤ 140737488355328 := by first | omega | (simp only [List.length_cons, List.length_nil]; omega) | (simp; omega))
    (hB : Clr k B := by repeat first | exact clr_nil _ | refine clr_self ?_ | refine clr_map ?_ | refine clr_none ?_ | refine clr_bx ?_ | refine clr_d ?_) : SK P n ops K S B (o :: l) := by
  obtain ⟨hd, hg, hdB⟩ := goK_spec g
  exact zX (appP_sem F L L' (fun g => by rw [hF g]; rfl) ho hd hdB hT hz hzl hby hx (by rw [bxs_one F hF]; exact hb) hL hy hbig hbig' hB) hg r
theorem zO (k E s : Nat) (r : SK P n ops K ((dO o, .own k E s 0) :: S) ((k, some []) :: B) l) (h : nilK o = true := by kernel_rfl) (g : goK n ops S o = true := by kernel_rfl) (hf : freshB k ⟨S, B⟩ = true := by kernel_rfl) : SK P n ops K S B (o :: l) := by
  obtain ⟨hd, hg, hdB⟩ := goK_spec g
  exact zX (nilOwn_sem k E s ((nilK_eq h).elim .inr .inl) hd hdB hf) hg r
end
end Go.Fid
namespace Go.Proofs.YtbecgnplakngdaaGreat
open Go.Fid
set_option maxRecDepth 4000
set_option linter.unusedVariables false
set_option linter.unusedSimpArgs false
theorem by152 : bytesB Tryz.prog 152 = some 4 := by kernel_rfl
theorem cb179 : callB Tryz.prog 179 = true := by kernel_rfl
theorem cb193 : callB Tryz.prog 193 = true := by kernel_rfl
theorem cb194 : callB Tryz.prog 194 = true := by kernel_rfl
theorem cb206 : callB Tryz.prog 206 = true := by kernel_rfl
theorem cb213 : callB Tryz.prog 213 = true := by kernel_rfl
theorem el38 : elemB Tryz.prog 38 = some (152, 1) := by kernel_rfl
theorem in152 : intB Tryz.prog 152 = some .u32 := by kernel_rfl
theorem in154 : intB Tryz.prog 154 = some .u64 := by kernel_rfl
theorem sh152 : shapeB Tryz.prog 152 = some (false, 1) := by kernel_rfl
theorem un152 : (Tryz.prog.underlying 152).isSome = true := by kernel_rfl
theorem un154 : (Tryz.prog.underlying 154).isSome = true := by kernel_rfl
theorem ze152 : zeroB Tryz.prog 152 = some [.int .u32 0] := by kernel_rfl
theorem zo152 : ZOk [.int .u32 0] [.val (.int .u32 0)] := by simp [ZOk, Value.oneCell']
theorem t_at (l : List Nat) (i : Nat) : Takes Tryz.prog 213 [(.sl 152 1 (List.map enc_u32 l)), (.val (.int .i64 (((i : Nat) : Int))))] (.val (.int .u32 ((((l.getD i 0) : Nat) : Int)))) := by
  refine fn_intro Tryz.func213 rfl cb213 rfl ?_
  show PWp _ _ _ _ ⟨[(0, (vl 152 1 enc_u32 l)), (1, (vin i))], []⟩
  refine pwp_seq <| kx [] [] (zM <| zZ) ?_
  refine pwp_seq <| pwp_seq <| kx [(8, (vb (decide (((i : Nat) : Int) < ((l.length : Nat) : Int)))))] [] (zM <| zM <| zE (oLm el38) <| zE oLt <| zZ) ?_
  refine pwp_cond rfl (fun h1 => ?_) (fun h1 => ?_)
  · replace h1 := of_decide_eq_true h1
    refine pwp_seq <| kx [(4, (vwn (l.getD i 0)))] [] (zM <| zM <| zE (oXl el38 i (0 : Nat)) <| zE (oC1 sh152) <| zM <| zZ) ?_
    refine pwp_ret ⟨_, (.tmp (d := (.val (.int .u32 ((((l.getD i 0) : Nat) : Int))))) rfl .nil), ?_⟩
    rfl
  · replace h1 := of_decide_eq_false h1
    refine pwp_skip <| pwp_seq <| kx [(4, (vwn 0))] [] (zM <| zZ) ?_
    refine pwp_ret ⟨_, (.tmp (d := (.val (.int .u32 (0)))) rfl .nil), ?_⟩
    rw [show l.getD i 0 = 0 from getD_out (by omega)]; rfl
theorem t_trim (l0 : List Nat) (hd : Dig l0) (hb : l0.length ≤ 17592186044416) : Takes Tryz.prog 206 [(.sl 152 1 (List.map enc_u32 l0))] (.sl 152 1 (List.map enc_u32 (ofNat (val l0)))) := by
  refine fn_intro Tryz.func206 rfl cb206 rfl ?_
  show PWp _ _ _ _ ⟨[(0, (vl 152 1 enc_u32 l0))], []⟩
  refine pwp_seq <| kx [] [] (zE (oNl 152 1) <| zZ) ?_
  refine pwp_seq <| pwp_block <| pwp_loop (α := List Nat) (fun l => ⟨[(0, (vl 152 1 enc_u32 l))], []⟩) (fun l => Dig l ∧ val l = val l0 ∧ l.length ≤ l0.length) (fun l => l.length) l0 wk ⟨hd, rfl, Nat.le_refl _⟩ ?_
  rintro l ⟨hl, hv, hle⟩
  refine pwp_seq <| pwp_seq <| kx [(14, (vb (decide (0 < ((l.length : Nat) : Int)) && ((((l.getD (l.length - 1) 0) : Nat) : Int) == 0))))] [] ?_ ?_
  · refine zM <| zE (oLm el38) <| zE oGt <| zE (oV (vb (decide (0 < ((l.length : Nat) : Int)))) (mv_ok (by kernel_rfl))) <| ?_
    rcases hb1 : (decide (0 < ((l.length : Nat) : Int))) with _ | _
    · replace hb1 := of_decide_eq_false hb1
      exact zK <| zK <| zK <| zK <| zK <| zK <| zK <| zE oPf <| zZ
    · replace hb1 := of_decide_eq_true hb1
      exact zM <| zM <| zE (oLm el38) <| zE (oSb (l.length - 1)) <| zE (oXl el38 (l.length - 1) (0 : Nat)) <| zE (oC1 sh152) <| zE oEq <| zE oPa <| zZ
  refine pwp_cond rfl (fun h2 => ?_) (fun h2 => ?_)
  · obtain ⟨hp, _⟩ := trim_cond h2
    refine pwp_skip <| pwp_block <| kx [(0, (vl 152 1 enc_u32 (List.take (l.length - 1) l)))] [] (zM <| zM <| zE (oLm el38) <| zE (oSb (l.length - 1)) <| zE (e_slc (l := 0) (h := (l.length - 1)) (kl := .i64) (kh := .i64) (es' := List.map enc_u32 (List.take (l.length - 1) l)) (by exact rfl) el38 (by exact rfl) (by exact rfl) (by exact rfl) (Nat.zero_le _) (by simp only [List.length_map]; omega) (by rw [List.drop_zero, List.map_take])) <| zM <| zZ) ?_
    exact ⟨(l.take (l.length - 1)), wk, (trim_step hl hv hle h2), (trim_less h2)⟩
  · refine pwp_exit <| pwp_seq <| kx [(2, (vl 152 1 enc_u32 l))] [] (zM <| zM <| zZ) ?_
    refine pwp_ret ⟨_, (.tmp (d := (.sl 152 1 (List.map enc_u32 l))) rfl .nil), ?_⟩
    rw [trim_end hl hv h2]; rfl
theorem t_plus (a b : List Nat) (hda : Dig a) (hdb : Dig b) (hla : a.length ≤ 8796093022208) (hlb : b.length ≤ 8796093022208) : Takes Tryz.prog 193 [(.sl 152 1 (List.map enc_u32 a)), (.sl 152 1 (List.map enc_u32 b))] (.sl 152 1 (List.map enc_u32 (ofNat (val a + val b)))) := by
  refine fn_intro Tryz.func193 rfl cb193 rfl ?_
  show PWp _ _ _ _ ⟨[(0, (vl 152 1 enc_u32 a)), (1, (vl 152 1 enc_u32 b))], []⟩
  refine pwp_seq <| kx [] [] (zE (oNl 152 1) <| zZ) ?_
  refine pwp_seq <| kx [(5, (.own 0 152 1 ((max a.length b.length) + 1)))] [(0, some (bm enc_u32 (List.replicate ((max a.length b.length) + 1) 0)))] (zM <| zE (oLm el38) <| zM <| zE (oLm el38) <| zE (oMx (max a.length b.length)) <| zE (oAd ((max a.length b.length) + 1)) <| zN (oMk 0 enc_u32 (0 : Nat) ((max a.length b.length) + 1) ((max a.length b.length) + 1) el38 ze152 zo152 by152) <| zM <| zZ) ?_
  refine pwp_seq <| kx [(6, (vwn 0))] [] (zM <| zZ) ?_
  refine pwp_seq <| pwp_seq <| kx [(17, (vin ((max a.length b.length) + 1))), (18, (vin 0))] [] (zM <| zE (oLo el38) <| zM <| zZ) ?_
  refine pwp_block <| pwp_loop (α := Nat × List Nat × Nat) (fun (i, out, c) => ⟨[(0, (vl 152 1 enc_u32 a)), (1, (vl 152 1 enc_u32 b)), (5, (.own 0 152 1 ((max a.length b.length) + 1))), (6, (vwn c)), (17, (vin ((max a.length b.length) + 1))), (18, (vin i))], [(0, some (bm enc_u32 out))]⟩) (fun (i, out, c) => out.length = max a.length b.length + 1 ∧ Dig out ∧ i ≤ max a.length b.length + 1 ∧ c ≤ 1 ∧ val (out.take i) + pw i * c = val (a.take i) + val (b.take i)) (fun (i, out, c) => max a.length b.length + 1 - i) (0, List.replicate (max a.length b.length + 1) 0, 0) wk ⟨by simp, dig_replicate _, Nat.zero_le _, Nat.zero_le _, by simp [val]⟩ ?_
  rintro ⟨i, out, c⟩ ⟨hlen, hdo, hi, hc, hv⟩
  have hai := hda.getD i
  have hbi := hdb.getD i
  refine pwp_seq <| kx [(19, (vb (decide (((i : Nat) : Int) < ((((max a.length b.length) + 1) : Nat) : Int)))))] [] (zE oLt <| zZ) ?_
  refine pwp_seq <| pwp_cond rfl (fun h1 => ?_) (fun h1 => ?_)
  · replace h1 := of_decide_eq_true h1
    refine pwp_skip <| pwp_seq <| pwp_block <| pwp_seq <| kx [(7, (vin i))] [] (zM <| zM <| zZ) ?_
    refine pwp_seq <| kx [(8, (vwn (((a.getD i 0) + (b.getD i 0)) + c)))] [] (zM <| zM <| zE (oCl (t_at a i)) <| zM <| zM <| zE (oCl (t_at b i)) <| zE (oAd ((a.getD i 0) + (b.getD i 0))) <| zM <| zE (oAd (((a.getD i 0) + (b.getD i 0)) + c)) <| zM <| zZ) ?_
    refine pwp_seq <| kx [(6, (vwn 0))] [] (zM <| zZ) ?_
    refine pwp_seq <| pwp_seq <| kx [(31, (vb (decide (1000000000 ≤ (((((a.getD i 0) + (b.getD i 0)) + c) : Nat) : Int)))))] [] (zM <| zE oGe <| zZ) ?_
    refine pwp_cond rfl (fun h2 => ?_) (fun h2 => ?_)
    · replace h2 := of_decide_eq_true h2
      refine kx [(6, (vwn 1)), (8, (vwn ((((a.getD i 0) + (b.getD i 0)) + c) - 1000000000)))] [] (zM <| zE (oSb ((((a.getD i 0) + (b.getD i 0)) + c) - 1000000000)) <| zM <| zM <| zZ) ?_
      refine kx [] [(0, some (bm enc_u32 (out.set i ((((a.getD i 0) + (b.getD i 0)) + c) - 1000000000))))] (zM <| zM <| zM <| zE (oXo el38 i) <| zT (oSp sh152 i ((((a.getD i 0) + (b.getD i 0)) + c) - 1000000000)) <| zZ) ?_
      refine kx [(18, (vin (i + 1)))] [] (zE (oAd (i + 1)) <| zM <| zZ) ?_
      exact ⟨(i + 1, out.set i (a.getD i 0 + b.getD i 0 + c - 1000000000), 1), wk, (by obtain ⟨q1, q2, q3⟩ := plus_step (s := a.getD i 0 + b.getD i 0 + c - 1000000000) (c' := 1) hlen hdo (by omega) hv (by omega) (by omega); exact ⟨q1, q2, by omega, by omega, q3⟩), (by first | omega | (dsimp only; omega))⟩
    · replace h2 := of_decide_eq_false h2
      refine pwp_skip <| kx [] [(0, some (bm enc_u32 (out.set i (((a.getD i 0) + (b.getD i 0)) + c))))] (zM <| zM <| zM <| zE (oXo el38 i) <| zT (oSp sh152 i (((a.getD i 0) + (b.getD i 0)) + c)) <| zZ) ?_
      refine kx [(18, (vin (i + 1)))] [] (zE (oAd (i + 1)) <| zM <| zZ) ?_
      exact ⟨(i + 1, out.set i (a.getD i 0 + b.getD i 0 + c), 0), wk, (by obtain ⟨q1, q2, q3⟩ := plus_step (s := a.getD i 0 + b.getD i 0 + c) (c' := 0) hlen hdo (by omega) hv (by omega) (by omega); exact ⟨q1, q2, by omega, by omega, q3⟩), (by first | omega | (dsimp only; omega))⟩
  · replace h1 := of_decide_eq_false h1
    have hie : i = max a.length b.length + 1 := by omega
    rw [hie] at hv
    refine pwp_exit <| pwp_seq <| pwp_sim (publish (t := 5) (k := 0) (es := List.map enc_u32 out) rfl rfl (pub_cells _ _ (fun _ => rfl)) (map_len _ _ hlen) (pub_take _ _ (fun _ => rfl) hlen)) ?_
    refine kx [(4, (vl 152 1 enc_u32 (ofNat (val out))))] [] (zM <| zE (oCl (t_trim out (by assumption) (by omega))) <| zM <| zZ) ?_
    refine pwp_ret ⟨_, (.tmp (d := (.sl 152 1 (List.map enc_u32 (ofNat (val out))))) rfl .nil), ?_⟩
    rw [plus_end hda hdb hlen hv]; rfl
theorem t_minus (a b : List Nat) (hda : Dig a) (hdb : Dig b) (hba : val b ≤ val a) (hla : a.length ≤ 8796093022208) : Takes Tryz.prog 194 [(.sl 152 1 (List.map enc_u32 a)), (.sl 152 1 (List.map enc_u32 b))] (.sl 152 1 (List.map enc_u32 (ofNat (val a - val b)))) := by
  refine fn_intro Tryz.func194 rfl cb194 rfl ?_
  show PWp _ _ _ _ ⟨[(0, (vl 152 1 enc_u32 a)), (1, (vl 152 1 enc_u32 b))], []⟩
  refine pwp_seq <| kx [] [] (zE (oNl 152 1) <| zZ) ?_
  refine pwp_seq <| kx [(5, (.own 0 152 1 a.length))] [(0, some (bm enc_u32 (List.replicate a.length 0)))] (zM <| zE (oLm el38) <| zN (oMk 0 enc_u32 (0 : Nat) a.length a.length el38 ze152 zo152 by152) <| zM <| zZ) ?_
  refine pwp_seq <| kx [(6, (vwn 0))] [] (zM <| zZ) ?_
  refine pwp_seq <| pwp_seq <| kx [(13, (vin a.length)), (14, (vin 0))] [] (zM <| zE (oLo el38) <| zM <| zZ) ?_
  refine pwp_block <| pwp_loop (α := Nat × List Nat × Nat) (fun (i, out, c) => ⟨[(0, (vl 152 1 enc_u32 a)), (1, (vl 152 1 enc_u32 b)), (5, (.own 0 152 1 a.length)), (6, (vwn c)), (13, (vin a.length)), (14, (vin i))], [(0, some (bm enc_u32 out))]⟩) (fun (i, out, c) => out.length = a.length ∧ Dig out ∧ i ≤ a.length ∧ c ≤ 1 ∧ val (out.take i) + val (b.take i) = val (a.take i) + pw i * c) (fun (i, out, c) => a.length - i) (0, List.replicate a.length 0, 0) wk ⟨by simp, dig_replicate _, Nat.zero_le _, Nat.zero_le _, by simp [val]⟩ ?_
  rintro ⟨i, out, c⟩ ⟨hlen, hdo, hi, hc, hv⟩
  have hai := hda.getD i
  have hbi := hdb.getD i
  refine pwp_seq <| kx [(15, (vb (decide (((i : Nat) : Int) < ((a.length : Nat) : Int)))))] [] (zE oLt <| zZ) ?_
  refine pwp_seq <| pwp_cond rfl (fun h1 => ?_) (fun h1 => ?_)
  · replace h1 := of_decide_eq_true h1
    refine pwp_skip <| pwp_seq <| pwp_block <| pwp_seq <| kx [(7, (vin i))] [] (zM <| zM <| zZ) ?_
    refine pwp_seq <| kx [(8, (vwn ((b.getD i 0) + c)))] [] (zM <| zM <| zE (oCl (t_at b i)) <| zM <| zE (oAd ((b.getD i 0) + c)) <| zM <| zZ) ?_
    refine pwp_seq <| kx [(6, (vwn 0))] [] (zM <| zZ) ?_
    refine pwp_seq <| kx [(27, (vb (decide ((((a.getD i 0) : Nat) : Int) < ((((b.getD i 0) + c) : Nat) : Int)))))] [] (zM <| zM <| zE (oXl el38 i (0 : Nat)) <| zE (oC1 sh152) <| zM <| zE oLt <| zZ) ?_
    refine pwp_cond rfl (fun h2 => ?_) (fun h2 => ?_)
    · replace h2 := of_decide_eq_true h2
      refine kx [(6, (vwn 1))] [(0, some (bm enc_u32 (out.set i (((a.getD i 0) + 1000000000) - ((b.getD i 0) + c)))))] (zM <| zM <| zM <| zM <| zE (oXl el38 i (0 : Nat)) <| zE (oC1 sh152) <| zE (oAd ((a.getD i 0) + 1000000000)) <| zM <| zE (oSb (((a.getD i 0) + 1000000000) - ((b.getD i 0) + c))) <| zE (oXo el38 i) <| zT (oSp sh152 i (((a.getD i 0) + 1000000000) - ((b.getD i 0) + c))) <| zM <| zZ) ?_
      refine kx [(14, (vin (i + 1)))] [] (zE (oAd (i + 1)) <| zM <| zZ) ?_
      exact ⟨(i + 1, out.set i (a.getD i 0 + 1000000000 - (b.getD i 0 + c)), 1), wk, (by obtain ⟨q1, q2, q3⟩ := minus_step (s := a.getD i 0 + 1000000000 - (b.getD i 0 + c)) (c' := 1) hlen hdo (by omega) hv (by omega) (by omega); exact ⟨q1, q2, by omega, by omega, q3⟩), (by first | omega | (dsimp only; omega))⟩
    · replace h2 := of_decide_eq_false h2
      refine kx [] [(0, some (bm enc_u32 (out.set i ((a.getD i 0) - ((b.getD i 0) + c)))))] (zM <| zM <| zM <| zM <| zE (oXl el38 i (0 : Nat)) <| zE (oC1 sh152) <| zM <| zE (oSb ((a.getD i 0) - ((b.getD i 0) + c))) <| zE (oXo el38 i) <| zT (oSp sh152 i ((a.getD i 0) - ((b.getD i 0) + c))) <| zZ) ?_
      refine kx [(14, (vin (i + 1)))] [] (zE (oAd (i + 1)) <| zM <| zZ) ?_
      exact ⟨(i + 1, out.set i (a.getD i 0 - (b.getD i 0 + c)), 0), wk, (by obtain ⟨q1, q2, q3⟩ := minus_step (s := a.getD i 0 - (b.getD i 0 + c)) (c' := 0) hlen hdo (by omega) hv (by omega) (by omega); exact ⟨q1, q2, by omega, by omega, q3⟩), (by first | omega | (dsimp only; omega))⟩
  · replace h1 := of_decide_eq_false h1
    have hie : i = a.length := by omega
    rw [hie] at hv
    refine pwp_exit <| pwp_seq <| pwp_sim (publish (t := 5) (k := 0) (es := List.map enc_u32 out) rfl rfl (pub_cells _ _ (fun _ => rfl)) (map_len _ _ hlen) (pub_take _ _ (fun _ => rfl) hlen)) ?_
    refine kx [(4, (vl 152 1 enc_u32 (ofNat (val out))))] [] (zM <| zE (oCl (t_trim out (by assumption) (by omega))) <| zM <| zZ) ?_
    refine pwp_ret ⟨_, (.tmp (d := (.sl 152 1 (List.map enc_u32 (ofNat (val out))))) rfl .nil), ?_⟩
    rw [minus_end hda hdb hdo hba hlen hv]; rfl
theorem t_times (a b : List Nat) (hda : Dig a) (hdb : Dig b) (hla : a.length ≤ 4398046511104) (hlb : b.length ≤ 4398046511104) : Takes Tryz.prog 179 [(.sl 152 1 (List.map enc_u32 a)), (.sl 152 1 (List.map enc_u32 b))] (.sl 152 1 (List.map enc_u32 (ofNat (val a * val b)))) := by
  refine fn_intro Tryz.func179 rfl cb179 rfl ?_
  show PWp _ _ _ _ ⟨[(0, (vl 152 1 enc_u32 a)), (1, (vl 152 1 enc_u32 b))], []⟩
  refine pwp_seq <| kx [] [] (zE (oNl 152 1) <| zZ) ?_
  refine pwp_seq <| kx [(5, (.own 0 152 1 (a.length + b.length)))] [(0, some (bm enc_u32 (List.replicate (a.length + b.length) 0)))] (zM <| zE (oLm el38) <| zM <| zE (oLm el38) <| zE (oAd (a.length + b.length)) <| zN (oMk 0 enc_u32 (0 : Nat) (a.length + b.length) (a.length + b.length) el38 ze152 zo152 by152) <| zM <| zZ) ?_
  refine pwp_seq <| pwp_seq <| kx [(18, (vl 152 1 enc_u32 a)), (19, (vin a.length)), (20, (vin 0))] [] (zM <| zE (oLm el38) <| zM <| zZ) ?_
  refine pwp_block <| pwp_loop (α := Nat × List Nat) (fun (i, out) => ⟨[(1, (vl 152 1 enc_u32 b)), (5, (.own 0 152 1 (a.length + b.length))), (18, (vl 152 1 enc_u32 a)), (19, (vin a.length)), (20, (vin i))], [(0, some (bm enc_u32 out))]⟩) (fun (i, out) => out.length = a.length + b.length ∧ Dig out ∧ i ≤ a.length ∧ (∀ k, i + b.length ≤ k → out.getD k 0 = 0) ∧ val out = val (a.take i) * val b) (fun (i, out) => a.length - i) (0, List.replicate (a.length + b.length) 0) wk ⟨by simp, dig_replicate _, Nat.zero_le _, fun k _ => getD_replicate _ k, by simp [val, val_replicate]⟩ ?_
  rintro ⟨i, out⟩ ⟨hlen, hdo, hi, hz, hv⟩
  have hai := hda.getD i
  refine pwp_seq <| kx [(21, (vb (decide (((i : Nat) : Int) < ((a.length : Nat) : Int)))))] [] (zE oLt <| zZ) ?_
  refine pwp_seq <| pwp_cond rfl (fun h1 => ?_) (fun h1 => ?_)
  · replace h1 := of_decide_eq_true h1
    refine pwp_skip <| pwp_seq <| pwp_block <| pwp_seq <| kx [(6, (vin i)), (7, (vwn (a.getD i 0)))] [] (zM <| zE (oXl el38 i (0 : Nat)) <| zE (oC1 sh152) <| zM <| zM <| zZ) ?_
    refine pwp_seq <| kx [(8, (vqn 0))] [] (zM <| zZ) ?_
    refine pwp_seq <| pwp_seq <| kx [(25, (vl 152 1 enc_u32 b)), (26, (vin b.length)), (27, (vin 0))] [] (zM <| zE (oLm el38) <| zM <| zZ) ?_
    refine pwp_block <| pwp_loop (α := Nat × List Nat × Nat) (fun (j, o2, c) => ⟨[(1, (vl 152 1 enc_u32 b)), (5, (.own 0 152 1 (a.length + b.length))), (6, (vin i)), (7, (vwn (a.getD i 0))), (8, (vqn c)), (18, (vl 152 1 enc_u32 a)), (19, (vin a.length)), (20, (vin i)), (25, (vl 152 1 enc_u32 b)), (26, (vin b.length)), (27, (vin j))], [(0, some (bm enc_u32 o2))]⟩) (fun (j, o2, c) => o2.length = a.length + b.length ∧ Dig o2 ∧ j ≤ b.length ∧ c < 1000000000 ∧ (∀ k, i + b.length ≤ k → o2.getD k 0 = 0) ∧ val o2 + pw (i + j) * c = val (a.take i) * val b + pw i * (a.getD i 0 * val (b.take j))) (fun (j, o2, c) => b.length - j) (0, out, 0) wk ⟨hlen, hdo, Nat.zero_le _, by decide, hz, by simp [val, hv]⟩ ?_
    rintro ⟨j, o2, c⟩ ⟨hlen2, hdo2, hj, hc, hz2, hv2⟩
    have hbj := hdb.getD j
    have hoj := hdo2.getD (i + j)
    have hpq : a.getD i 0 * b.getD j 0 ≤ 999999999 * 999999999 := Nat.mul_le_mul (by omega) (by omega)
    refine pwp_seq <| kx [(28, (vb (decide (((j : Nat) : Int) < ((b.length : Nat) : Int)))))] [] (zE oLt <| zZ) ?_
    refine pwp_seq <| pwp_cond rfl (fun h2 => ?_) (fun h2 => ?_)
    · replace h2 := of_decide_eq_true h2
      refine pwp_skip <| pwp_seq <| pwp_block <| pwp_seq <| kx [(9, (vin j)), (10, (vwn (b.getD j 0)))] [] (zM <| zE (oXl el38 j (0 : Nat)) <| zE (oC1 sh152) <| zM <| zM <| zZ) ?_
      refine pwp_seq <| kx [(11, (vqn (((o2.getD (i + j) 0) + ((a.getD i 0) * (b.getD j 0))) + c)))] [] (zM <| zM <| zM <| zE (oAd (i + j)) <| zE (oXo el38 (i + j)) <| zR (oLp sh152 (i + j) (0 : Nat)) <| zE (oCv un152 in154 (o2.getD (i + j) 0)) <| zM <| zE (oCv un152 in154 (a.getD i 0)) <| zM <| zE (oCv un152 in154 (b.getD j 0)) <| zE (oMl ((a.getD i 0) * (b.getD j 0))) <| zE (oAd ((o2.getD (i + j) 0) + ((a.getD i 0) * (b.getD j 0)))) <| zM <| zE (oAd (((o2.getD (i + j) 0) + ((a.getD i 0) * (b.getD j 0))) + c)) <| zM <| zZ) ?_
      refine kx [(8, (vqn ((((o2.getD (i + j) 0) + ((a.getD i 0) * (b.getD j 0))) + c) / 1000000000)))] [(0, some (bm enc_u32 (o2.set (i + j) ((((o2.getD (i + j) 0) + ((a.getD i 0) * (b.getD j 0))) + c) % 1000000000))))] (zM <| zM <| zM <| zE (oAd (i + j)) <| zM <| zE (oRe ((((o2.getD (i + j) 0) + ((a.getD i 0) * (b.getD j 0))) + c) % 1000000000)) <| zE (oCv un154 in152 ((((o2.getD (i + j) 0) + ((a.getD i 0) * (b.getD j 0))) + c) % 1000000000)) <| zM <| zE (oQu ((((o2.getD (i + j) 0) + ((a.getD i 0) * (b.getD j 0))) + c) / 1000000000)) <| zE (oXo el38 (i + j)) <| zT (oSp sh152 (i + j) ((((o2.getD (i + j) 0) + ((a.getD i 0) * (b.getD j 0))) + c) % 1000000000)) <| zM <| zZ) ?_
      refine kx [(27, (vin (j + 1)))] [] (zE (oAd (j + 1)) <| zM <| zZ) ?_
      exact ⟨(j + 1, o2.set (i + j) ((o2.getD (i + j) 0 + a.getD i 0 * b.getD j 0 + c) % 1000000000), (o2.getD (i + j) 0 + a.getD i 0 * b.getD j 0 + c) / 1000000000), wk, (by obtain ⟨q1, q2⟩ := times_step (by omega) hdo2 hv2 rfl (val_take_succ b j); exact ⟨by simpa using hlen2, q1, by omega, by omega, zero_set (by omega) hz2, q2⟩), (by first | omega | (dsimp only; omega))⟩
    · replace h2 := of_decide_eq_false h2
      have hje : j = b.length := by omega
      rw [hje] at hv2
      refine pwp_exit <| kx [] [(0, some (bm enc_u32 (o2.set (i + b.length) c)))] (zM <| zM <| zM <| zE (oLm el38) <| zE (oAd (i + b.length)) <| zM <| zE (oCv un154 in152 c) <| zE (oXo el38 (i + b.length)) <| zT (oSp sh152 (i + b.length) c) <| zZ) ?_
      refine kx [(20, (vin (i + 1)))] [] (zE (oAd (i + 1)) <| zM <| zZ) ?_
      exact ⟨(i + 1, o2.set (i + b.length) c), wk, (by obtain ⟨q1, q2, q3, q4⟩ := times_row hdo2 (by omega) hlen2 hz2 hc hv2; exact ⟨q1, q2, by omega, q3, q4⟩), (by first | omega | (dsimp only; omega))⟩
  · replace h1 := of_decide_eq_false h1
    have hie : i = a.length := by omega
    rw [hie, List.take_length] at hv
    refine pwp_exit <| pwp_seq <| pwp_sim (publish (t := 5) (k := 0) (es := List.map enc_u32 out) rfl rfl (pub_cells _ _ (fun _ => rfl)) (map_len _ _ hlen) (pub_take _ _ (fun _ => rfl) hlen)) ?_
    refine kx [(4, (vl 152 1 enc_u32 (ofNat (val out))))] [] (zM <| zE (oCl (t_trim out (by assumption) (by omega))) <| zM <| zZ) ?_
    refine pwp_ret ⟨_, (.tmp (d := (.sl 152 1 (List.map enc_u32 (ofNat (val out))))) rfl .nil), ?_⟩
    rw [hv]; rfl
end Go.Proofs.YtbecgnplakngdaaGreat
namespace Go.Proofs.YtbecgnplakngdaaGreat
open Go.RowKit Go.Shelf
attribute [local go_sem] Oper.semAt_some
set_option maxRecDepth 100000 in
set_option maxHeartbeats 2000000 in
theorem back1 (N l Bs b off len cap : Nat) (u : Nat → Value) (hlen : (len : Int) ≤ 9223372036854775807) (J : Nat → World → Prop) (Jx : World → Prop)
    (hc : ∀ j W, J j W → W.cell? ⟨Bs, 0, none⟩ = some (.slice (some ⟨b, off, none⟩) len cap) ∧ ∀ i, i < len → W.cell? ⟨b, off + i, none⟩ = some (u i))
    (hY : ∀ j W, J j W → j < len → YieldAt Fence.wide N Tryz.prog l #[.int .i64 ((len : Int) - 1 - (j : Int)), u (len - 1 - j)] W fun e W' =>
      (e = .returned (.bool true) ∧ J (j + 1) W') ∨ (e = .returned (.bool false) ∧ Jx W'))
    (W : World) (h0 : J 0 W) :
    CallsIn Fence.wide (N + 1) Tryz.prog 203 #[.func (.yield l) #[] #[], .pointer (some ⟨Bs, 0, none⟩)] W fun e W' => (∃ v, e = .returned v) ∧ (J len W' ∨ Jx W') := by
  refine callsIn_of_wp Tryz.func203 rfl trivial ?_ rfl
  simp only [Tryz.ntmps203, List.size_toArray, List.length_cons, List.length_nil, Nat.reduceAdd, Nat.reduceSub, Array.replicate_succ, Array.replicate_zero, List.push_toArray, List.append_toArray, List.nil_append, List.cons_append]
  have hBs := (hc 0 W h0).1
  gi_wp2
  gi_loopw [3] (fun i wr => ∃ j : Nat, j ≤ len ∧ i = .int .i64 ((len : Int) - 1 - (j : Int)) ∧ J j wr)
    (fun i _ => (intOf i + 1).toNat)
  case atStart => exact ⟨0, Nat.zero_le _, by simp, h0⟩
  case round =>
    obtain ⟨j, hk, rfl, hJs⟩ := hrel
    have hBj := (hc j wr hJs).1
    by_cases hlt : j < len
    · have hcj := (hc j wr hJs).2 (len - 1 - j) (by omega)
      obtain ⟨fn, tmps, assign, body, hy, hR⟩ := hY j wr hJs hlt
      gi_wp2
      refine hR.mono ?_
      rintro e W3 (⟨rfl, hJ3⟩ | ⟨rfl, hJx3⟩)
      · gi_wp2
        go_roundw
        case rel => exact ⟨j + 1, by omega, by simp; omega, hJ3⟩
        case measure => simp [intOf]; omega
      · gi_wp2
        refine bodyPost_ret (results_none rfl _ _ _) rfl ?_
        exact ⟨⟨_, rfl⟩, .inr hJx3⟩
    · obtain rfl : j = len := by omega
      gi_wp2
      go_end0
      exact ⟨⟨_, rfl⟩, .inl hJs⟩
set_option maxRecDepth 100000 in
set_option maxHeartbeats 2000000 in
theorem back1_nil (N l Bs cap : Nat) (ao : Option Addr) (J : World → Prop) (W : World) (hBs : W.cell? ⟨Bs, 0, none⟩ = some (.slice ao 0 cap)) (h0 : J W) :
    CallsIn Fence.wide (N + 1) Tryz.prog 203 #[.func (.yield l) #[] #[], .pointer (some ⟨Bs, 0, none⟩)] W fun e W' => (∃ v, e = .returned v) ∧ J W' := by
  refine callsIn_of_wp Tryz.func203 rfl trivial ?_ rfl
  simp only [Tryz.ntmps203, List.size_toArray, List.length_cons, List.length_nil, Nat.reduceAdd, Nat.reduceSub, Array.replicate_succ, Array.replicate_zero, List.push_toArray, List.append_toArray, List.nil_append, List.cons_append]
  gi_wp2
  gi_loopw [3] (fun i wr => i = .int .i64 (-1) ∧ J wr) (fun _ _ => 0)
  case atStart => exact ⟨by simp, h0⟩
  case round =>
    obtain ⟨rfl, hJs⟩ := hrel
    gi_wp2
    go_end0
    exact ⟨⟨_, rfl⟩, hJs⟩
set_option maxHeartbeats 1000000 in
theorem back_in (a : Option Addr) (len cap : Nat) (w : World) :
    Calls Tryz.prog 166 #[.slice a len cap] w fun e w' => e = .returned (.func (.func 203) #[] #[.pointer (some ⟨w.heap.size, 0, none⟩)]) ∧ w' = w.alloc (.cells #[.slice a len cap] 38) := by
  refine (callsIn_wide (n := 1)).1 (callsIn_of_wp Tryz.func166 rfl trivial ?_ rfl)
  simp only [Tryz.ntmps166, List.size_toArray, List.length_cons, List.length_nil, Nat.reduceAdd, Nat.reduceSub, Array.replicate_succ, Array.replicate_zero, List.push_toArray, List.append_toArray, List.nil_append, List.cons_append]
  gi_wp2
  go_ret
  exact ⟨rfl, rfl⟩
theorem backs : Go.Fid.Backs Tryz.prog 166 203 38 := ⟨back_in, back1_nil, fun N l c b off len cap u hlen J Jx hc hY W h0 => back1 N l c b off len cap u hlen J Jx hc hY W h0, enters_of Tryz.func203 (by kernel_rfl) rfl⟩
end Go.Proofs.YtbecgnplakngdaaGreat
