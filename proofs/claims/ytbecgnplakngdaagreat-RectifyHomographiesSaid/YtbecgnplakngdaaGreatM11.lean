/- Part 11 of a proof: rules, plain facts, and functions walked. -/
import Derived.Test.YtbecgnplakngdaaGreatM7
import Derived.Test.YtbecgnplakngdaaGreatM10
import Derived.Test.YtbecgnplakngdaaGreatChecked
import Derived.LoopNIn
namespace Go.Proofs.YtbecgnplakngdaaGreat
open Go.Fid
def jH (x : jF) : qF := .agg [.val (.bool x.neg), .sl 152 1 (x.gs.map jB)]
def jO (x : kG) : qF := .agg [.val (.bool x.num.neg), .sl 152 1 (x.num.gs.map jB), .val (.bool x.den.neg), .sl 152 1 (x.den.gs.map jB)]
structure kM where
 x : Int
 y : Int
structure qI where
 x : kG
 y : kG
def kI (x : qI) : qF := .agg [.val (.bool x.x.num.neg), .sl 152 1 (x.x.num.gs.map jB), .val (.bool x.x.den.neg), .sl 152 1 (x.x.den.gs.map jB), .val (.bool x.y.num.neg), .sl 152 1 (x.y.num.gs.map jB), .val (.bool x.y.den.neg), .sl 152 1 (x.y.den.gs.map jB)]
structure jT where
 x : Int
 y : Int
 z : Int
def fR (x : jT) : qF := .agg [.val (.int .i64 x.x), .val (.int .i64 x.y), .val (.int .i64 x.z)]
structure jN where
 a : Int
 b : Int
 c : Int
 d : Int
def uI (x : jN) : qF := .agg [.val (.int .i64 x.a), .val (.int .i64 x.b), .val (.int .i64 x.c), .val (.int .i64 x.d)]
structure kJ where
 at_ : jT
 turn : jN
 focal : Int
 centre : kM
def uZ (x : kJ) : qF := .agg [.val (.int .i64 x.at_.x), .val (.int .i64 x.at_.y), .val (.int .i64 x.at_.z), .val (.int .i64 x.turn.a), .val (.int .i64 x.turn.b), .val (.int .i64 x.turn.c), .val (.int .i64 x.turn.d), .val (.int .i64 x.focal), .val (.int .i64 x.centre.x), .val (.int .i64 x.centre.y)]
structure kY where
 left : kJ
 right : kJ
def qP (x : kY) : qF := .agg [.val (.int .i64 x.left.at_.x), .val (.int .i64 x.left.at_.y), .val (.int .i64 x.left.at_.z), .val (.int .i64 x.left.turn.a), .val (.int .i64 x.left.turn.b), .val (.int .i64 x.left.turn.c), .val (.int .i64 x.left.turn.d), .val (.int .i64 x.left.focal), .val (.int .i64 x.left.centre.x), .val (.int .i64 x.left.centre.y), .val (.int .i64 x.right.at_.x), .val (.int .i64 x.right.at_.y), .val (.int .i64 x.right.at_.z), .val (.int .i64 x.right.turn.a), .val (.int .i64 x.right.turn.b), .val (.int .i64 x.right.turn.c), .val (.int .i64 x.right.turn.d), .val (.int .i64 x.right.focal), .val (.int .i64 x.right.centre.x), .val (.int .i64 x.right.centre.y)]
structure A3 (α : Type) where
 a0 : α
 a1 : α
 a2 : α
structure A4 (α : Type) where
 a0 : α
 a1 : α
 a2 : α
 a3 : α
structure A9 (α : Type) where
 a0 : α
 a1 : α
 a2 : α
 a3 : α
 a4 : α
 a5 : α
 a6 : α
 a7 : α
 a8 : α
def jY (x : A3 (kG)) : qF := .agg [.val (.bool x.a0.num.neg), .sl 152 1 (x.a0.num.gs.map jB), .val (.bool x.a0.den.neg), .sl 152 1 (x.a0.den.gs.map jB), .val (.bool x.a1.num.neg), .sl 152 1 (x.a1.num.gs.map jB), .val (.bool x.a1.den.neg), .sl 152 1 (x.a1.den.gs.map jB), .val (.bool x.a2.num.neg), .sl 152 1 (x.a2.num.gs.map jB), .val (.bool x.a2.den.neg), .sl 152 1 (x.a2.den.gs.map jB)]
def bJ (x : A3 (A3 (kG))) : qF := .agg [.val (.bool x.a0.a0.num.neg), .sl 152 1 (x.a0.a0.num.gs.map jB), .val (.bool x.a0.a0.den.neg), .sl 152 1 (x.a0.a0.den.gs.map jB), .val (.bool x.a0.a1.num.neg), .sl 152 1 (x.a0.a1.num.gs.map jB), .val (.bool x.a0.a1.den.neg), .sl 152 1 (x.a0.a1.den.gs.map jB), .val (.bool x.a0.a2.num.neg), .sl 152 1 (x.a0.a2.num.gs.map jB), .val (.bool x.a0.a2.den.neg), .sl 152 1 (x.a0.a2.den.gs.map jB), .val (.bool x.a1.a0.num.neg), .sl 152 1 (x.a1.a0.num.gs.map jB), .val (.bool x.a1.a0.den.neg), .sl 152 1 (x.a1.a0.den.gs.map jB), .val (.bool x.a1.a1.num.neg), .sl 152 1 (x.a1.a1.num.gs.map jB), .val (.bool x.a1.a1.den.neg), .sl 152 1 (x.a1.a1.den.gs.map jB), .val (.bool x.a1.a2.num.neg), .sl 152 1 (x.a1.a2.num.gs.map jB), .val (.bool x.a1.a2.den.neg), .sl 152 1 (x.a1.a2.den.gs.map jB), .val (.bool x.a2.a0.num.neg), .sl 152 1 (x.a2.a0.num.gs.map jB), .val (.bool x.a2.a0.den.neg), .sl 152 1 (x.a2.a0.den.gs.map jB), .val (.bool x.a2.a1.num.neg), .sl 152 1 (x.a2.a1.num.gs.map jB), .val (.bool x.a2.a1.den.neg), .sl 152 1 (x.a2.a1.den.gs.map jB), .val (.bool x.a2.a2.num.neg), .sl 152 1 (x.a2.a2.num.gs.map jB), .val (.bool x.a2.a2.den.neg), .sl 152 1 (x.a2.a2.den.gs.map jB)]
def kS (x : A3 (jF)) : qF := .agg [.val (.bool x.a0.neg), .sl 152 1 (x.a0.gs.map jB), .val (.bool x.a1.neg), .sl 152 1 (x.a1.gs.map jB), .val (.bool x.a2.neg), .sl 152 1 (x.a2.gs.map jB)]
def qL (x : A9 (jF)) : qF := .agg [.val (.bool x.a0.neg), .sl 152 1 (x.a0.gs.map jB), .val (.bool x.a1.neg), .sl 152 1 (x.a1.gs.map jB), .val (.bool x.a2.neg), .sl 152 1 (x.a2.gs.map jB), .val (.bool x.a3.neg), .sl 152 1 (x.a3.gs.map jB), .val (.bool x.a4.neg), .sl 152 1 (x.a4.gs.map jB), .val (.bool x.a5.neg), .sl 152 1 (x.a5.gs.map jB), .val (.bool x.a6.neg), .sl 152 1 (x.a6.gs.map jB), .val (.bool x.a7.neg), .sl 152 1 (x.a7.gs.map jB), .val (.bool x.a8.neg), .sl 152 1 (x.a8.gs.map jB)]
def qU (x : A3 (A3 (kG))) : qF := .agg [.val (.bool x.a0.a0.num.neg), .sl 152 1 (x.a0.a0.num.gs.map jB), .val (.bool x.a0.a0.den.neg), .sl 152 1 (x.a0.a0.den.gs.map jB), .val (.bool x.a0.a1.num.neg), .sl 152 1 (x.a0.a1.num.gs.map jB), .val (.bool x.a0.a1.den.neg), .sl 152 1 (x.a0.a1.den.gs.map jB), .val (.bool x.a0.a2.num.neg), .sl 152 1 (x.a0.a2.num.gs.map jB), .val (.bool x.a0.a2.den.neg), .sl 152 1 (x.a0.a2.den.gs.map jB), .val (.bool x.a1.a0.num.neg), .sl 152 1 (x.a1.a0.num.gs.map jB), .val (.bool x.a1.a0.den.neg), .sl 152 1 (x.a1.a0.den.gs.map jB), .val (.bool x.a1.a1.num.neg), .sl 152 1 (x.a1.a1.num.gs.map jB), .val (.bool x.a1.a1.den.neg), .sl 152 1 (x.a1.a1.den.gs.map jB), .val (.bool x.a1.a2.num.neg), .sl 152 1 (x.a1.a2.num.gs.map jB), .val (.bool x.a1.a2.den.neg), .sl 152 1 (x.a1.a2.den.gs.map jB), .val (.bool x.a2.a0.num.neg), .sl 152 1 (x.a2.a0.num.gs.map jB), .val (.bool x.a2.a0.den.neg), .sl 152 1 (x.a2.a0.den.gs.map jB), .val (.bool x.a2.a1.num.neg), .sl 152 1 (x.a2.a1.num.gs.map jB), .val (.bool x.a2.a1.den.neg), .sl 152 1 (x.a2.a1.den.gs.map jB), .val (.bool x.a2.a2.num.neg), .sl 152 1 (x.a2.a2.num.gs.map jB), .val (.bool x.a2.a2.den.neg), .sl 152 1 (x.a2.a2.den.gs.map jB)]
def encA203 (x : A3 (Int)) : qF := .agg [.val (.int .i64 x.a0), .val (.int .i64 x.a1), .val (.int .i64 x.a2)]
def encA204 (x : A3 (A3 (Int))) : qF := .agg [.val (.int .i64 x.a0.a0), .val (.int .i64 x.a0.a1), .val (.int .i64 x.a0.a2), .val (.int .i64 x.a1.a0), .val (.int .i64 x.a1.a1), .val (.int .i64 x.a1.a2), .val (.int .i64 x.a2.a0), .val (.int .i64 x.a2.a1), .val (.int .i64 x.a2.a2)]
def aL (x : A4 (Int)) : qF := .agg [.val (.int .i64 x.a0), .val (.int .i64 x.a1), .val (.int .i64 x.a2), .val (.int .i64 x.a3)]
structure RRp where
 left : kJ
 right : kJ
 base : A3 (kG)
 axes : A3 (A3 (kG))
def eG (x : RRp) : qF := .agg [.val (.int .i64 x.left.at_.x), .val (.int .i64 x.left.at_.y), .val (.int .i64 x.left.at_.z), .val (.int .i64 x.left.turn.a), .val (.int .i64 x.left.turn.b), .val (.int .i64 x.left.turn.c), .val (.int .i64 x.left.turn.d), .val (.int .i64 x.left.focal), .val (.int .i64 x.left.centre.x), .val (.int .i64 x.left.centre.y), .val (.int .i64 x.right.at_.x), .val (.int .i64 x.right.at_.y), .val (.int .i64 x.right.at_.z), .val (.int .i64 x.right.turn.a), .val (.int .i64 x.right.turn.b), .val (.int .i64 x.right.turn.c), .val (.int .i64 x.right.turn.d), .val (.int .i64 x.right.focal), .val (.int .i64 x.right.centre.x), .val (.int .i64 x.right.centre.y), .val (.bool x.base.a0.num.neg), .sl 152 1 (x.base.a0.num.gs.map jB), .val (.bool x.base.a0.den.neg), .sl 152 1 (x.base.a0.den.gs.map jB), .val (.bool x.base.a1.num.neg), .sl 152 1 (x.base.a1.num.gs.map jB), .val (.bool x.base.a1.den.neg), .sl 152 1 (x.base.a1.den.gs.map jB), .val (.bool x.base.a2.num.neg), .sl 152 1 (x.base.a2.num.gs.map jB), .val (.bool x.base.a2.den.neg), .sl 152 1 (x.base.a2.den.gs.map jB), .val (.bool x.axes.a0.a0.num.neg), .sl 152 1 (x.axes.a0.a0.num.gs.map jB), .val (.bool x.axes.a0.a0.den.neg), .sl 152 1 (x.axes.a0.a0.den.gs.map jB), .val (.bool x.axes.a0.a1.num.neg), .sl 152 1 (x.axes.a0.a1.num.gs.map jB), .val (.bool x.axes.a0.a1.den.neg), .sl 152 1 (x.axes.a0.a1.den.gs.map jB), .val (.bool x.axes.a0.a2.num.neg), .sl 152 1 (x.axes.a0.a2.num.gs.map jB), .val (.bool x.axes.a0.a2.den.neg), .sl 152 1 (x.axes.a0.a2.den.gs.map jB), .val (.bool x.axes.a1.a0.num.neg), .sl 152 1 (x.axes.a1.a0.num.gs.map jB), .val (.bool x.axes.a1.a0.den.neg), .sl 152 1 (x.axes.a1.a0.den.gs.map jB), .val (.bool x.axes.a1.a1.num.neg), .sl 152 1 (x.axes.a1.a1.num.gs.map jB), .val (.bool x.axes.a1.a1.den.neg), .sl 152 1 (x.axes.a1.a1.den.gs.map jB), .val (.bool x.axes.a1.a2.num.neg), .sl 152 1 (x.axes.a1.a2.num.gs.map jB), .val (.bool x.axes.a1.a2.den.neg), .sl 152 1 (x.axes.a1.a2.den.gs.map jB), .val (.bool x.axes.a2.a0.num.neg), .sl 152 1 (x.axes.a2.a0.num.gs.map jB), .val (.bool x.axes.a2.a0.den.neg), .sl 152 1 (x.axes.a2.a0.den.gs.map jB), .val (.bool x.axes.a2.a1.num.neg), .sl 152 1 (x.axes.a2.a1.num.gs.map jB), .val (.bool x.axes.a2.a1.den.neg), .sl 152 1 (x.axes.a2.a1.den.gs.map jB), .val (.bool x.axes.a2.a2.num.neg), .sl 152 1 (x.axes.a2.a2.num.gs.map jB), .val (.bool x.axes.a2.a2.den.neg), .sl 152 1 (x.axes.a2.a2.den.gs.map jB)]
structure RLp where
 s : kY
 base : A3 (kG)
 e : A3 (A3 (kG))
def yE (x : RLp) : qF := .agg [.val (.int .i64 x.s.left.at_.x), .val (.int .i64 x.s.left.at_.y), .val (.int .i64 x.s.left.at_.z), .val (.int .i64 x.s.left.turn.a), .val (.int .i64 x.s.left.turn.b), .val (.int .i64 x.s.left.turn.c), .val (.int .i64 x.s.left.turn.d), .val (.int .i64 x.s.left.focal), .val (.int .i64 x.s.left.centre.x), .val (.int .i64 x.s.left.centre.y), .val (.int .i64 x.s.right.at_.x), .val (.int .i64 x.s.right.at_.y), .val (.int .i64 x.s.right.at_.z), .val (.int .i64 x.s.right.turn.a), .val (.int .i64 x.s.right.turn.b), .val (.int .i64 x.s.right.turn.c), .val (.int .i64 x.s.right.turn.d), .val (.int .i64 x.s.right.focal), .val (.int .i64 x.s.right.centre.x), .val (.int .i64 x.s.right.centre.y), .val (.bool x.base.a0.num.neg), .sl 152 1 (x.base.a0.num.gs.map jB), .val (.bool x.base.a0.den.neg), .sl 152 1 (x.base.a0.den.gs.map jB), .val (.bool x.base.a1.num.neg), .sl 152 1 (x.base.a1.num.gs.map jB), .val (.bool x.base.a1.den.neg), .sl 152 1 (x.base.a1.den.gs.map jB), .val (.bool x.base.a2.num.neg), .sl 152 1 (x.base.a2.num.gs.map jB), .val (.bool x.base.a2.den.neg), .sl 152 1 (x.base.a2.den.gs.map jB), .val (.bool x.e.a0.a0.num.neg), .sl 152 1 (x.e.a0.a0.num.gs.map jB), .val (.bool x.e.a0.a0.den.neg), .sl 152 1 (x.e.a0.a0.den.gs.map jB), .val (.bool x.e.a0.a1.num.neg), .sl 152 1 (x.e.a0.a1.num.gs.map jB), .val (.bool x.e.a0.a1.den.neg), .sl 152 1 (x.e.a0.a1.den.gs.map jB), .val (.bool x.e.a0.a2.num.neg), .sl 152 1 (x.e.a0.a2.num.gs.map jB), .val (.bool x.e.a0.a2.den.neg), .sl 152 1 (x.e.a0.a2.den.gs.map jB), .val (.bool x.e.a1.a0.num.neg), .sl 152 1 (x.e.a1.a0.num.gs.map jB), .val (.bool x.e.a1.a0.den.neg), .sl 152 1 (x.e.a1.a0.den.gs.map jB), .val (.bool x.e.a1.a1.num.neg), .sl 152 1 (x.e.a1.a1.num.gs.map jB), .val (.bool x.e.a1.a1.den.neg), .sl 152 1 (x.e.a1.a1.den.gs.map jB), .val (.bool x.e.a1.a2.num.neg), .sl 152 1 (x.e.a1.a2.num.gs.map jB), .val (.bool x.e.a1.a2.den.neg), .sl 152 1 (x.e.a1.a2.den.gs.map jB), .val (.bool x.e.a2.a0.num.neg), .sl 152 1 (x.e.a2.a0.num.gs.map jB), .val (.bool x.e.a2.a0.den.neg), .sl 152 1 (x.e.a2.a0.den.gs.map jB), .val (.bool x.e.a2.a1.num.neg), .sl 152 1 (x.e.a2.a1.num.gs.map jB), .val (.bool x.e.a2.a1.den.neg), .sl 152 1 (x.e.a2.a1.den.gs.map jB), .val (.bool x.e.a2.a2.num.neg), .sl 152 1 (x.e.a2.a2.num.gs.map jB), .val (.bool x.e.a2.a2.den.neg), .sl 152 1 (x.e.a2.a2.den.gs.map jB)]
def kP (l : List (kG)) : qF := .sl 42 4 (l.map jO)
def iC (l : List (Int)) : qF := .sl 3 1 (l.map mW)
end Go.Proofs.YtbecgnplakngdaaGreat
namespace Go.Proofs.YtbecgnplakngdaaGreat
open Go.Fid
theorem mo : Tryz.prog.follows .mixedOrders = true := by kernel_rfl
end Go.Proofs.YtbecgnplakngdaaGreat
set_option linter.unusedVariables false
namespace Go.Fid
abbrev vi (z : Int) : SV := .d (.val (.int .i64 z))
abbrev kE (n : Nat) : SV := .d (.val (.int .i64 (n : Int)))
abbrev gQ (n : Nat) : SV := .d (.val (.int .u64 (n : Int)))
abbrev aG (n : Nat) : SV := .d (.val (.int .u32 (n : Int)))
abbrev vb (b : Bool) : SV := .d (.val (.bool b))
abbrev vl {α : Type} (E z : Nat) (F : α → qF) (L : List α) : SV := .d (.sl E z (L.map F))
abbrev bm {α : Type} (F : α → qF) (L : List α) : List SV := L.map (fun g => SV.d (F g))
section
variable {P : Program} {n : Fr} {ops : Array Oper} {S S' : SL} {B B' : BS} {l : List Oper} {o : Oper} {news : List Nat} {acc0 : List (List Nat × List Nat)}
end
theorem fillL_all {s : Nat} : ∀ (ds : List qF) (k : Nat) (a z : List qF), a.length = k * s → z.length = ds.length * s → (∀ d ∈ ds, d.cells.length = s) →
    eY (fun i => some (i * s, s)) (a ++ z) ((ds.zipIdx k).map fun p => (p.2, p.1.cells)) = some (a ++ uU ds)
  | [], k, a, z, ha, hz, _ => by
    have : z = [] := List.eq_nil_of_length_eq_zero (by simpa using hz)
    subst this; simp [eY, uU]
  | d :: ds, k, a, z, ha, hz, hs => by
    have hd := hs d (by simp)
    have hz' : z.length = s + ds.length * s := by rw [hz, List.length_cons, Nat.add_mul]; omega
    rw [List.zipIdx_cons, List.map_cons]
    simp only [eY]
    have h1 : (Nat.beq d.cells.length s && Nat.ble (k * s + d.cells.length) (a ++ z).length) = true := by
      rw [Bool.and_eq_true]
      refine ⟨by rw [hd]; exact Nat.beq_refl s, Nat.ble_eq_true_of_le ?_⟩
      rw [List.length_append, ha, hd]; omega
    rw [h1, cond_true]
    have h2 : patch (a ++ z) (k * s) d.cells = (a ++ d.cells) ++ z.drop s := by
      unfold patch
      rw [← ha, List.take_left, hd]
      congr 1
      rw [List.drop_append, List.drop_of_length_le (by omega), List.nil_append]
      congr 1; omega
    rw [h2, fillL_all ds (k + 1) (a ++ d.cells) (z.drop s) (by rw [List.length_append, ha, hd, Nat.add_mul]; omega) (by rw [List.length_drop]; omega) (fun x hx => hs x (by simp [hx])), fV, List.append_assoc]
theorem e_bldF {P : Program} {o : Oper} {S : Nat → SV} {T E : TypeId} {n s : Nat} {ps : List (Nat × Operand)} {ds : List qF} {zv : List Value} {zd : List qF} {y : qF} (ho : o.op = .build T ps.toArray) (hT : dA P T = some (n, E, s)) (hz : xH P T = some zv) (hzd : mP zv zd)
    (hps : ps.map (fun p => (p.1, ev S p.2)) = ds.zipIdx.map (fun p => (p.2, .d p.1))) (hok : ds.all (fun d => d.ok1) = true) (hs : ds.all (fun d => Nat.beq d.cells.length s) = true) (hl : Nat.beq zd.length (ds.length * s) = true) (hy : qF.agg (uU ds) = y) : vI P o S [] (.d y) := by
  subst hy
  refine e_build_arr (pd := ds.zipIdx.map fun p => (p.2, p.1)) ho hT hz hzd (by rw [hps, List.map_map]; rfl) ?_ ?_
  · rw [List.all_eq_true] at hok ⊢
    intro p hp
    obtain ⟨q, hq, rfl⟩ := List.mem_map.1 hp
    exact hok _ (List.fst_mem_of_mem_zipIdx hq)
  · have := fillL_all ds 0 [] zd (by simp) (Nat.eq_of_beq_eq_true hl) (fun d hd => Nat.eq_of_beq_eq_true (List.all_eq_true.1 hs d hd))
    rw [List.map_map]
    rw [List.nil_append, List.nil_append] at this
    exact this
theorem xZ {α : Type} {s : Nat} (F : α → qF) (L : List α) (hF : ∀ g, (F g).cells.length = s) : ∀ e ∈ L.map F, e.cells.length = s := by
  intro e he
  obtain ⟨g, _, rfl⟩ := List.mem_map.1 he
  exact hF g
theorem cI {α : Type} {s : Nat} (F : α → qF) (L : List α) (hF : ∀ g, (F g).cells.length = s) {m : Nat} (h : L.length = m) : (aH F L).take (m * s) = (uU (L.map F)).map .d := by
  refine List.take_of_length_le ?_
  rw [List.length_map, aQ F hF, h]
  exact Nat.le_refl _
end Go.Fid
set_option linter.unusedVariables false
set_option linter.unusedSimpArgs false
namespace Go.Fid
open Go.RowKit (Below)
def aT (P : Program) (n : Fr) (c : Code) (Q : Exit → PS → Prop) : Nat → PS → Prop
  | 0, _ => False
  | m + 1, st => uK P n c (PThen (aT P n c Q m) Q) st
theorem qE {P : Program} {n : Fr} {c : Code} {Q : Exit → PS → Prop} {st : PS} (m : Nat) (h : aT P n c Q m st) : uK P n (.loop c) Q st := fun C a w N hn hs => by
  refine wpIn_loop_rounds m ?_
  have key : ∀ m st a w, eQ C a w st → aT P n c Q m st → Code.roundsIn (fen n) N P c (fun e a' w' => ∃ st', eQ C a' w' st' ∧ Q e st') m a w := by
    intro m
    induction m with
    | zero => intro st a w _ h; exact h.elim
    | succ m ih =>
      intro st a w hs h
      refine wpIn_mono (h C a w N hn hs) fun e a' w' ⟨s, h1, h2⟩ => ?_
      cases e with
      | normal => exact ih s a' w' h1 h2
      | _ => exact ⟨s, h1, h2⟩
  exact key m st a w hs h
theorem qK {P : Program} {n : Fr} {c : Code} {Q : Exit → PS → Prop} {st : PS} {m : Nat} (h : uK P n c (PThen (aT P n c Q m) Q) st) : aT P n c Q (m + 1) st := h
theorem jJ {P : Program} {n : Fr} {c : Code} {Q : Exit → PS → Prop} {s st : PS} {m : Nat} (hw : jZ s st) (h : uK P n c (PThen (aT P n c Q m) Q) st) : PThen (aT P n c Q (m + 1)) Q .normal s :=
  show uK P n c (PThen (aT P n c Q m) Q) s from fun C a w N hn hs => h C a w N hn (hw C a w hs)
section
variable {P : Program} {o : Oper} {S : Nat → SV}
theorem run_sliceArr {T E : TypeId} {n s : Nat} (hT : dA P T = some (n, E, s)) (hn : 0 < n) (w : World) (b q : Nat) : (Instr.sliceAt T (.pointer (some ⟨b, q, none⟩)) none none none).run P w = .ok (.slice (some ⟨b, q, none⟩) n n) w := by
  obtain ⟨j, e1, e2, e3⟩ := arr_of hT
  have hne : ¬ n = 0 := by omega
  simp [Instr.sliceAt, run_underlying e1, Instr.sliceBounds, xT e2, Instr.sureAddr, Addr.add_lit, hne]
theorem e_slv {T E : TypeId} {x : Operand} {k q n s : Nat} (ho : o.op = .slice T x none none none) (hT : dA P T = some (n, E, s)) (hx : ev S x = .ref k q) (hn : Nat.blt 0 n = true) (hm : Nat.ble n maxLen = true) : vI P o S [] (.view k q n) :=
  vI.same fun a w D β hop _ => by
    have hp := hop x (by simp [ho, Op.operands])
    rw [hx] at hp
    obtain ⟨b, h1, h2⟩ := hp
    have hn' : 0 < n := Nat.le_of_ble_eq_true hn
    refine ⟨.slice (some ⟨b, q, none⟩) n n, ?_, b, n, h1, rfl, Nat.le_refl _, Nat.le_of_ble_eq_true hm⟩
    simp [execOp, ho, h2, run_sliceArr hT hn']
theorem e_slp {T E : TypeId} {x : Operand} {b q n s : Nat} (ho : o.op = .slice T x none none none) (hT : dA P T = some (n, E, s)) (hx : ev S x = .d (.val (.pointer (some ⟨b, q, none⟩)))) (hn : Nat.blt 0 n = true) : vI P o S [] (.d (.val (.slice (some ⟨b, q, none⟩) n n))) :=
  vI.same fun a w D β hop _ => by
    have hp := hop x (by simp [ho, Op.operands])
    rw [hx] at hp
    have h2 := vT hp
    have hn' : 0 < n := Nat.le_of_ble_eq_true hn
    refine ⟨.slice (some ⟨b, q, none⟩) n n, ?_, .val _⟩
    simp [execOp, ho, h2, run_sliceArr hT hn']
theorem e_nckp {x : Operand} {a : Addr} (ho : o.op = .nilCheck x) (hx : ev S x = .d (.val (.pointer (some a)))) : vI P o S [] (.d (.val (.pointer (some a)))) :=
  vI.same fun a' w D β hop _ => by
    have hp := hop x (by simp [ho, Op.operands])
    rw [hx] at hp
    have h2 := vT hp
    exact ⟨.pointer (some a), by simp [execOp, ho, h2], .val _⟩
theorem e_nckr {x : Operand} {k q : Nat} (ho : o.op = .nilCheck x) (hx : ev S x = .ref k q) : vI P o S [] (.ref k q) :=
  vI.same fun a' w D β hop _ => by
    have hp := hop x (by simp [ho, Op.operands])
    rw [hx] at hp
    obtain ⟨b, h1, h2⟩ := hp
    exact ⟨.pointer (some ⟨b, q, none⟩), by simp [execOp, ho, h2], b, h1, rfl⟩
theorem e_sap {T E : TypeId} {x : Operand} {t s n z : Nat} {es : List qF} {cs : List qF} (ho : o.op = .sliceToArrayPointer T x) (hT : dA P T = some (n, E, z)) (hx : ev S x = .d (.sl t s es)) (hn : Nat.blt 0 n = true) (hl : es.length = n) (hc : uU es = cs) : vI P o S [] (.d (.cptr t cs 0)) :=
  vI.same fun a w D β hop _ => by
    have hp := hop x (by simp [ho, Op.operands])
    rw [hx] at hp
    obtain ⟨j, e1, e2, e3⟩ := arr_of hT
    have hn' : 0 < n := Nat.le_of_ble_eq_true hn
    subst hc
    generalize hvv : a.eval x = v at hp
    cases hp with
    | sl g off u hnn hcp hm hs ha hD hu h1 hr =>
      rename_i ao m cap
      have hm' : m = n := by omega
      have ha' := ha (by omega)
      subst ha'
      have hlt : ¬ m < n := by omega
      exact ⟨.pointer (some ⟨g, off + 0, none⟩), by simp [execOp, ho, hvv, Instr.arrayAt, run_underlying e1, hlt], .cptr (off := 0) g off u hD hu h1 hr⟩
theorem e_ixv {T E : TypeId} {x ix : Operand} {s b n p q : Nat} {k : IntKind} {i : Int} {j : Nat} (ho : o.op = .indexAddr T x ix) (hT : vX P T = some (E, s)) (hx : ev S x = .view b p n) (hi : ev S ix = .d (.val (.int k i)))
    (hj : i = (j : Int)) (h1 : j < n) (hq : p + j * s = q) : vI P o S [] (.ref b q) :=
  vI.same fun a w D β hop _ => by
    subst hj; subst hq
    have hp := hop x (by simp [ho, Op.operands])
    have hq := hop ix (by simp [ho, Op.operands])
    rw [hx] at hp
    rw [hi] at hq
    have hiv := vT hq
    obtain ⟨c, cap, e1, e2, _⟩ := hp
    have hr := aB hT w ⟨c, p, none⟩ n cap k (j : Int) (by omega) (by omega)
    exact ⟨.pointer (some ⟨c, p + j * s, none⟩), by simp [execOp, ho, e2, hiv, hr, Addr.add_lit], c, e1, rfl⟩
theorem e_len_view {T E : TypeId} {x : Operand} {s k q n : Nat} (ho : o.op = .call { callee := .builtin .len, args := #[x], argTypes := #[T] }) (hT : vX P T = some (E, s)) (hx : ev S x = .view k q n) : vI P o S [] (.d (.val (.int .i64 n))) :=
  vI.same fun a w D β hop _ => by
    have hp := hop x (by simp [ho, Op.operands, Call.operands])
    rw [hx] at hp
    obtain ⟨i, e1, e2, e3⟩ := nM hT
    obtain ⟨c, cap, _, hv, _⟩ := hp
    exact ⟨.int .i64 n, by simp [execOp, ho, resolve, invoke, builtin, hv, Builtin.len_, run_underlying e1, goInt], .val _⟩
theorem e_ixa {T E : TypeId} {x ix : Operand} {n s sz : Nat} {agg : Bool} {k : IntKind} {i : Int} {j : Nat} {cs : List qF} {y : SV} (ho : o.op = .index T x ix) (hx : ev S x = .d (.agg cs)) (hT : dA P T = some (n, E, s)) (hs : uF P E = some (agg, sz)) (h1 : agg = false → sz = 1)
    (hi : ev S ix = .d (.val (.int k i))) (hj : i = (j : Int)) (hn : Nat.blt j n = true) (hle : Nat.ble (j * s + sz) cs.length = true) (hy : gX agg (((cs.drop (j * s)).take sz).map .d) = y) : vI P o S [] y := by
  subst hj
  have hn' : j < n := Nat.le_of_ble_eq_true hn
  have h := e_index_arr (P := P) (i := (j : Int)) (k := k) ho hx hT hs h1 hi (by omega) (by omega) (by simpa using Nat.le_of_ble_eq_true hle)
  rw [show ((j : Int)).toNat = j from rfl] at h
  exact hy ▸ h
theorem e_nilF {T T' E t : TypeId} {x : Operand} {s s' : Nat} {es : List qF} (ho : o.op = .binOp .eql T x (.const (.slice none 0 0)) T') (hT : vX P T = some (E, s)) (hx : ev S x = .d (.sl t s' es)) (hl : 0 < es.length) : vI P o S [] (.d (.val (.bool false))) :=
  vI.same fun a w D β hop _ => by
    have hp := hop x (by simp [ho, Op.operands])
    rw [hx] at hp
    obtain ⟨i, f1, f2, f3⟩ := nM hT
    generalize hvv : a.eval x = v at hp
    cases hp with
    | sl g off u hnn hcc hmm hss ha hD hu hone hrr =>
    rename_i ad len cap
    subst hnn
    have had := ha hl
    subst had
    have heq : ∀ d : Nat, (Op.equalIn (d + 1) T (.slice (some ⟨g, off, none⟩) es.length cap) (.slice none 0 0)).run P w = .ok false w := fun d => by
      simp [Op.equalIn, run_underlying f1]
    have heq' : (Op.equal T (.slice (some ⟨g, off, none⟩) es.length cap) (.slice none 0 0)).run P w = .ok false w := heq 9999
    have hce : a.eval (.const (.slice none 0 0)) = .slice none 0 0 := rfl
    refine ⟨.bool false, ?_, .val _⟩
    simp only [execOp, ho, hvv, hce]
    simp [eqGuard, binOp, heq']
theorem e_nilT {T T' E : TypeId} {x : Operand} {s : Nat} (ho : o.op = .binOp .eql T x (.const (.slice none 0 0)) T') (hT : vX P T = some (E, s)) (hx : ev S x = .d (.val (.slice none 0 0))) : vI P o S [] (.d (.val (.bool true))) :=
  vI.same fun a w D β hop _ => by
    have hp := hop x (by simp [ho, Op.operands])
    rw [hx] at hp
    have hv := vT hp
    obtain ⟨i, f1, f2, f3⟩ := nM hT
    have heq : ∀ d : Nat, (Op.equalIn (d + 1) T (.slice none 0 0) (.slice none 0 0)).run P w = .ok true w := fun d => by
      simp [Op.equalIn, run_underlying f1]
    have heq' : (Op.equal T (.slice none 0 0) (.slice none 0 0)).run P w = .ok true w := heq 9999
    have hce : a.eval (.const (.slice none 0 0)) = .slice none 0 0 := rfl
    refine ⟨.bool true, ?_, .val _⟩
    simp only [execOp, ho, hv, hce]
    simp [eqGuard, binOp, heq']
inductive yW (E : TypeId) : qF → Prop
  | val (v : Value) : yW E (.val v)
  | sl {t : TypeId} {s : Nat} {es : List qF} (h : t ≠ E) (hs : ∀ (i : Nat) d, (uU es)[i]? = some d → yW E d) : yW E (.sl t s es)
  | agg {cs : List qF} (hs : ∀ (i : Nat) d, cs[i]? = some d → yW E d) : yW E (.agg cs)
  | tup {cs : List qF} (hs : ∀ (i : Nat) d, cs[i]? = some d → yW E d) : yW E (.tup cs)
  | cptr {t : TypeId} {cs : List qF} {off : Nat} (h : t ≠ E) (hs : ∀ (i : Nat) d, cs[i]? = some d → yW E d) : yW E (.cptr t cs off)
theorem avo_nil {E : TypeId} : ∀ (i : Nat) d, ([] : List qF)[i]? = some d → yW E d := fun i d h => by simp at h
theorem nG {E : TypeId} {x : qF} {l : List qF} (h : yW E x) (hl : ∀ (i : Nat) d, l[i]? = some d → yW E d) : ∀ (i : Nat) d, (x :: l)[i]? = some d → yW E d := fun i d hd => by
  rcases i with _ | i
  · simp at hd; subst hd; exact h
  · exact hl i d (by simpa using hd)
theorem avo_vals {α : Type} {E t : TypeId} {s : Nat} {F : α → Value} (h : t ≠ E) (l : List α) : yW E (.sl t s (l.map fun x => qF.val (F x))) :=
  .sl h (fun i d hd => by
    have : d ∈ uU (l.map fun x => qF.val (F x)) := List.mem_of_getElem? hd
    simp only [uU, List.mem_flatMap, List.mem_map] at this
    obtain ⟨x, ⟨y, _, rfl⟩, hx⟩ := this
    simp only [qF.cells, List.mem_singleton] at hx
    subst hx; exact .val _)
theorem avo_slF {α : Type} {E t : TypeId} {s : Nat} {F : α → qF} (h : t ≠ E) (hF : ∀ x, yW E (F x)) (l : List α) : yW E (.sl t s (l.map F)) :=
  .sl h (fun i d hd => by
    have hm : d ∈ uU (l.map F) := List.mem_of_getElem? hd
    simp only [uU, List.mem_flatMap, List.mem_map] at hm
    obtain ⟨x, ⟨y, _, rfl⟩, hx⟩ := hm
    have hy := hF y
    generalize F y = z at hy hx
    cases hy with
    | agg hs =>
      obtain ⟨j, hj⟩ := List.getElem?_of_mem hx
      exact hs j d hj
    | val v => simp only [qF.cells, List.mem_singleton] at hx; subst hx; exact .val v
    | sl h hs => simp only [qF.cells, List.mem_singleton] at hx; subst hx; exact .sl h hs
    | tup hs => simp only [qF.cells, List.mem_singleton] at hx; subst hx; exact .tup hs
    | cptr h hs => simp only [qF.cells, List.mem_singleton] at hx; subst hx; exact .cptr h hs)
theorem yW.rep {E : TypeId} {w : World} {D D' : uW} (hk : ∀ t g o, t ≠ E → D t g o → D' t g o) {v : Value} {r : qF} (ha : yW E r) (h : xK w D v r) : xK w D' v r := by
  induction h with
  | val v => exact .val v
  | sl g off u hn hc hm hs hao hD hu h1 hr ih =>
    cases ha with
    | sl hne has => exact .sl g off u hn hc hm hs hao (fun i hi => hk _ _ _ hne (hD i hi)) hu h1 (fun i d hd => ih i d hd (has i d hd))
  | agg vs hl h1 hr ih =>
    cases ha with
    | agg has => exact .agg vs hl h1 (fun i v d hv hd => ih i v d hv hd (has i d hd))
  | tup vs hl hr ih =>
    cases ha with
    | tup has => exact .tup vs hl (fun i v d hv hd => ih i v d hv hd (has i d hd))
  | cptr g o u hD hu h1 hr ih =>
    cases ha with
    | cptr hne has => exact .cptr g o u (fun i hi => hk _ _ _ hne (hD i hi)) hu h1 (fun i d hd => ih i d hd (has i d hd))
inductive mT (k : Nat) (E : TypeId) (s q m : Nat) (es : List qF) : List SV → List qF → Prop
  | nil : mT k E s q m es [] []
  | d {x : qF} {zs : List SV} {ds : List qF} (h : mT k E s q m es zs ds) : mT k E s q m es (.d x :: zs) (x :: ds)
  | v {zs : List SV} {ds : List qF} (h : mT k E s q m es zs ds) : mT k E s q m es (.view k q m :: zs) (.sl E s es :: ds)
theorem mT.len {k E s q m : Nat} {es : List qF} {zs : List SV} {ds : List qF} (h : mT k E s q m es zs ds) : zs.length = ds.length := by
  induction h with
  | nil => rfl
  | d h ih => simp [ih]
  | v h ih => simp [ih]
theorem mT.rep {k E s q m : Nat} {es : List qF} {w : World} {D D' : uW} {β : vR} (h1 : ∀ v x, xK w D v x → xK w D' v x) (h2 : ∀ v, vO w D β v (.view k q m) → xK w D' v (.sl E s es)) {zs : List SV} {ds : List qF} (h : mT k E s q m es zs ds) :
    ∀ {vs : List Value}, vs.length = zs.length → (∀ (i : Nat) v x, vs[i]? = some v → zs[i]? = some x → vO w D β v x) → ∀ (i : Nat) v d, vs[i]? = some v → ds[i]? = some d → xK w D' v d := by
  induction h with
  | nil => intro vs _ _ i v d _ hd; simp at hd
  | d h ih =>
    intro vs hl hr i v d' hv hd
    rcases vs with _ | ⟨v0, vs⟩
    · simp at hl
    · rcases i with _ | i
      · simp at hv hd; subst hv; subst hd; exact h1 _ _ (hr 0 _ _ rfl rfl)
      · exact ih (by simpa using hl) (fun i v x h3 h4 => hr (i + 1) v x (by simpa using h3) (by simpa using h4)) i v d' (by simpa using hv) (by simpa using hd)
  | v h ih =>
    intro vs hl hr i v d' hv hd
    rcases vs with _ | ⟨v0, vs⟩
    · simp at hl
    · rcases i with _ | i
      · simp at hv hd; subst hv; subst hd; exact h2 _ (hr 0 _ _ rfl rfl)
      · exact ih (by simpa using hl) (fun i v x h3 h4 => hr (i + 1) v x (by simpa using h3) (by simpa using h4)) i v d' (by simpa using hv) (by simpa using hd)
theorem e_clv {y : Operand} {xs : List Operand} {ats : Array TypeId} {f : FuncId} {ds es : List qF} {r : qF} {zs : List SV} {cs : List SV} {k E s q m : Nat} (hf : kF P f ds r) (ho : o.op = .call { callee := .value y, args := xs.toArray, argTypes := ats }) (hy : ev S y = .d (.val (.func (.func f) #[] #[])))
    (hx : xs.map (ev S) = zs) (hz : mT k E s q m es zs ds) (hes : ∀ e ∈ es, e.cells.length = s) (hl : es.length = m) (hc : (cs.drop q).take (m * s) = (uU es).map .d) (ha : yW E r) : vI P o S [(k, cs)] (.d r) :=
  fun a w D β Q hop hrd hD => by
    have hyv := hop y (by simp [ho, Op.operands, Call.operands])
    rw [hy] at hyv
    have hyv' := vT hyv
    have hrep : ∀ (i : Nat) v x, (xs.map a.eval)[i]? = some v → zs[i]? = some x → vO w D β v x := fun i v x hv hz' => by
      rw [List.getElem?_map, Option.map_eq_some_iff] at hv
      obtain ⟨p, hqi, rfl⟩ := hv
      have hm := hop p (by simp [ho, Op.operands, Call.operands, List.mem_of_getElem? hqi])
      have hi := congrArg (fun l : List SV => l[i]?) hx
      simp only [List.getElem?_map, hqi, hz', Option.map_some, Option.some.injEq] at hi
      rw [hi] at hm
      exact hm
    have vD : (xs.map a.eval).length = zs.length := by rw [← hx]; simp
    have hrun : (execOp a.eval o).run P w = .ok (.enter f (xs.map a.eval).toArray) w := by
      simp only [execOp, ho, resolve, Deferred.ofValue, hyv', Sem.run_bind, Sem.run_pure, Result.andThen_ok, invoke, Array.empty_append, Array.append_empty]
      rw [gV hf.may]
      simp
    have hfl := xL hes
    have hblk := hrd (k, cs) (by simp)
    have key : ∃ (D' : uW) (X : TypeId → Nat → Nat → Prop), DOk D' w ∧ (∀ t g i, D' t g i ↔ D t g i ∨ X t g i) ∧ (∀ t g i, X t g i → t = E ∧ ∀ t' i', ¬ D t' g i') ∧ (∀ v x, xK w D v x → xK w D' v x) ∧ (∀ v, vO w D β v (.view k q m) → xK w D' v (.sl E s es)) := by
      rcases hblk with ⟨g1, hcs⟩ | ⟨b, vs, T', g1, g2, g3, g4, g5⟩
      · refine ⟨D, fun _ _ _ => False, hD, fun t g i => by simp, fun _ _ _ h => h.elim, fun _ _ h => h, fun v hv => ?_⟩
        obtain ⟨b, cap, h1, _⟩ := hv
        rw [h1] at g1; cases g1
      · have hmono : ∀ t' g i, D t' g i → (D t' g i ∨ (t' = E ∧ g = b)) ∧ w.cell? ⟨g, i, none⟩ = w.cell? ⟨g, i, none⟩ := fun t' g i hd => ⟨.inl hd, rfl⟩
        refine ⟨fun t' g i => D t' g i ∨ (t' = E ∧ g = b), fun t' g i => t' = E ∧ g = b, fun t' g i hd => ?_, fun _ _ _ => Iff.rfl, fun t g i h => ⟨h.1, fun t' i' hd => g5 t' i' (h.2 ▸ hd)⟩, fun v x hr => xK.mono hmono hr, fun v hv => ?_⟩
        · rcases hd with hd | ⟨_, e⟩
          · exact hD _ _ _ hd
          · subst e; exact zQ g2
        · obtain ⟨b2, cap, h1, h2, h5, h6⟩ := hv
          obtain rfl : b = b2 := by rw [h1] at g1; injection g1 with g1; exact g1.symm
          rw [h2]
          have key : ∀ (i : Nat) d, (uU es)[i]? = some d → ∃ u, vs[q + i]? = some u ∧ u.oneCell' = true ∧ xK w D u d := fun i d hd => by
            have hi : i < m * s := by
              have := (List.getElem?_eq_some_iff.1 hd).1
              rw [hfl, hl] at this; exact this
            have e1 : cs[q + i]? = some (.d d) := by
              have : ((cs.drop q).take (m * s))[i]? = some (.d d) := by rw [hc]; simp [hd]
              rw [List.getElem?_take_of_lt hi, List.getElem?_drop] at this
              exact this
            exact g4 _ _ e1
          have hcell : ∀ i, w.cell? ⟨b, i, none⟩ = vs[i]? := fun i => cell_of_row w b i vs T' (0, 0) g2
          refine xK.sl b q (fun i => vs.getD (q + i) undef) hl.symm h5 h6 hes (fun _ => rfl) (fun i hi => .inr ⟨rfl, rfl⟩) (fun i hi => ?_) (fun i hi => ?_) (fun i d hd => ?_)
          · obtain ⟨x, q1, q2, q3⟩ := key i _ (List.getElem?_eq_getElem hi)
            rw [hcell, Array.getD_eq_getD_getElem?, q1]; rfl
          · obtain ⟨x, q1, q2, q3⟩ := key i _ (List.getElem?_eq_getElem hi)
            rw [Array.getD_eq_getD_getElem?, q1]; exact q2
          · obtain ⟨x, q1, q2, q3⟩ := key i d hd
            rw [Array.getD_eq_getD_getElem?, q1]
            exact xK.mono hmono q3
    obtain ⟨D', X, hD', hX, hXp, hm1, hm2⟩ := key
    have hargs : Args w D' (xs.map a.eval) ds := ⟨vD.trans hz.len, hz.rep hm1 hm2 vD hrep⟩
    refine eN hrun ((hf.run w D' _ hD' hargs).mono fun e w' h => ?_)
    obtain ⟨v, D2, he, h1, h2, h3⟩ := h
    refine ⟨v, he, v, fun t g i => D2 t g i ∧ ¬ X t g i, rfl, h1, ⟨fun t g i hd => ⟨h2.up _ _ _ ((hX t g i).2 (.inl hd)), fun hx' => (hXp t g i hx').2 t i hd⟩, fun t g i hd => ?_⟩, ?_⟩
    · rcases h2.new t g i hd.1 with h | h
      · rcases (hX t g i).1 h with h | h
        · exact .inl h
        · exact absurd h hd.2
      · exact .inr h
    · exact ha.rep (fun t g i hne hd => ⟨hd, fun hx' => hne (hXp t g i hx').1⟩) h3
theorem e_clp {y x : Operand} {ats : Array TypeId} {f : FuncId} {k q n : Nat} (hf : ∀ b, kF P f [.val (.pointer (some ⟨b, q, none⟩))] (.val (.slice (some ⟨b, q, none⟩) n n))) (ho : o.op = .call { callee := .value y, args := #[x], argTypes := ats }) (hy : ev S y = .d (.val (.func (.func f) #[] #[])))
    (hx : ev S x = .ref k q) (hm : Nat.ble n maxLen = true) : vI P o S [] (.view k q n) :=
  fun a w D β Q hop _ hD => by
    have hyv := hop y (by simp [ho, Op.operands, Call.operands])
    rw [hy] at hyv
    have hyv' := vT hyv
    have hxv := hop x (by simp [ho, Op.operands, Call.operands])
    rw [hx] at hxv
    obtain ⟨b, e1, e2⟩ := hxv
    have hrun : (execOp a.eval o).run P w = .ok (.enter f [a.eval x].toArray) w := by
      simp only [execOp, ho, resolve, Deferred.ofValue, hyv', Sem.run_bind, Sem.run_pure, Result.andThen_ok, invoke, Array.empty_append, Array.append_empty]
      rw [gV (hf b).may]
      simp
    have hargs : Args w D [a.eval x] [.val (.pointer (some ⟨b, q, none⟩))] := ⟨rfl, fun i v d hv hd => by
      rcases i with _ | i
      · simp at hv hd; subst hv; subst hd; rw [e2]; exact .val _
      · simp at hv⟩
    refine eN hrun (((hf b).run w D _ hD hargs).mono fun e w' h => ?_)
    obtain ⟨v, D2, he, h1, h2, h3⟩ := h
    refine ⟨v, he, v, D2, rfl, h1, h2, b, n, e1, vT h3, Nat.le_refl _, Nat.le_of_ble_eq_true hm⟩
end
end Go.Fid
