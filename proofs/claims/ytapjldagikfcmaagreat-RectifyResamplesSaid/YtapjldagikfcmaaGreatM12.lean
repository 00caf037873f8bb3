/- Part 12 of a proof: rules, plain facts, and functions walked. -/
import Derived.Test.YtapjldagikfcmaaGreatM8
import Derived.Test.YtapjldagikfcmaaGreatM11
import Derived.Test.YtapjldagikfcmaaGreatChecked
import Derived.LoopNIn
namespace Go.Proofs.YtapjldagikfcmaaGreat
open Go.Fid
def jV (x : jI) : kX := .agg [.val (.bool x.neg), .sl 181 1 (x.gs.map jC)]
def jP (x : jZ) : kX := .agg [.val (.bool x.num.neg), .sl 181 1 (x.num.gs.map jC), .val (.bool x.den.neg), .sl 181 1 (x.den.gs.map jC)]
structure jU where
 x : Int
 y : Int
def xW (x : jU) : kX := .agg [.val (.int .i64 x.x), .val (.int .i64 x.y)]
structure uP where
 x : jZ
 y : jZ
def qM (x : uP) : kX := .agg [.val (.bool x.x.num.neg), .sl 181 1 (x.x.num.gs.map jC), .val (.bool x.x.den.neg), .sl 181 1 (x.x.den.gs.map jC), .val (.bool x.y.num.neg), .sl 181 1 (x.y.num.gs.map jC), .val (.bool x.y.den.neg), .sl 181 1 (x.y.den.gs.map jC)]
structure jQ where
 x : Int
 y : Int
 z : Int
def eZ (x : jQ) : kX := .agg [.val (.int .i64 x.x), .val (.int .i64 x.y), .val (.int .i64 x.z)]
structure jL where
 a : Int
 b : Int
 c : Int
 d : Int
def uR (x : jL) : kX := .agg [.val (.int .i64 x.a), .val (.int .i64 x.b), .val (.int .i64 x.c), .val (.int .i64 x.d)]
structure kG where
 at_ : jQ
 turn : jL
 focal : Int
 centre : jU
def uT (x : kG) : kX := .agg [.val (.int .i64 x.at_.x), .val (.int .i64 x.at_.y), .val (.int .i64 x.at_.z), .val (.int .i64 x.turn.a), .val (.int .i64 x.turn.b), .val (.int .i64 x.turn.c), .val (.int .i64 x.turn.d), .val (.int .i64 x.focal), .val (.int .i64 x.centre.x), .val (.int .i64 x.centre.y)]
structure kT where
 left : kG
 right : kG
def qQ (x : kT) : kX := .agg [.val (.int .i64 x.left.at_.x), .val (.int .i64 x.left.at_.y), .val (.int .i64 x.left.at_.z), .val (.int .i64 x.left.turn.a), .val (.int .i64 x.left.turn.b), .val (.int .i64 x.left.turn.c), .val (.int .i64 x.left.turn.d), .val (.int .i64 x.left.focal), .val (.int .i64 x.left.centre.x), .val (.int .i64 x.left.centre.y), .val (.int .i64 x.right.at_.x), .val (.int .i64 x.right.at_.y), .val (.int .i64 x.right.at_.z), .val (.int .i64 x.right.turn.a), .val (.int .i64 x.right.turn.b), .val (.int .i64 x.right.turn.c), .val (.int .i64 x.right.turn.d), .val (.int .i64 x.right.focal), .val (.int .i64 x.right.centre.x), .val (.int .i64 x.right.centre.y)]
structure xA where
 width : Int
 height : Int
 max_ : Int
 pixels : List Int
def qW (x : xA) : kX := .agg [.val (.int .i64 x.width), .val (.int .i64 x.height), .val (.int .i64 x.max_), .sl 3 1 (x.pixels.map qL)]
structure eO where
 right : Bool
 low : jU
 high : jU
 cell : jZ
def gV (x : eO) : kX := .agg [.val (.bool x.right), .val (.int .i64 x.low.x), .val (.int .i64 x.low.y), .val (.int .i64 x.high.x), .val (.int .i64 x.high.y), .val (.bool x.cell.num.neg), .sl 181 1 (x.cell.num.gs.map jC), .val (.bool x.cell.den.neg), .sl 181 1 (x.cell.den.gs.map jC)]
structure A3 (α : Type) where
 a0 : α
 a1 : α
 a2 : α
structure A4 (α : Type) where
 a0 : α
 a1 : α
 a2 : α
 a3 : α
def encA82 (x : A3 (Int)) : kX := .agg [.val (.int .i64 x.a0), .val (.int .i64 x.a1), .val (.int .i64 x.a2)]
def jK (x : A3 (jZ)) : kX := .agg [.val (.bool x.a0.num.neg), .sl 181 1 (x.a0.num.gs.map jC), .val (.bool x.a0.den.neg), .sl 181 1 (x.a0.den.gs.map jC), .val (.bool x.a1.num.neg), .sl 181 1 (x.a1.num.gs.map jC), .val (.bool x.a1.den.neg), .sl 181 1 (x.a1.den.gs.map jC), .val (.bool x.a2.num.neg), .sl 181 1 (x.a2.num.gs.map jC), .val (.bool x.a2.den.neg), .sl 181 1 (x.a2.den.gs.map jC)]
def mP (x : A3 (A3 (jZ))) : kX := .agg [.val (.bool x.a0.a0.num.neg), .sl 181 1 (x.a0.a0.num.gs.map jC), .val (.bool x.a0.a0.den.neg), .sl 181 1 (x.a0.a0.den.gs.map jC), .val (.bool x.a0.a1.num.neg), .sl 181 1 (x.a0.a1.num.gs.map jC), .val (.bool x.a0.a1.den.neg), .sl 181 1 (x.a0.a1.den.gs.map jC), .val (.bool x.a0.a2.num.neg), .sl 181 1 (x.a0.a2.num.gs.map jC), .val (.bool x.a0.a2.den.neg), .sl 181 1 (x.a0.a2.den.gs.map jC), .val (.bool x.a1.a0.num.neg), .sl 181 1 (x.a1.a0.num.gs.map jC), .val (.bool x.a1.a0.den.neg), .sl 181 1 (x.a1.a0.den.gs.map jC), .val (.bool x.a1.a1.num.neg), .sl 181 1 (x.a1.a1.num.gs.map jC), .val (.bool x.a1.a1.den.neg), .sl 181 1 (x.a1.a1.den.gs.map jC), .val (.bool x.a1.a2.num.neg), .sl 181 1 (x.a1.a2.num.gs.map jC), .val (.bool x.a1.a2.den.neg), .sl 181 1 (x.a1.a2.den.gs.map jC), .val (.bool x.a2.a0.num.neg), .sl 181 1 (x.a2.a0.num.gs.map jC), .val (.bool x.a2.a0.den.neg), .sl 181 1 (x.a2.a0.den.gs.map jC), .val (.bool x.a2.a1.num.neg), .sl 181 1 (x.a2.a1.num.gs.map jC), .val (.bool x.a2.a1.den.neg), .sl 181 1 (x.a2.a1.den.gs.map jC), .val (.bool x.a2.a2.num.neg), .sl 181 1 (x.a2.a2.num.gs.map jC), .val (.bool x.a2.a2.den.neg), .sl 181 1 (x.a2.a2.den.gs.map jC)]
def uA (x : A3 (A3 (jZ))) : kX := .agg [.val (.bool x.a0.a0.num.neg), .sl 181 1 (x.a0.a0.num.gs.map jC), .val (.bool x.a0.a0.den.neg), .sl 181 1 (x.a0.a0.den.gs.map jC), .val (.bool x.a0.a1.num.neg), .sl 181 1 (x.a0.a1.num.gs.map jC), .val (.bool x.a0.a1.den.neg), .sl 181 1 (x.a0.a1.den.gs.map jC), .val (.bool x.a0.a2.num.neg), .sl 181 1 (x.a0.a2.num.gs.map jC), .val (.bool x.a0.a2.den.neg), .sl 181 1 (x.a0.a2.den.gs.map jC), .val (.bool x.a1.a0.num.neg), .sl 181 1 (x.a1.a0.num.gs.map jC), .val (.bool x.a1.a0.den.neg), .sl 181 1 (x.a1.a0.den.gs.map jC), .val (.bool x.a1.a1.num.neg), .sl 181 1 (x.a1.a1.num.gs.map jC), .val (.bool x.a1.a1.den.neg), .sl 181 1 (x.a1.a1.den.gs.map jC), .val (.bool x.a1.a2.num.neg), .sl 181 1 (x.a1.a2.num.gs.map jC), .val (.bool x.a1.a2.den.neg), .sl 181 1 (x.a1.a2.den.gs.map jC), .val (.bool x.a2.a0.num.neg), .sl 181 1 (x.a2.a0.num.gs.map jC), .val (.bool x.a2.a0.den.neg), .sl 181 1 (x.a2.a0.den.gs.map jC), .val (.bool x.a2.a1.num.neg), .sl 181 1 (x.a2.a1.num.gs.map jC), .val (.bool x.a2.a1.den.neg), .sl 181 1 (x.a2.a1.den.gs.map jC), .val (.bool x.a2.a2.num.neg), .sl 181 1 (x.a2.a2.num.gs.map jC), .val (.bool x.a2.a2.den.neg), .sl 181 1 (x.a2.a2.den.gs.map jC)]
def aE (x : A4 (Int)) : kX := .agg [.val (.int .i64 x.a0), .val (.int .i64 x.a1), .val (.int .i64 x.a2), .val (.int .i64 x.a3)]
def encA257 (x : A3 (A3 (Int))) : kX := .agg [.val (.int .i64 x.a0.a0), .val (.int .i64 x.a0.a1), .val (.int .i64 x.a0.a2), .val (.int .i64 x.a1.a0), .val (.int .i64 x.a1.a1), .val (.int .i64 x.a1.a2), .val (.int .i64 x.a2.a0), .val (.int .i64 x.a2.a1), .val (.int .i64 x.a2.a2)]
structure RRp where
 left : kG
 right : kG
 base : A3 (jZ)
 axes : A3 (A3 (jZ))
def mA (x : RRp) : kX := .agg [.val (.int .i64 x.left.at_.x), .val (.int .i64 x.left.at_.y), .val (.int .i64 x.left.at_.z), .val (.int .i64 x.left.turn.a), .val (.int .i64 x.left.turn.b), .val (.int .i64 x.left.turn.c), .val (.int .i64 x.left.turn.d), .val (.int .i64 x.left.focal), .val (.int .i64 x.left.centre.x), .val (.int .i64 x.left.centre.y), .val (.int .i64 x.right.at_.x), .val (.int .i64 x.right.at_.y), .val (.int .i64 x.right.at_.z), .val (.int .i64 x.right.turn.a), .val (.int .i64 x.right.turn.b), .val (.int .i64 x.right.turn.c), .val (.int .i64 x.right.turn.d), .val (.int .i64 x.right.focal), .val (.int .i64 x.right.centre.x), .val (.int .i64 x.right.centre.y), .val (.bool x.base.a0.num.neg), .sl 181 1 (x.base.a0.num.gs.map jC), .val (.bool x.base.a0.den.neg), .sl 181 1 (x.base.a0.den.gs.map jC), .val (.bool x.base.a1.num.neg), .sl 181 1 (x.base.a1.num.gs.map jC), .val (.bool x.base.a1.den.neg), .sl 181 1 (x.base.a1.den.gs.map jC), .val (.bool x.base.a2.num.neg), .sl 181 1 (x.base.a2.num.gs.map jC), .val (.bool x.base.a2.den.neg), .sl 181 1 (x.base.a2.den.gs.map jC), .val (.bool x.axes.a0.a0.num.neg), .sl 181 1 (x.axes.a0.a0.num.gs.map jC), .val (.bool x.axes.a0.a0.den.neg), .sl 181 1 (x.axes.a0.a0.den.gs.map jC), .val (.bool x.axes.a0.a1.num.neg), .sl 181 1 (x.axes.a0.a1.num.gs.map jC), .val (.bool x.axes.a0.a1.den.neg), .sl 181 1 (x.axes.a0.a1.den.gs.map jC), .val (.bool x.axes.a0.a2.num.neg), .sl 181 1 (x.axes.a0.a2.num.gs.map jC), .val (.bool x.axes.a0.a2.den.neg), .sl 181 1 (x.axes.a0.a2.den.gs.map jC), .val (.bool x.axes.a1.a0.num.neg), .sl 181 1 (x.axes.a1.a0.num.gs.map jC), .val (.bool x.axes.a1.a0.den.neg), .sl 181 1 (x.axes.a1.a0.den.gs.map jC), .val (.bool x.axes.a1.a1.num.neg), .sl 181 1 (x.axes.a1.a1.num.gs.map jC), .val (.bool x.axes.a1.a1.den.neg), .sl 181 1 (x.axes.a1.a1.den.gs.map jC), .val (.bool x.axes.a1.a2.num.neg), .sl 181 1 (x.axes.a1.a2.num.gs.map jC), .val (.bool x.axes.a1.a2.den.neg), .sl 181 1 (x.axes.a1.a2.den.gs.map jC), .val (.bool x.axes.a2.a0.num.neg), .sl 181 1 (x.axes.a2.a0.num.gs.map jC), .val (.bool x.axes.a2.a0.den.neg), .sl 181 1 (x.axes.a2.a0.den.gs.map jC), .val (.bool x.axes.a2.a1.num.neg), .sl 181 1 (x.axes.a2.a1.num.gs.map jC), .val (.bool x.axes.a2.a1.den.neg), .sl 181 1 (x.axes.a2.a1.den.gs.map jC), .val (.bool x.axes.a2.a2.num.neg), .sl 181 1 (x.axes.a2.a2.num.gs.map jC), .val (.bool x.axes.a2.a2.den.neg), .sl 181 1 (x.axes.a2.a2.den.gs.map jC)]
structure RLp where
 s : kT
 base : A3 (jZ)
 e : A3 (A3 (jZ))
def yU (x : RLp) : kX := .agg [.val (.int .i64 x.s.left.at_.x), .val (.int .i64 x.s.left.at_.y), .val (.int .i64 x.s.left.at_.z), .val (.int .i64 x.s.left.turn.a), .val (.int .i64 x.s.left.turn.b), .val (.int .i64 x.s.left.turn.c), .val (.int .i64 x.s.left.turn.d), .val (.int .i64 x.s.left.focal), .val (.int .i64 x.s.left.centre.x), .val (.int .i64 x.s.left.centre.y), .val (.int .i64 x.s.right.at_.x), .val (.int .i64 x.s.right.at_.y), .val (.int .i64 x.s.right.at_.z), .val (.int .i64 x.s.right.turn.a), .val (.int .i64 x.s.right.turn.b), .val (.int .i64 x.s.right.turn.c), .val (.int .i64 x.s.right.turn.d), .val (.int .i64 x.s.right.focal), .val (.int .i64 x.s.right.centre.x), .val (.int .i64 x.s.right.centre.y), .val (.bool x.base.a0.num.neg), .sl 181 1 (x.base.a0.num.gs.map jC), .val (.bool x.base.a0.den.neg), .sl 181 1 (x.base.a0.den.gs.map jC), .val (.bool x.base.a1.num.neg), .sl 181 1 (x.base.a1.num.gs.map jC), .val (.bool x.base.a1.den.neg), .sl 181 1 (x.base.a1.den.gs.map jC), .val (.bool x.base.a2.num.neg), .sl 181 1 (x.base.a2.num.gs.map jC), .val (.bool x.base.a2.den.neg), .sl 181 1 (x.base.a2.den.gs.map jC), .val (.bool x.e.a0.a0.num.neg), .sl 181 1 (x.e.a0.a0.num.gs.map jC), .val (.bool x.e.a0.a0.den.neg), .sl 181 1 (x.e.a0.a0.den.gs.map jC), .val (.bool x.e.a0.a1.num.neg), .sl 181 1 (x.e.a0.a1.num.gs.map jC), .val (.bool x.e.a0.a1.den.neg), .sl 181 1 (x.e.a0.a1.den.gs.map jC), .val (.bool x.e.a0.a2.num.neg), .sl 181 1 (x.e.a0.a2.num.gs.map jC), .val (.bool x.e.a0.a2.den.neg), .sl 181 1 (x.e.a0.a2.den.gs.map jC), .val (.bool x.e.a1.a0.num.neg), .sl 181 1 (x.e.a1.a0.num.gs.map jC), .val (.bool x.e.a1.a0.den.neg), .sl 181 1 (x.e.a1.a0.den.gs.map jC), .val (.bool x.e.a1.a1.num.neg), .sl 181 1 (x.e.a1.a1.num.gs.map jC), .val (.bool x.e.a1.a1.den.neg), .sl 181 1 (x.e.a1.a1.den.gs.map jC), .val (.bool x.e.a1.a2.num.neg), .sl 181 1 (x.e.a1.a2.num.gs.map jC), .val (.bool x.e.a1.a2.den.neg), .sl 181 1 (x.e.a1.a2.den.gs.map jC), .val (.bool x.e.a2.a0.num.neg), .sl 181 1 (x.e.a2.a0.num.gs.map jC), .val (.bool x.e.a2.a0.den.neg), .sl 181 1 (x.e.a2.a0.den.gs.map jC), .val (.bool x.e.a2.a1.num.neg), .sl 181 1 (x.e.a2.a1.num.gs.map jC), .val (.bool x.e.a2.a1.den.neg), .sl 181 1 (x.e.a2.a1.den.gs.map jC), .val (.bool x.e.a2.a2.num.neg), .sl 181 1 (x.e.a2.a2.num.gs.map jC), .val (.bool x.e.a2.a2.den.neg), .sl 181 1 (x.e.a2.a2.den.gs.map jC)]
def kO (l : List (Int)) : kX := .sl 3 1 (l.map qL)
def qH (l : List (jZ)) : kX := .sl 38 4 (l.map jP)
end Go.Proofs.YtapjldagikfcmaaGreat
namespace Go.Proofs.YtapjldagikfcmaaGreat
open Go.Fid
theorem mo : Tryz.prog.follows .mixedOrders = true := by kernel_rfl
end Go.Proofs.YtapjldagikfcmaaGreat
set_option linter.unusedVariables false
namespace Go.Fid
abbrev vi (z : Int) : SV := .d (.val (.int .i64 z))
abbrev kD (n : Nat) : SV := .d (.val (.int .i64 (n : Int)))
abbrev gW (n : Nat) : SV := .d (.val (.int .u64 (n : Int)))
abbrev fV (n : Nat) : SV := .d (.val (.int .u32 (n : Int)))
abbrev vy (z : Int) : SV := .d (.val (.int .u8 z))
abbrev vb (b : Bool) : SV := .d (.val (.bool b))
abbrev vl {α : Type} (E z : Nat) (F : α → kX) (L : List α) : SV := .d (.sl E z (L.map F))
abbrev bm {α : Type} (F : α → kX) (L : List α) : List SV := L.map (fun g => SV.d (F g))
section
variable {P : Program} {n : Fr} {ops : Array Oper} {S S' : SL} {B B' : BS} {l : List Oper} {o : Oper} {news : List Nat} {acc0 : List (List Nat × List Nat)}
end
theorem fillL_all {s : Nat} : ∀ (ds : List kX) (k : Nat) (a z : List kX), a.length = k * s → z.length = ds.length * s → (∀ d ∈ ds, d.cells.length = s) →
    eV (fun i => some (i * s, s)) (a ++ z) ((ds.zipIdx k).map fun p => (p.2, p.1.cells)) = some (a ++ uU ds)
  | [], k, a, z, ha, hz, _ => by
    have : z = [] := List.eq_nil_of_length_eq_zero (by simpa using hz)
    subst this; simp [eV, uU]
  | d :: ds, k, a, z, ha, hz, hs => by
    have hd := hs d (by simp)
    have hz' : z.length = s + ds.length * s := by rw [hz, List.length_cons, Nat.add_mul]; omega
    rw [List.zipIdx_cons, List.map_cons]
    simp only [eV]
    have h1 : (Nat.beq d.cells.length s && Nat.ble (k * s + d.cells.length) (a ++ z).length) = true := by
      rw [Bool.and_eq_true]
      refine ⟨by rw [hd]; exact Nat.beq_refl s, Nat.ble_eq_true_of_le ?_⟩
      rw [List.length_append, ha, hd]; omega
    rw [h1, cond_true]
    have h2 : patch (a ++ z) (k * s) d.cells = (a ++ d.cells) ++ z.drop s := by
      unfold patch
      rw [← ha, List.take_left, hd]
      congr 1
      rw [List.drop_append, List.drop_of_length_le (by omega), List.nil_append]
      congr 1; omega
    rw [h2, fillL_all ds (k + 1) (a ++ d.cells) (z.drop s) (by rw [List.length_append, ha, hd, Nat.add_mul]; omega) (by rw [List.length_drop]; omega) (fun x hx => hs x (by simp [hx])), fL, List.append_assoc]
theorem e_bldF {P : Program} {o : Oper} {S : Nat → SV} {T E : TypeId} {n s : Nat} {ps : List (Nat × Operand)} {ds : List kX} {zv : List Value} {zd : List kX} {y : kX} (ho : o.op = .build T ps.toArray) (hT : eP P T = some (n, E, s)) (hz : xL P T = some zv) (hzd : cD zv zd)
    (hps : ps.map (fun p => (p.1, ev S p.2)) = ds.zipIdx.map (fun p => (p.2, .d p.1))) (hok : ds.all (fun d => d.ok1) = true) (hs : ds.all (fun d => Nat.beq d.cells.length s) = true) (hl : Nat.beq zd.length (ds.length * s) = true) (hy : kX.agg (uU ds) = y) : vT P o S [] (.d y) := by
  subst hy
  refine e_build_arr (pd := ds.zipIdx.map fun p => (p.2, p.1)) ho hT hz hzd (by rw [hps, List.map_map]; rfl) ?_ ?_
  · rw [List.all_eq_true] at hok ⊢
    intro p hp
    obtain ⟨q, hq, rfl⟩ := List.mem_map.1 hp
    exact hok _ (List.fst_mem_of_mem_zipIdx hq)
  · have := fillL_all ds 0 [] zd (by simp) (Nat.eq_of_beq_eq_true hl) (fun d hd => Nat.eq_of_beq_eq_true (List.all_eq_true.1 hs d hd))
    rw [List.map_map]
    rw [List.nil_append, List.nil_append] at this
    exact this
theorem hO {α : Type} {s : Nat} (F : α → kX) (L : List α) (hF : ∀ g, (F g).cells.length = s) : ∀ e ∈ L.map F, e.cells.length = s := by
  intro e he
  obtain ⟨g, _, rfl⟩ := List.mem_map.1 he
  exact hF g
theorem fK {α : Type} {s : Nat} (F : α → kX) (L : List α) (hF : ∀ g, (F g).cells.length = s) {m : Nat} (h : L.length = m) : (bI F L).take (m * s) = (uU (L.map F)).map .d := by
  refine List.take_of_length_le ?_
  rw [List.length_map, aH F hF, h]
  exact Nat.le_refl _
end Go.Fid
set_option linter.unusedVariables false
set_option linter.unusedSimpArgs false
namespace Go.Fid
open Go.RowKit (Below)
def aJ (P : Program) (n : Fr) (c : Code) (Q : Exit → PS → Prop) : Nat → PS → Prop
  | 0, _ => False
  | m + 1, st => uY P n c (PThen (aJ P n c Q m) Q) st
theorem qF {P : Program} {n : Fr} {c : Code} {Q : Exit → PS → Prop} {st : PS} (m : Nat) (h : aJ P n c Q m st) : uY P n (.loop c) Q st := fun C a w N hn hs => by
  refine wpIn_loop_rounds m ?_
  have key : ∀ m st a w, eF C a w st → aJ P n c Q m st → Code.roundsIn (fen n) N P c (fun e a' w' => ∃ st', eF C a' w' st' ∧ Q e st') m a w := by
    intro m
    induction m with
    | zero => intro st a w _ h; exact h.elim
    | succ m ih =>
      intro st a w hs h
      refine wpIn_mono (h C a w N hn hs) fun e a' w' ⟨s, h1, h2⟩ => ?_
      cases e with
      | normal => exact ih s a' w' h1 h2
      | _ => exact ⟨s, h1, h2⟩
  exact key m st a w hs h
theorem qU {P : Program} {n : Fr} {c : Code} {Q : Exit → PS → Prop} {st : PS} {m : Nat} (h : uY P n c (PThen (aJ P n c Q m) Q) st) : aJ P n c Q (m + 1) st := h
theorem jJ {P : Program} {n : Fr} {c : Code} {Q : Exit → PS → Prop} {s st : PS} {m : Nat} (hw : jW s st) (h : uY P n c (PThen (aJ P n c Q m) Q) st) : PThen (aJ P n c Q (m + 1)) Q .normal s :=
  show uY P n c (PThen (aJ P n c Q m) Q) s from fun C a w N hn hs => h C a w N hn (hw C a w hs)
section
variable {P : Program} {o : Oper} {S : Nat → SV}
theorem run_sliceArr {T E : TypeId} {n s : Nat} (hT : eP P T = some (n, E, s)) (hn : 0 < n) (w : World) (b q : Nat) : (Instr.sliceAt T (.pointer (some ⟨b, q, none⟩)) none none none).run P w = .ok (.slice (some ⟨b, q, none⟩) n n) w := by
  obtain ⟨j, e1, e2, e3⟩ := arr_of hT
  have hne : ¬ n = 0 := by omega
  simp [Instr.sliceAt, run_underlying e1, Instr.sliceBounds, zD e2, Instr.sureAddr, Addr.add_lit, hne]
theorem e_slv {T E : TypeId} {x : Operand} {k q n s : Nat} (ho : o.op = .slice T x none none none) (hT : eP P T = some (n, E, s)) (hx : ev S x = .ref k q) (hn : Nat.blt 0 n = true) (hm : Nat.ble n maxLen = true) : vT P o S [] (.view k q n) :=
  vT.same fun a w D β hop _ => by
    have hp := hop x (by simp [ho, Op.operands])
    rw [hx] at hp
    obtain ⟨b, h1, h2⟩ := hp
    have hn' : 0 < n := Nat.le_of_ble_eq_true hn
    refine ⟨.slice (some ⟨b, q, none⟩) n n, ?_, b, n, h1, rfl, Nat.le_refl _, Nat.le_of_ble_eq_true hm⟩
    simp [execOp, ho, h2, run_sliceArr hT hn']
theorem e_nckr {x : Operand} {k q : Nat} (ho : o.op = .nilCheck x) (hx : ev S x = .ref k q) : vT P o S [] (.ref k q) :=
  vT.same fun a' w D β hop _ => by
    have hp := hop x (by simp [ho, Op.operands])
    rw [hx] at hp
    obtain ⟨b, h1, h2⟩ := hp
    exact ⟨.pointer (some ⟨b, q, none⟩), by simp [execOp, ho, h2], b, h1, rfl⟩
theorem e_sap {T E : TypeId} {x : Operand} {t s n z : Nat} {es : List kX} {cs : List kX} (ho : o.op = .sliceToArrayPointer T x) (hT : eP P T = some (n, E, z)) (hx : ev S x = .d (.sl t s es)) (hn : Nat.blt 0 n = true) (hl : es.length = n) (hc : uU es = cs) : vT P o S [] (.d (.cptr t cs 0)) :=
  vT.same fun a w D β hop _ => by
    have hp := hop x (by simp [ho, Op.operands])
    rw [hx] at hp
    obtain ⟨j, e1, e2, e3⟩ := arr_of hT
    have hn' : 0 < n := Nat.le_of_ble_eq_true hn
    subst hc
    generalize hvv : a.eval x = v at hp
    cases hp with
    | sl g off u hnn hcp hm hs ha hD hu h1 hr =>
      rename_i ao m cap
      have hm' : m = n := by omega
      have ha' := ha (by omega)
      subst ha'
      have hlt : ¬ m < n := by omega
      exact ⟨.pointer (some ⟨g, off + 0, none⟩), by simp [execOp, ho, hvv, Instr.arrayAt, run_underlying e1, hlt], .cptr (off := 0) g off u hD hu h1 hr⟩
theorem e_ixa {T E : TypeId} {x ix : Operand} {n s sz : Nat} {agg : Bool} {k : IntKind} {i : Int} {j : Nat} {cs : List kX} {y : SV} (ho : o.op = .index T x ix) (hx : ev S x = .d (.agg cs)) (hT : eP P T = some (n, E, s)) (hs : uJ P E = some (agg, sz)) (h1 : agg = false → sz = 1)
    (hi : ev S ix = .d (.val (.int k i))) (hj : i = (j : Int)) (hn : Nat.blt j n = true) (hle : Nat.ble (j * s + sz) cs.length = true) (hy : hZ agg (((cs.drop (j * s)).take sz).map .d) = y) : vT P o S [] y := by
  subst hj
  have hn' : j < n := Nat.le_of_ble_eq_true hn
  have h := e_index_arr (P := P) (i := (j : Int)) (k := k) ho hx hT hs h1 hi (by omega) (by omega) (by simpa using Nat.le_of_ble_eq_true hle)
  rw [show ((j : Int)).toNat = j from rfl] at h
  exact hy ▸ h
inductive gO (E : TypeId) : kX → Prop
  | val (v : Value) : gO E (.val v)
  | sl {t : TypeId} {s : Nat} {es : List kX} (h : t ≠ E) (hs : ∀ (i : Nat) d, (uU es)[i]? = some d → gO E d) : gO E (.sl t s es)
  | agg {cs : List kX} (hs : ∀ (i : Nat) d, cs[i]? = some d → gO E d) : gO E (.agg cs)
  | tup {cs : List kX} (hs : ∀ (i : Nat) d, cs[i]? = some d → gO E d) : gO E (.tup cs)
  | cptr {t : TypeId} {cs : List kX} {off : Nat} (h : t ≠ E) (hs : ∀ (i : Nat) d, cs[i]? = some d → gO E d) : gO E (.cptr t cs off)
  | clo {f : FuncId} {caps : List kX} (hs : ∀ (i : Nat) d, caps[i]? = some d → gO E d) : gO E (.clo f caps)
theorem avo_nil {E : TypeId} : ∀ (i : Nat) d, ([] : List kX)[i]? = some d → gO E d := fun i d h => by simp at h
theorem eH {E : TypeId} {x : kX} {l : List kX} (h : gO E x) (hl : ∀ (i : Nat) d, l[i]? = some d → gO E d) : ∀ (i : Nat) d, (x :: l)[i]? = some d → gO E d := fun i d hd => by
  rcases i with _ | i
  · simp at hd; subst hd; exact h
  · exact hl i d (by simpa using hd)
theorem avo_vals {α : Type} {E t : TypeId} {s : Nat} {F : α → Value} (h : t ≠ E) (l : List α) : gO E (.sl t s (l.map fun x => kX.val (F x))) :=
  .sl h (fun i d hd => by
    have : d ∈ uU (l.map fun x => kX.val (F x)) := List.mem_of_getElem? hd
    simp only [uU, List.mem_flatMap, List.mem_map] at this
    obtain ⟨x, ⟨y, _, rfl⟩, hx⟩ := this
    simp only [kX.cells, List.mem_singleton] at hx
    subst hx; exact .val _)
theorem gO.rep {E : TypeId} {w : World} {D D' : uZ} (hk : ∀ t g o, t ≠ E → D t g o → D' t g o) {v : Value} {r : kX} (ha : gO E r) (h : xU w D v r) : xU w D' v r := by
  induction h with
  | val v => exact .val v
  | sl g off u hn hc hm hs hao hD hu h1 hr ih =>
    cases ha with
    | sl hne has => exact .sl g off u hn hc hm hs hao (fun i hi => hk _ _ _ hne (hD i hi)) hu h1 (fun i d hd => ih i d hd (has i d hd))
  | agg vs hl h1 hr ih =>
    cases ha with
    | agg has => exact .agg vs hl h1 (fun i v d hv hd => ih i v d hv hd (has i d hd))
  | tup vs hl hr ih =>
    cases ha with
    | tup has => exact .tup vs hl (fun i v d hv hd => ih i v d hv hd (has i d hd))
  | cptr g o u hD hu h1 hr ih =>
    cases ha with
    | cptr hne has => exact .cptr g o u (fun i hi => hk _ _ _ hne (hD i hi)) hu h1 (fun i d hd => ih i d hd (has i d hd))
  | clo vs hl hr ih =>
    cases ha with
    | clo has => exact .clo vs hl (fun i v d hv hd => ih i v d hv hd (has i d hd))
inductive cY (k : Nat) (E : TypeId) (s q m : Nat) (es : List kX) : List SV → List kX → Prop
  | nil : cY k E s q m es [] []
  | d {x : kX} {zs : List SV} {ds : List kX} (h : cY k E s q m es zs ds) : cY k E s q m es (.d x :: zs) (x :: ds)
  | v {zs : List SV} {ds : List kX} (h : cY k E s q m es zs ds) : cY k E s q m es (.view k q m :: zs) (.sl E s es :: ds)
theorem cY.len {k E s q m : Nat} {es : List kX} {zs : List SV} {ds : List kX} (h : cY k E s q m es zs ds) : zs.length = ds.length := by
  induction h with
  | nil => rfl
  | d h ih => simp [ih]
  | v h ih => simp [ih]
theorem cY.rep {k E s q m : Nat} {es : List kX} {w : World} {D D' : uZ} {β : vG} (h1 : ∀ v x, xU w D v x → xU w D' v x) (h2 : ∀ v, vB w D β v (.view k q m) → xU w D' v (.sl E s es)) {zs : List SV} {ds : List kX} (h : cY k E s q m es zs ds) :
    ∀ {vs : List Value}, vs.length = zs.length → (∀ (i : Nat) v x, vs[i]? = some v → zs[i]? = some x → vB w D β v x) → ∀ (i : Nat) v d, vs[i]? = some v → ds[i]? = some d → xU w D' v d := by
  induction h with
  | nil => intro vs _ _ i v d _ hd; simp at hd
  | d h ih =>
    intro vs hl hr i v d' hv hd
    rcases vs with _ | ⟨v0, vs⟩
    · simp at hl
    · rcases i with _ | i
      · simp at hv hd; subst hv; subst hd; exact h1 _ _ (hr 0 _ _ rfl rfl)
      · exact ih (by simpa using hl) (fun i v x h3 h4 => hr (i + 1) v x (by simpa using h3) (by simpa using h4)) i v d' (by simpa using hv) (by simpa using hd)
  | v h ih =>
    intro vs hl hr i v d' hv hd
    rcases vs with _ | ⟨v0, vs⟩
    · simp at hl
    · rcases i with _ | i
      · simp at hv hd; subst hv; subst hd; exact h2 _ (hr 0 _ _ rfl rfl)
      · exact ih (by simpa using hl) (fun i v x h3 h4 => hr (i + 1) v x (by simpa using h3) (by simpa using h4)) i v d' (by simpa using hv) (by simpa using hd)
end
end Go.Fid
set_option linter.unusedVariables false
set_option linter.unusedSimpArgs false
namespace Go.Fid
def up : SL → SL → SL
  | [], S => S
  | p :: D, S => p :: up D S
def upB : BS → BS → BS
  | [], S => S
  | p :: D, S => p :: upB D S
def inS (D : SL) (t : Nat) : Bool := D.any fun p => Nat.beq p.1 t
def inB (D : BS) (t : Nat) : Bool := D.any fun p => Nat.beq p.1 t
def isJ : SV → Bool
  | .junk => true
  | _ => false
theorem isJ_eq {x : SV} (h : isJ x = true) : x = .junk := by cases x <;> first | rfl | cases h
theorem sget_up (D S : SL) (t : Nat) : qN (up D S) t = bif inS D t then qN D t else qN S t := by
  induction D with
  | nil => rfl
  | cons p D ih =>
    obtain ⟨j, x⟩ := p
    show qN ((j, x) :: up D S) t = bif (Nat.beq j t || inS D t) then _ else _
    rw [vV, vV, ih]
    by_cases h : j = t
    · subst h; simp
    · have : Nat.beq j t = false := by rw [← Bool.not_eq_true]; exact fun e => h (Nat.eq_of_beq_eq_true e)
      rw [if_neg h, if_neg h, this, Bool.false_or]
theorem bget_up (D S : BS) (t : Nat) : uL (upB D S) t = bif inB D t then uL D t else uL S t := by
  induction D with
  | nil => rfl
  | cons p D ih =>
    obtain ⟨j, x⟩ := p
    show uL ((j, x) :: upB D S) t = bif (Nat.beq j t || inB D t) then _ else _
    rw [kV, kV, ih]
    by_cases h : j = t
    · subst h; simp
    · have : Nat.beq j t = false := by rw [← Bool.not_eq_true]; exact fun e => h (Nat.eq_of_beq_eq_true e)
      rw [if_neg h, if_neg h, this, Bool.false_or]
theorem sget_out {D : SL} {t : Nat} (h : inS D t = false) : qN D t = .junk := by
  induction D with
  | nil => rfl
  | cons p D ih =>
    obtain ⟨j, x⟩ := p
    simp only [inS, List.any_cons, Bool.or_eq_false_iff] at h
    rw [vV, if_neg (fun e => by subst e; simp at h), ih h.2]
theorem up_app (W S : SL) : up W S = W ++ S := by
  induction W with
  | nil => rfl
  | cons p W ih => show p :: up W S = p :: (W ++ S); rw [ih]
theorem upB_app (W S : BS) : upB W S = W ++ S := by
  induction W with
  | nil => rfl
  | cons p W ih => show p :: upB W S = p :: (W ++ S); rw [ih]
structure FinS (S0 D Sf : SL) : Prop where
  d : D.map (fun p => qN Sf p.1) = D.map (·.2)
  k : Sf.drop (Sf.length - S0.length) = S0
  j : ((Sf.take (Sf.length - S0.length)).all fun p => inS D p.1 || isJ (qN S0 p.1)) = true
structure FinB (B0 E Bf : BS) : Prop where
  d : (E.filter fun p => p.2.isSome).map (fun p => uL Bf p.1) = (E.filter fun p => p.2.isSome).map (·.2)
  k : Bf.drop (Bf.length - B0.length) = B0
  j : ((Bf.take (Bf.length - B0.length)).all fun p => inB E p.1) = true
structure FinF (S0 D Sf : SL) : Prop where
  d : D.map (fun p => qN Sf p.1) = D.map (·.2)
  j : ((S0.filter fun p => !inS D p.1).map fun p => qN S0 p.1) = ((S0.filter fun p => !inS D p.1).map fun p => qN Sf p.1)
theorem FinS.get {S0 D Sf : SL} (h : FinS S0 D Sf) (t : Nat) : qN (up D S0) t = .junk ∨ qN (up D S0) t = qN Sf t := by
  rw [sget_up]
  cases hD : inS D t with
  | true => exact sget_eq_or h.d t
  | false =>
    rw [cond_false]
    have e : Sf = up (Sf.take (Sf.length - S0.length)) S0 := by rw [up_app]; conv => lhs; rw [← List.take_append_drop (Sf.length - S0.length) Sf, h.k]
    cases hW : inS (Sf.take (Sf.length - S0.length)) t with
    | false => right; conv => rhs; rw [e, sget_up, hW, cond_false]
    | true =>
      left
      simp only [inS, List.any_eq_true] at hW
      obtain ⟨p, hp, hpt⟩ := hW
      have := List.all_eq_true.1 h.j p hp
      rw [Nat.eq_of_beq_eq_true hpt, hD, Bool.false_or] at this
      exact isJ_eq this
theorem FinF.get {S0 D Sf : SL} (h : FinF S0 D Sf) (t : Nat) : qN (up D S0) t = .junk ∨ qN (up D S0) t = qN Sf t := by
  rw [sget_up]
  cases hD : inS D t with
  | true => exact sget_eq_or h.d t
  | false =>
    rw [cond_false]
    cases hS : inS S0 t with
    | false => left; exact sget_out hS
    | true =>
      right
      simp only [inS, List.any_eq_true] at hS
      obtain ⟨p, hp, hpt⟩ := hS
      have hpt := Nat.eq_of_beq_eq_true hpt
      subst hpt
      exact List.map_inj_left.1 h.j p (List.mem_filter.2 ⟨hp, by rw [hD]; rfl⟩)
theorem FinB.get {B0 E Bf : BS} (h : FinB B0 E Bf) {k : Nat} {c : List SV} (hc : uL (upB E B0) k = some c) : uL Bf k = some c := by
  rw [bget_up] at hc
  cases hD : inB E k with
  | true =>
    rw [hD, cond_true] at hc
    exact List.map_inj_left.1 h.d (k, some c) (List.mem_filter.2 ⟨bget_mem hc, rfl⟩)
  | false =>
    rw [hD, cond_false] at hc
    have e : Bf = upB (Bf.take (Bf.length - B0.length)) B0 := by rw [upB_app]; conv => lhs; rw [← List.take_append_drop (Bf.length - B0.length) Bf, h.k]
    cases hW : inB (Bf.take (Bf.length - B0.length)) k with
    | false => rw [e, bget_up, hW, cond_false]; exact hc
    | true =>
      simp only [inB, List.any_eq_true] at hW
      obtain ⟨p, hp, hpt⟩ := hW
      have := List.all_eq_true.1 h.j p hp
      rw [Nat.eq_of_beq_eq_true hpt, hD] at this
      cases this
theorem sim_get {S B S' B'} (h1 : ∀ t, qN S' t = .junk ∨ qN S' t = qN S t) (h2 : ∀ k c, uL B' k = some c → uL B k = some c) : jW ⟨S, B⟩ ⟨S', B'⟩ := fun C a w ⟨D, β, hs⟩ =>
  ⟨D, β, hs.base, ⟨fun k cs hk => hs.mem.ok k cs (h2 _ _ hk), fun k1 k2 c1 c2 q1 q2 => hs.mem.inj k1 k2 c1 c2 (h2 _ _ q1) (h2 _ _ q2)⟩, fun k c hk => hs.high k c (h2 _ _ hk), fun t => by
    rcases h1 t with h | h
    · show vB w D β _ (qN S' t)
      rw [h]; trivial
    · show vB w D β _ (qN S' t)
      rw [h]; exact hs.slots t⟩
theorem wk {st : PS} {l : SL} {b : BS} (h1 : l.map (fun p => qN st.sl p.1) = l.map (·.2) := by kernel_rfl) (h2 : b.map (fun p => uL st.bs p.1) = b.map (·.2) := by kernel_rfl) : jW st ⟨l, b⟩ := weak h1 h2
def SK (P : Program) (n : Fr) (ops : Array Oper) (K : SL → BS → Prop) (S : SL) (B : BS) (l : List Oper) : Prop := ∃ st1, Steps P n ops ⟨S, B⟩ l st1 ∧ K st1.sl st1.bs
def DK (P : Program) (n : Fr) (ops : Array Oper) (K : SL → BS → Prop) (news : List Nat) (acc0 : List (List Nat × List Nat)) (S : SL) (B : BS) (l : List Oper) : Prop :=
  ∃ st1 acc, DSteps P n ops news ⟨S, B⟩ l acc st1 ∧ orderB ops (acc0 ++ acc) = true ∧ K st1.sl st1.bs
def KS (S0 : SL) (B0 : BS) (D : SL) (E : BS) (Sf : SL) (Bf : BS) : Prop := FinS S0 D Sf ∧ FinB B0 E Bf
def KF (S0 : SL) (B0 : BS) (D : SL) (E : BS) (Sf : SL) (Bf : BS) : Prop := FinF S0 D Sf ∧ FinB B0 E Bf
def dO (o : Oper) : Tmp := o.dst.getD 0
def goK (n : Fr) (ops : Array Oper) (S : SL) (o : Oper) : Bool := match o.dst with
  | some d => match yN ops S o with
    | some true => nY n (some d)
    | _ => false
  | none => false
theorem nW {n : Fr} {ops : Array Oper} {S : SL} {o : Oper} (h : goK n ops S o = true) : o.dst = some (dO o) ∧ yN ops S o = some true ∧ nY n (some (dO o)) = true := by
  unfold goK at h
  unfold dO
  split at h
  · rename_i d hd
    split at h
    · rename_i hg; rw [hd]; exact ⟨rfl, hg, h⟩
    · cases h
  · cases h
def goF (n : Fr) (ops : Array Oper) (S : SL) (o : Oper) : Bool := match o.dst with
  | some d => match yN ops S o with
    | some false => nY n (some d)
    | _ => false
  | none => false
theorem goF_spec {n : Fr} {ops : Array Oper} {S : SL} {o : Oper} (h : goF n ops S o = true) : o.dst = some (dO o) ∧ yN ops S o = some false ∧ nY n (some (dO o)) = true := by
  unfold goF at h
  unfold dO
  split at h
  · rename_i d hd
    split at h
    · rename_i hg; rw [hd]; exact ⟨rfl, hg, h⟩
    · cases h
  · cases h
def goT (ops : Array Oper) (S : SL) (o : Oper) : Bool := match o.dst with
  | some _ => false
  | none => match yN ops S o with
    | some true => true
    | _ => false
theorem goT_spec {ops : Array Oper} {S : SL} {o : Oper} (h : goT ops S o = true) : o.dst = none ∧ yN ops S o = some true := by
  unfold goT at h
  split at h
  · cases h
  · rename_i hd
    split at h
    · rename_i hg; exact ⟨hd, hg⟩
    · cases h
def mvV (S : SL) (o : Oper) : SV := match o.op with
  | .move x => ev (qN S) x
  | .assign x => ev (qN S) x
  | _ => .junk
def mvK (o : Oper) : Bool := match o.op with
  | .move _ => true
  | .assign _ => true
  | _ => false
def ROk (P : Program) (o : Oper) (S : SL) (B : BS) (k : Nat) (x : SV) : Prop := ∃ cs, vT P o (qN S) [(k, cs)] x ∧ uL B k = some cs
def TK (P : Program) (o : Oper) (S : SL) (B : BS) (k : Nat) (cs : List SV) : Prop := ∃ old, TOk P o (qN S) k old cs ∧ uL B k = some old
section
variable {P : Program} {n : Fr} {ops : Array Oper} {K : SL → BS → Prop} {S : SL} {B : BS} {l : List Oper} {o : Oper} {news : List Nat} {acc0 : List (List Nat × List Nat)}
theorem uS (h : mvK o = true) : vT P o (qN S) [] (mvV S o) := by
  unfold mvK at h
  unfold mvV
  split at h
  · rename_i x hx; exact e_move (.inl hx)
  · rename_i x hx; exact e_move (.inr hx)
  · cases h
theorem zE {x : SV} (h : vT P o (qN S) [] x) (r : SK P n ops K ((dO o, x) :: S) B l) (g : goK n ops S o = true := by kernel_rfl) : SK P n ops K S B (o :: l) := by
  obtain ⟨st1, r1, r2⟩ := r
  obtain ⟨hd, hg, hb⟩ := nW g
  have hs := Step.e (P := P) (n := n) (ops := ops) (st := ⟨S, B⟩) (o := o) h hg (by rw [hd]; exact hb) (by simp)
  rw [hd] at hs
  exact ⟨st1, .cons hs r1, r2⟩
theorem zM (r : SK P n ops K ((dO o, mvV S o) :: S) B l) (h : mvK o = true := by kernel_rfl) (g : goK n ops S o = true := by kernel_rfl) : SK P n ops K S B (o :: l) := zE (uS h) r g
theorem zR {k : Nat} {x : SV} (h : ROk P o S B k x) (r : SK P n ops K ((dO o, x) :: S) B l) (g : goK n ops S o = true := by kernel_rfl) : SK P n ops K S B (o :: l) := by
  obtain ⟨st1, r1, r2⟩ := r
  obtain ⟨cs, h, hbk⟩ := h
  obtain ⟨hd, hg, hb⟩ := nW g
  have hs := Step.e (P := P) (n := n) (ops := ops) (st := ⟨S, B⟩) (o := o) h hg (by rw [hd]; exact hb) (by simpa using hbk)
  rw [hd] at hs
  exact ⟨st1, .cons hs r1, r2⟩
theorem zN {k : Nat} {cs : List SV} {x : SV} (h : NOk P o (qN S) k cs x) (r : SK P n ops K ((dO o, x) :: S) ((k, some cs) :: B) l) (g : goK n ops S o = true := by kernel_rfl) (hf : gK k ⟨S, B⟩ = true := by kernel_rfl) : SK P n ops K S B (o :: l) := by
  obtain ⟨st1, r1, r2⟩ := r
  obtain ⟨hd, hg, hb⟩ := nW g
  have hs := Step.n (P := P) (n := n) (ops := ops) (st := ⟨S, B⟩) (o := o) h hg (by rw [hd]; exact hb) hf
  rw [hd] at hs
  exact ⟨st1, .cons hs r1, r2⟩
theorem zH {k : Nat} {cs : List SV} {x : SV} (h : NOk P o (qN S) k cs x) (r : SK P n ops K ((dO o, x) :: S) ((k, some cs) :: B) l) (g : goK n ops S o = true := by kernel_rfl) (h1 : (S.all fun p => !p.2.names k) = true := by kernel_rfl)
    (h2 : FrB k B := by repeat first | exact frb_nil _ | refine frb_map rfl ?_ | refine frb_d rfl ?_ | refine frb_cs rfl rfl ?_ | refine frb_none rfl ?_) : SK P n ops K S B (o :: l) := zN h r g (freshB_of h1 h2)
theorem zT {k : Nat} {cs : List SV} (h : TK P o S B k cs) (r : SK P n ops K S ((k, some cs) :: B) l) (g : goT ops S o = true := by kernel_rfl) : SK P n ops K S B (o :: l) := by
  obtain ⟨st1, r1, r2⟩ := r
  obtain ⟨old, h, hb⟩ := h
  obtain ⟨hd, hg⟩ := goT_spec g
  have hs := Step.t (P := P) (n := n) (ops := ops) (st := ⟨S, B⟩) (o := o) h hg (by rw [hd]; rfl) hb
  rw [hd] at hs
  exact ⟨st1, .cons hs r1, r2⟩
theorem zK (r : SK P n ops K ((dO o, .d (.tup [])) :: S) B l) (g : goF n ops S o = true := by kernel_rfl) : SK P n ops K S B (o :: l) := by
  obtain ⟨st1, r1, r2⟩ := r
  obtain ⟨hd, hg, hb⟩ := goF_spec g
  have hs := Step.skip (P := P) (n := n) (ops := ops) (st := ⟨S, B⟩) (o := o) hg (by rw [hd]; exact hb)
  rw [hd] at hs
  exact ⟨st1, .cons hs r1, r2⟩
theorem zX {S1 : SL} {B1 : BS} (h : ∀ (C : Ctx) (a : Act) (w : World) (Q : Exit → Act → World → Prop), C.n = n → eF C a w ⟨S, B⟩ → o.wp P a w (fun a' w' => eF C a' w' ⟨S1, B1⟩) Q) (hg : yN ops S o = some true) (r : SK P n ops K S1 B1 l) : SK P n ops K S B (o :: l) := by
  obtain ⟨st1, r1, r2⟩ := r
  exact ⟨st1, .cons (.sem h hg) r1, r2⟩
section
variable {S0 : SL} {B0 : BS} {D : SL} {E : BS}
theorem zZ (h1 : D.map (fun p => qN S p.1) = D.map (·.2) := by kernel_rfl) (h2 : S.drop (S.length - S0.length) = S0 := by kernel_rfl) (h3 : ((S.take (S.length - S0.length)).all fun p => inS D p.1 || isJ (qN S0 p.1)) = true := by kernel_rfl)
    (h4 : (E.filter fun p => p.2.isSome).map (fun p => uL B p.1) = (E.filter fun p => p.2.isSome).map (·.2) := by kernel_rfl) (h5 : B.drop (B.length - B0.length) = B0 := by kernel_rfl) (h6 : ((B.take (B.length - B0.length)).all fun p => inB E p.1) = true := by kernel_rfl) : SK P n ops (KS S0 B0 D E) S B [] :=
  ⟨⟨S, B⟩, .nil, ⟨h1, h2, h3⟩, ⟨h4, h5, h6⟩⟩
theorem zF (h1 : D.map (fun p => qN S p.1) = D.map (·.2) := by kernel_rfl) (h2 : ((S0.filter fun p => !inS D p.1).map fun p => qN S0 p.1) = ((S0.filter fun p => !inS D p.1).map fun p => qN S p.1) := by kernel_rfl)
    (h4 : (E.filter fun p => p.2.isSome).map (fun p => uL B p.1) = (E.filter fun p => p.2.isSome).map (·.2) := by kernel_rfl) (h5 : B.drop (B.length - B0.length) = B0 := by kernel_rfl) (h6 : ((B.take (B.length - B0.length)).all fun p => inB E p.1) = true := by kernel_rfl) : SK P n ops (KF S0 B0 D E) S B [] :=
  ⟨⟨S, B⟩, .nil, ⟨h1, h2⟩, ⟨h4, h5, h6⟩⟩
theorem wZ (h1 : D.map (fun p => qN S p.1) = D.map (·.2) := by kernel_rfl) (h2 : S.drop (S.length - S0.length) = S0 := by kernel_rfl) (h3 : ((S.take (S.length - S0.length)).all fun p => inS D p.1 || isJ (qN S0 p.1)) = true := by kernel_rfl)
    (h4 : (E.filter fun p => p.2.isSome).map (fun p => uL B p.1) = (E.filter fun p => p.2.isSome).map (·.2) := by kernel_rfl) (h5 : B.drop (B.length - B0.length) = B0 := by kernel_rfl) (h6 : ((B.take (B.length - B0.length)).all fun p => inB E p.1) = true := by kernel_rfl) (h7 : orderB ops acc0 = true := by kernel_rfl) : DK P n ops (KS S0 B0 D E) news acc0 S B [] :=
  ⟨⟨S, B⟩, [], .nil, by simpa using h7, ⟨h1, h2, h3⟩, ⟨h4, h5, h6⟩⟩
theorem kx {id : Nat} {Q : Exit → PS → Prop} (D : SL) (E : BS) (h : SK P n l.toArray (KS S0 B0 D E) S0 B0 l) (hq : Q .normal ⟨up D S0, upB E B0⟩) (hp : l.all nX = true := by kernel_rfl) : uY P n (.region id l.toArray false) Q ⟨S0, B0⟩ := fun C a w N hn hs => by
  obtain ⟨st1, h1, h2, h3⟩ := h
  subst hn
  exact wpIn_region_lit (steps_sound (C := C) h1 hp rfl (fun a' w' hs' => ⟨_, sim_get h2.get (fun k c => h3.get) C a' w' hs', hq⟩) hs)
theorem kf {id : Nat} {Q : Exit → PS → Prop} (D : SL) (E : BS) (h : SK P n l.toArray (KF S0 B0 D E) S0 B0 l) (hq : Q .normal ⟨up D S0, upB E B0⟩) (hp : l.all nX = true := by kernel_rfl) : uY P n (.region id l.toArray false) Q ⟨S0, B0⟩ := fun C a w N hn hs => by
  obtain ⟨st1, h1, h2, h3⟩ := h
  subst hn
  exact wpIn_region_lit (steps_sound (C := C) h1 hp rfl (fun a' w' hs' => ⟨_, sim_get h2.get (fun k c => h3.get) C a' w' hs', hq⟩) hs)
theorem kd {id : Nat} {Q : Exit → PS → Prop} (D : SL) (E : BS) (hm : P.follows .mixedOrders = true) (h : DK P n l.toArray (KS S0 B0 D E) [] [] S0 B0 l) (hq : Q .normal ⟨up D S0, upB E B0⟩) (hb : backB l.toArray = true := by kernel_rfl) (hp : l.all nX = true := by kernel_rfl) : uY P n (.region id l.toArray true) Q ⟨S0, B0⟩ := fun C a w N hn hs => by
  obtain ⟨st1, acc, h1, h0, h2, h3⟩ := h
  subst hn
  exact wpIn_region_any hm (draw_sound (C := C) rfl (by simpa using h1) (by simpa using h0) hb (by simpa using hp) (fun a' w' hs' => ⟨_, sim_get h2.get (fun k c => h3.get) C a' w' hs', hq⟩) hs)
end
theorem wE {x : SV} (h : vT P o (qN S) [] x) (r : DK P n ops K news (acc0 ++ [([], [])]) ((dO o, x) :: S) B l) (g : goK n ops S o = true := by kernel_rfl) (hn : clearR ops S o news x = true := by kernel_rfl) : DK P n ops K news acc0 S B (o :: l) := by
  obtain ⟨st1, acc, r1, r0, r2⟩ := r
  obtain ⟨hd, hg, hb⟩ := nW g
  have hs := cM.e (P := P) (n := n) (ops := ops) (news := news) (st := ⟨S, B⟩) (o := o) h hg (by rw [hd]; exact hb) (by simp) hn
  rw [hd] at hs
  exact ⟨st1, ([], []) :: acc, .cons hs r1, by simpa using r0, r2⟩
theorem wM (r : DK P n ops K news (acc0 ++ [([], [])]) ((dO o, mvV S o) :: S) B l) (h : mvK o = true := by kernel_rfl) (g : goK n ops S o = true := by kernel_rfl) (hn : clearR ops S o news (mvV S o) = true := by kernel_rfl) : DK P n ops K news acc0 S B (o :: l) := wE (uS h) r g hn
theorem wR {k : Nat} {x : SV} (h : ROk P o S B k x) (r : DK P n ops K news (acc0 ++ [([k], [])]) ((dO o, x) :: S) B l) (g : goK n ops S o = true := by kernel_rfl) (hn : clearR ops S o news x = true := by kernel_rfl) : DK P n ops K news acc0 S B (o :: l) := by
  obtain ⟨st1, acc, r1, r0, r2⟩ := r
  obtain ⟨cs, h, hbk⟩ := h
  obtain ⟨hd, hg, hb⟩ := nW g
  have hs := cM.e (P := P) (n := n) (ops := ops) (news := news) (st := ⟨S, B⟩) (o := o) h hg (by rw [hd]; exact hb) (by simpa using hbk) hn
  rw [hd] at hs
  exact ⟨st1, ([k], []) :: acc, .cons hs r1, by simpa using r0, r2⟩
theorem wN {k : Nat} {cs : List SV} {x : SV} (h : NOk P o (qN S) k cs x) (r : DK P n ops K (k :: news) (acc0 ++ [([], [k])]) ((dO o, x) :: S) ((k, some cs) :: B) l) (g : goK n ops S o = true := by kernel_rfl) (hf : gK k ⟨S, B⟩ = true := by kernel_rfl) (hn : clear1 news x = true := by kernel_rfl) (hc : clearL news cs = true := by kernel_rfl) : DK P n ops K news acc0 S B (o :: l) := by
  obtain ⟨st1, acc, r1, r0, r2⟩ := r
  obtain ⟨hd, hg, hb⟩ := nW g
  have hs := cM.n (P := P) (n := n) (ops := ops) (news := news) (st := ⟨S, B⟩) (o := o) h hg (by rw [hd]; exact hb) hf hn hc
  rw [hd] at hs
  exact ⟨st1, ([], [k]) :: acc, .cons hs r1, by simpa using r0, r2⟩
theorem wH {k : Nat} {cs : List SV} {x : SV} (h : NOk P o (qN S) k cs x) (r : DK P n ops K (k :: news) (acc0 ++ [([], [k])]) ((dO o, x) :: S) ((k, some cs) :: B) l) (hc : clearL news cs = true) (g : goK n ops S o = true := by kernel_rfl) (h1 : (S.all fun p => !p.2.names k) = true := by kernel_rfl)
    (h2 : FrB k B := by repeat first | exact frb_nil _ | refine frb_map rfl ?_ | refine frb_d rfl ?_ | refine frb_cs rfl rfl ?_ | refine frb_none rfl ?_) (hn : clear1 news x = true := by kernel_rfl) : DK P n ops K news acc0 S B (o :: l) := wN h r g (freshB_of h1 h2) hn hc
theorem wT {k : Nat} {cs : List SV} (h : TK P o S B k cs) (r : DK P n ops K news (acc0 ++ [([k], [k])]) S ((k, some cs) :: B) l) (g : goT ops S o = true := by kernel_rfl) (hc : clearLR ops S o news cs = true := by kernel_rfl) : DK P n ops K news acc0 S B (o :: l) := by
  obtain ⟨st1, acc, r1, r0, r2⟩ := r
  obtain ⟨old, h, hb⟩ := h
  obtain ⟨hd, hg⟩ := goT_spec g
  have hs := cM.t (P := P) (n := n) (ops := ops) (news := news) (st := ⟨S, B⟩) (o := o) h hg (by rw [hd]; rfl) hb hc
  rw [hd] at hs
  exact ⟨st1, ([k], [k]) :: acc, .cons hs r1, by simpa using r0, r2⟩
theorem wK (r : DK P n ops K news (acc0 ++ [([], [])]) ((dO o, .d (.tup [])) :: S) B l) (g : goF n ops S o = true := by kernel_rfl) : DK P n ops K news acc0 S B (o :: l) := by
  obtain ⟨st1, acc, r1, r0, r2⟩ := r
  obtain ⟨hd, hg, hb⟩ := goF_spec g
  have hs := cM.skip (P := P) (n := n) (ops := ops) (news := news) (st := ⟨S, B⟩) (o := o) hg (by rw [hd]; exact hb)
  rw [hd] at hs
  exact ⟨st1, ([], []) :: acc, .cons hs r1, by simpa using r0, r2⟩
end
end Go.Fid
