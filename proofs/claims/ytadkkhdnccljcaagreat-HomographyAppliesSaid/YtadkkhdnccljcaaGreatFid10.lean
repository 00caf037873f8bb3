/-
  The rules as a printer of proofs wants them: results written out. For any program.
-/
import Derived.Test.YtadkkhdnccljcaaGreatFid9
namespace Go.Fid
open Go.RowKit (Below)
def SRun (P : Program) (n : Fr) (ops : Array Oper) (S : SL) (B : BS) (l : List Oper) (S' : SL) (B' : BS) : Prop :=
  ∃ st1, Steps P n ops ⟨S, B⟩ l st1 ∧ S'.map (fun p => sget st1.sl p.1) = S'.map (·.2) ∧ B'.map (fun p => bget st1.bs p.1) = B'.map (·.2)
def DRun (P : Program) (n : Fr) (ops : Array Oper) (news : List Nat) (S : SL) (B : BS) (l : List Oper) (acc0 : List (List Nat × List Nat)) (S' : SL) (B' : BS) : Prop :=
  ∃ st1 acc, DSteps P n ops news ⟨S, B⟩ l acc st1 ∧ orderB ops (acc0 ++ acc) = true ∧ S'.map (fun p => sget st1.sl p.1) = S'.map (·.2) ∧ B'.map (fun p => bget st1.bs p.1) = B'.map (·.2)
section
variable {P : Program} {n : Fr} {ops : Array Oper} {S S' : SL} {B B' : BS} {l : List Oper} {o : Oper} {news : List Nat} {acc0 : List (List Nat × List Nat)}
theorem sNil (h1 : S'.map (fun p => sget S p.1) = S'.map (·.2)) (h2 : B'.map (fun p => bget B p.1) = B'.map (·.2)) : SRun P n ops S B [] S' B' := ⟨⟨S, B⟩, .nil, h1, h2⟩
theorem sE {d : Tmp} {x : SV} (h : EOk P o (sget S) [] x) (hdst : o.dst = some d) (hg : guardSt ops S o = some true) (hd : dstB n (some d) = true) (r : SRun P n ops ((d, x) :: S) B l S' B') : SRun P n ops S B (o :: l) S' B' := by
  obtain ⟨st1, r1, r2, r3⟩ := r
  have hs := Step.e (P := P) (n := n) (ops := ops) (st := ⟨S, B⟩) (o := o) h hg (by rw [hdst]; exact hd) (by simp)
  simp only [hdst, putS] at hs
  exact ⟨st1, .cons hs r1, r2, r3⟩
theorem sR {d k : Nat} {cs : List SV} {x : SV} (h : EOk P o (sget S) [(k, cs)] x) (hdst : o.dst = some d) (hg : guardSt ops S o = some true) (hd : dstB n (some d) = true) (hb : bget B k = some cs) (r : SRun P n ops ((d, x) :: S) B l S' B') : SRun P n ops S B (o :: l) S' B' := by
  obtain ⟨st1, r1, r2, r3⟩ := r
  have hs := Step.e (P := P) (n := n) (ops := ops) (st := ⟨S, B⟩) (o := o) h hg (by rw [hdst]; exact hd) (by simpa using hb)
  simp only [hdst, putS] at hs
  exact ⟨st1, .cons hs r1, r2, r3⟩
theorem sN {d k : Nat} {cs : List SV} {x : SV} (h : NOk P o (sget S) k cs x) (hdst : o.dst = some d) (hg : guardSt ops S o = some true) (hd : dstB n (some d) = true) (hf : freshB k ⟨S, B⟩ = true) (r : SRun P n ops ((d, x) :: S) ((k, some cs) :: B) l S' B') : SRun P n ops S B (o :: l) S' B' := by
  obtain ⟨st1, r1, r2, r3⟩ := r
  have hs := Step.n (P := P) (n := n) (ops := ops) (st := ⟨S, B⟩) (o := o) h hg (by rw [hdst]; exact hd) hf
  simp only [hdst, putS] at hs
  exact ⟨st1, .cons hs r1, r2, r3⟩
theorem sT {k : Nat} {old cs : List SV} (h : TOk P o (sget S) k old cs) (hdst : o.dst = none) (hg : guardSt ops S o = some true) (hb : bget B k = some old) (r : SRun P n ops S ((k, some cs) :: B) l S' B') : SRun P n ops S B (o :: l) S' B' := by
  obtain ⟨st1, r1, r2, r3⟩ := r
  have hs := Step.t (P := P) (n := n) (ops := ops) (st := ⟨S, B⟩) (o := o) h hg (by rw [hdst]; rfl) hb
  simp only [hdst, putS] at hs
  exact ⟨st1, .cons hs r1, r2, r3⟩
theorem sK {d : Tmp} (hdst : o.dst = some d) (hg : guardSt ops S o = some false) (hd : dstB n (some d) = true) (r : SRun P n ops ((d, .d (.tup [])) :: S) B l S' B') : SRun P n ops S B (o :: l) S' B' := by
  obtain ⟨st1, r1, r2, r3⟩ := r
  have hs := Step.skip (P := P) (n := n) (ops := ops) (st := ⟨S, B⟩) (o := o) hg (by rw [hdst]; exact hd)
  simp only [hdst, putS] at hs
  exact ⟨st1, .cons hs r1, r2, r3⟩
theorem sX {S1 : SL} {B1 : BS} (h : ∀ (C : Ctx) (a : Act) (w : World) (Q : Exit → Act → World → Prop), C.n = n → Sim C a w ⟨S, B⟩ → o.wp P a w (fun a' w' => Sim C a' w' ⟨S1, B1⟩) Q) (hg : guardSt ops S o = some true) (r : SRun P n ops S1 B1 l S' B') : SRun P n ops S B (o :: l) S' B' := by
  obtain ⟨st1, r1, r2, r3⟩ := r
  exact ⟨st1, .cons (.sem h hg) r1, r2, r3⟩
theorem dNil (h1 : S'.map (fun p => sget S p.1) = S'.map (·.2)) (h2 : B'.map (fun p => bget B p.1) = B'.map (·.2)) (h3 : orderB ops acc0 = true) : DRun P n ops news S B [] acc0 S' B' := ⟨⟨S, B⟩, [], .nil, by simpa using h3, h1, h2⟩
theorem dE {d : Tmp} {x : SV} (h : EOk P o (sget S) [] x) (hdst : o.dst = some d) (hg : guardSt ops S o = some true) (hd : dstB n (some d) = true) (hn : clearR ops S o news x = true) (r : DRun P n ops news ((d, x) :: S) B l (acc0 ++ [([], [])]) S' B') : DRun P n ops news S B (o :: l) acc0 S' B' := by
  obtain ⟨st1, acc, r1, r0, r2, r3⟩ := r
  have hs := DStep.e (P := P) (n := n) (ops := ops) (news := news) (st := ⟨S, B⟩) (o := o) h hg (by rw [hdst]; exact hd) (by simp) hn
  simp only [hdst, putS, List.map_nil] at hs
  exact ⟨st1, ([], []) :: acc, .cons hs r1, by simpa using r0, r2, r3⟩
theorem dR {d k : Nat} {cs : List SV} {x : SV} (h : EOk P o (sget S) [(k, cs)] x) (hdst : o.dst = some d) (hg : guardSt ops S o = some true) (hd : dstB n (some d) = true) (hb : bget B k = some cs) (hn : clearR ops S o news x = true) (r : DRun P n ops news ((d, x) :: S) B l (acc0 ++ [([k], [])]) S' B') : DRun P n ops news S B (o :: l) acc0 S' B' := by
  obtain ⟨st1, acc, r1, r0, r2, r3⟩ := r
  have hs := DStep.e (P := P) (n := n) (ops := ops) (news := news) (st := ⟨S, B⟩) (o := o) h hg (by rw [hdst]; exact hd) (by simpa using hb) hn
  simp only [hdst, putS, List.map_cons, List.map_nil] at hs
  exact ⟨st1, ([k], []) :: acc, .cons hs r1, by simpa using r0, r2, r3⟩
theorem dN {d k : Nat} {cs : List SV} {x : SV} (h : NOk P o (sget S) k cs x) (hdst : o.dst = some d) (hg : guardSt ops S o = some true) (hd : dstB n (some d) = true) (hf : freshB k ⟨S, B⟩ = true) (hn : clear1 news x = true) (hc : clearL news cs = true)
    (r : DRun P n ops (k :: news) ((d, x) :: S) ((k, some cs) :: B) l (acc0 ++ [([], [k])]) S' B') : DRun P n ops news S B (o :: l) acc0 S' B' := by
  obtain ⟨st1, acc, r1, r0, r2, r3⟩ := r
  have hs := DStep.n (P := P) (n := n) (ops := ops) (news := news) (st := ⟨S, B⟩) (o := o) h hg (by rw [hdst]; exact hd) hf hn hc
  simp only [hdst, putS] at hs
  exact ⟨st1, ([], [k]) :: acc, .cons hs r1, by simpa using r0, r2, r3⟩
theorem dT {k : Nat} {old cs : List SV} (h : TOk P o (sget S) k old cs) (hdst : o.dst = none) (hg : guardSt ops S o = some true) (hb : bget B k = some old) (hc : clearL news cs = true) (r : DRun P n ops news S ((k, some cs) :: B) l (acc0 ++ [([k], [k])]) S' B') : DRun P n ops news S B (o :: l) acc0 S' B' := by
  obtain ⟨st1, acc, r1, r0, r2, r3⟩ := r
  have hs := DStep.t (P := P) (n := n) (ops := ops) (news := news) (st := ⟨S, B⟩) (o := o) h hg (by rw [hdst]; rfl) hb hc
  simp only [hdst, putS] at hs
  exact ⟨st1, ([k], [k]) :: acc, .cons hs r1, by simpa using r0, r2, r3⟩
theorem dK {d : Tmp} (hdst : o.dst = some d) (hg : guardSt ops S o = some false) (hd : dstB n (some d) = true) (r : DRun P n ops news ((d, .d (.tup [])) :: S) B l (acc0 ++ [([], [])]) S' B') : DRun P n ops news S B (o :: l) acc0 S' B' := by
  obtain ⟨st1, acc, r1, r0, r2, r3⟩ := r
  have hs := DStep.skip (P := P) (n := n) (ops := ops) (news := news) (st := ⟨S, B⟩) (o := o) hg (by rw [hdst]; exact hd)
  simp only [hdst, putS] at hs
  exact ⟨st1, ([], []) :: acc, .cons hs r1, by simpa using r0, r2, r3⟩
theorem pwp_S {id : Nat} {Q : Exit → PS → Prop} (h : SRun P n l.toArray S B l S' B') (hq : Q .normal ⟨S', B'⟩) (hp : l.all plainB = true := by rfl) : PWp P n (.region id l.toArray false) Q ⟨S, B⟩ := fun C a w N hn hs => by
  obtain ⟨st1, h1, h2, h3⟩ := h
  subst hn
  exact wpIn_region_lit (steps_sound (C := C) h1 hp rfl (fun a' w' hs' => ⟨⟨S', B'⟩, weak h2 h3 C a' w' hs', hq⟩) hs)
theorem pwp_D {id : Nat} {Q : Exit → PS → Prop} (hm : P.follows .mixedOrders = true) (hb : backB l.toArray = true) (h : DRun P n l.toArray [] S B l [] S' B') (hq : Q .normal ⟨S', B'⟩) (hp : l.all plainB = true := by rfl) : PWp P n (.region id l.toArray true) Q ⟨S, B⟩ := fun C a w N hn hs => by
  obtain ⟨st1, acc, h1, h0, h2, h3⟩ := h
  subst hn
  exact wpIn_region_any hm (draw_sound (C := C) rfl (by simpa using h1) (by simpa using h0) hb (by simpa using hp) (fun a' w' hs' => ⟨⟨S', B'⟩, weak h2 h3 C a' w' hs', hq⟩) hs)
end
section
variable {P : Program} {o : Oper} {S : Nat → SV}
theorem e_mov {x : Operand} {y : SV} (ho : o.op = .move x) (hx : ev S x = y) : EOk P o S [] y := hx ▸ e_move (.inl ho)
theorem e_asg {x : Operand} {y : SV} (ho : o.op = .assign x) (hx : ev S x = y) : EOk P o S [] y := hx ▸ e_move (.inr ho)
theorem e_asgnil (t : TypeId) (s : Nat) (ho : o.op = .assign (.const (.slice none 0 0))) : EOk P o S [] (.d (.sl t s [])) := e_nil t s (.inr ho)
theorem e_lda {T : TypeId} {x : Operand} {k off sz : Nat} {cs : List SV} {y : SV} (ho : o.op = .load T x) (hx : ev S x = .ref k off) (hs : shapeB P T = some (true, sz)) (hl : Nat.ble (off + sz) cs.length = true) (hy : gather true ((cs.drop off).take sz) = y) : EOk P o S [(k, cs)] y :=
  hy ▸ e_load_ref ho hx hs (fun h => by cases h) (Nat.le_of_ble_eq_true hl)
theorem e_ld1 {T : TypeId} {x : Operand} {k off : Nat} {cs : List SV} {y : SV} (ho : o.op = .load T x) (hx : ev S x = .ref k off) (hs : shapeB P T = some (false, 1)) (hy : cs[off]? = some y) : EOk P o S [(k, cs)] y := by
  have hlt := (List.getElem?_eq_some_iff.1 hy).1
  have h := e_load_ref (P := P) (cs := cs) ho hx hs (fun _ => rfl) (by omega)
  have e : (cs.drop off).take 1 = [y] := by
    rw [List.drop_eq_getElem_cons hlt]
    have : cs[off] = y := (List.getElem?_eq_some_iff.1 hy).2
    simp [this]
  rw [e] at h
  exact h
theorem e_lca {T t : TypeId} {x : Operand} {off sz : Nat} {cs : List Dat} {y : SV} (ho : o.op = .load T x) (hx : ev S x = .d (.cptr t cs off)) (hs : shapeB P T = some (true, sz)) (hl : Nat.ble (off + sz) cs.length = true) (hy : gather true (((cs.drop off).take sz).map .d) = y) : EOk P o S [] y :=
  hy ▸ e_load_cptr ho hx hs (fun h => by cases h) (Nat.le_of_ble_eq_true hl)
theorem e_lc1 {T t : TypeId} {x : Operand} {off : Nat} {cs : List Dat} {y : Dat} (ho : o.op = .load T x) (hx : ev S x = .d (.cptr t cs off)) (hs : shapeB P T = some (false, 1)) (hy : cs[off]? = some y) : EOk P o S [] (.d y) := by
  have hlt := (List.getElem?_eq_some_iff.1 hy).1
  have h := e_load_cptr (P := P) (cs := cs) ho hx hs (fun _ => rfl) (by omega)
  have e : ((cs.drop off).take 1).map SV.d = [.d y] := by
    rw [List.drop_eq_getElem_cons hlt]
    have : cs[off] = y := (List.getElem?_eq_some_iff.1 hy).2
    simp [this]
  rw [e] at h
  exact h
theorem e_pkt {c x y : Operand} {z : SV} (ho : o.op = .pick c x y) (hc : ev S c = .d (.val (.bool true))) (hx : ev S x = z) : EOk P o S [] z := by
  have := e_pick (P := P) ho hc
  simpa [hx] using this
theorem e_pkf {c x y : Operand} {z : SV} (ho : o.op = .pick c x y) (hc : ev S c = .d (.val (.bool false))) (hy : ev S y = z) : EOk P o S [] z := by
  have := e_pick (P := P) ho hc
  simpa [hy] using this
theorem e_fldr {T : TypeId} {x : Operand} {f off k p q : Nat} (ho : o.op = .fieldAddr T x f) (hx : ev S x = .ref k p) (hf : fieldB P T f = some off) (hq : p + off = q) : EOk P o S [] (.ref k q) := hq ▸ e_fieldAddr_ref ho hx hf
theorem e_ixs {T E t : TypeId} {x ix : Operand} {s : Nat} {es : List Dat} {k : IntKind} {i : Int} {j : Nat} {cs : List Dat} (ho : o.op = .indexAddr T x ix) (hT : elemB P T = some (E, s)) (hx : ev S x = .d (.sl t s es)) (hi : ev S ix = .d (.val (.int k i)))
    (hj : i = (j : Int)) (he : es[j]?.map Dat.cells = some cs) : EOk P o S [] (.d (.cptr t cs 0)) := by
  subst hj
  rw [Option.map_eq_some_iff] at he
  obtain ⟨e, h1, rfl⟩ := he
  exact e_index_sl ho hT hx hi (by omega) (by simpa using h1)
theorem e_ixo {T E t : TypeId} {x ix : Operand} {s b n q : Nat} {k : IntKind} {i : Int} {j : Nat} (ho : o.op = .indexAddr T x ix) (hT : elemB P T = some (E, s)) (hx : ev S x = .own b t s n) (hi : ev S ix = .d (.val (.int k i)))
    (hj : i = (j : Int)) (h1 : j < n) (hq : j * s = q) : EOk P o S [] (.ref b q) := by
  subst hj; subst hq
  have h := e_index_own (P := P) ho hT hx hi (by omega) (by omega)
  simpa using h
theorem e_ixar {T E : TypeId} {x ix : Operand} {s b n p q : Nat} {k : IntKind} {i : Int} {j : Nat} (ho : o.op = .indexAddr T x ix) (hT : arrB P T = some (n, E, s)) (hx : ev S x = .ref b p) (hi : ev S ix = .d (.val (.int k i)))
    (hj : i = (j : Int)) (h1 : j < n) (hq : p + j * s = q) : EOk P o S [] (.ref b q) := by
  subst hj; subst hq
  have h := e_index_aref (P := P) ho hT hx hi (by omega) (by omega)
  simpa using h
theorem e_exD {x : Operand} {i : Nat} {ds : List Dat} {d : Dat} (ho : o.op = .extract x i) (hx : ev S x = .d (.tup ds)) (hd : ds[i]? = some d) : EOk P o S [] (.d d) := e_extract ho hx hd
theorem e_fld1 {T t : TypeId} {x : Operand} {f off : Nat} {cs : List Dat} {y : SV} (ho : o.op = .field T x f) (hx : ev S x = .d (.agg cs)) (hf : fieldT P T f = some (off, t)) (hs : shapeB P t = some (false, 1)) (hle : Nat.ble (off + 1) cs.length = true) (hy : gather false (((cs.drop off).take 1).map .d) = y) : EOk P o S [] y :=
  hy ▸ e_field ho hx hf hs (fun _ => rfl) (Nat.le_of_ble_eq_true hle)
theorem e_bld {T : TypeId} {ps : List (Nat × Operand)} {pd : List (Nat × Dat)} {pl : List (Nat × Nat)} {zv : List Value} {zd r : List Dat} {y : Dat} (ho : o.op = .build T ps.toArray) (hT : placesB P T = some pl) (hz : zeroB P T = some zv) (hzd : ZOk zv zd)
    (hps : ps.map (fun p => (p.1, ev S p.2)) = pd.map (fun p => (p.1, .d p.2))) (hok : pd.all (fun p => p.2.ok1) = true) (hr : fillL (fun i => pl[i]?) zd (pd.map fun p => (p.1, p.2.cells)) = some r) (hy : Dat.agg r = y) : EOk P o S [] (.d y) := hy ▸ e_build ho hT hz hzd hps hok hr
theorem e_blda {T E : TypeId} {n s : Nat} {ps : List (Nat × Operand)} {pd : List (Nat × Dat)} {zv : List Value} {zd r : List Dat} {y : Dat} (ho : o.op = .build T ps.toArray) (hT : arrB P T = some (n, E, s)) (hz : zeroB P T = some zv) (hzd : ZOk zv zd)
    (hps : ps.map (fun p => (p.1, ev S p.2)) = pd.map (fun p => (p.1, .d p.2))) (hok : pd.all (fun p => p.2.ok1) = true) (hr : fillL (fun i => some (i * s, s)) zd (pd.map fun p => (p.1, p.2.cells)) = some r) (hy : Dat.agg r = y) : EOk P o S [] (.d y) := hy ▸ e_build_arr ho hT hz hzd hps hok hr
theorem e_bsl {T E : TypeId} {s len : Nat} {ps : List (Nat × Operand)} {pd : List (Nat × Dat)} {zv : List Value} {zd es : List Dat} (ho : o.op = .buildSlice T len ps.toArray) (hT : elemB P T = some (E, s)) (hz : zeroB P E = some zv) (hzd : ZOk zv zd) (hzl : zd.length = s)
    (hps : ps.map (fun p => (p.1, ev S p.2)) = pd.map (fun p => (p.1, .d p.2))) (hok : pd.all (fun p => p.2.ok1) = true) (hbig : Nat.ble (len * s) 16777216 = true) (hbig' : Nat.ble len 16777216 = true) (hlen : es.length = len) (hs : es.map (fun e => e.cells.length) = List.replicate len s)
    (hr : fillL (fun i => some (i * s, s)) (List.replicate len zd).flatten (pd.map fun p => (p.1, p.2.cells)) = some (flat es)) : EOk P o S [] (.d (.sl E s es)) :=
  e_buildSlice ho hT hz hzd hzl hps hok (Nat.le_of_ble_eq_true hbig) (Nat.le_of_ble_eq_true hbig') hlen (fun e he => by
    have : e.cells.length ∈ es.map (fun e => e.cells.length) := List.mem_map_of_mem he
    rw [hs] at this
    exact (List.mem_replicate.1 this).2) hr
theorem n_bx {T : TypeId} {x : Operand} {d : Dat} {cs : List SV} (k : Nat) (ho : o.op = .box T x) (hx : ev S x = .d d) (h1 : d.ok1 = true) (hc : d.cells.map .d = cs) : NOk P o S k cs (.ref k 0) := hc ▸ n_box k ho hx h1
theorem n_al {T : TypeId} {zv : List Value} {zd : List Dat} {cs : List SV} (k : Nat) (ho : o.op = .alloc T) (hz : zeroB P T = some zv) (hzd : ZOk zv zd) (hc : zd.map .d = cs) : NOk P o S k cs (.ref k 0) := hc ▸ n_alloc k ho hz hzd
theorem t_std {T : TypeId} {x y : Operand} {k off sz : Nat} {agg : Bool} {old cs : List SV} {d : Dat} (ho : o.op = .store T x y) (hx : ev S x = .ref k off) (hy : ev S y = .d d) (hs : shapeB P T = some (agg, sz)) (h1 : d.ok1 = true) (hlen : d.cells.length = sz) (hle : Nat.ble (off + sz) old.length = true)
    (hc : patch old off (d.cells.map .d) = cs) : TOk P o S k old cs := hc ▸ t_store ho hx hy hs (.inl ⟨d, rfl, h1, rfl⟩) (by simpa using hlen) (Nat.le_of_ble_eq_true hle)
theorem t_st1 {T : TypeId} {x y : Operand} {k off : Nat} {old cs : List SV} {d : Dat} (ho : o.op = .store T x y) (hx : ev S x = .ref k off) (hy : ev S y = .d d) (hs : shapeB P T = some (false, 1)) (h1 : d.ok1 = true) (hcl : d.cells = [d]) (hle : off < old.length) (hc : old.set off (.d d) = cs) : TOk P o S k old cs := by
  have h := t_store (P := P) (old := old) ho hx hy hs (.inl ⟨d, rfl, h1, rfl⟩) (by simp [hcl]) (by omega)
  have e : patch old off (d.cells.map .d) = old.set off (.d d) := by
    rw [hcl]
    apply List.ext_getElem?
    intro i
    rw [patch_get (by simp; omega), List.getElem?_set]
    simp only [List.map_cons, List.map_nil, List.length_cons, List.length_nil, Nat.zero_add]
    by_cases c1 : i < off
    · rw [if_pos c1, if_neg (by omega)]
    · rw [if_neg c1]
      by_cases c2 : off = i
      · subst c2; simp [hle]
      · rw [if_neg (by omega), if_neg c2]
  rw [e, hc] at h
  exact h
theorem e_cl {y : Operand} {xs : List Operand} {ats : Array TypeId} {f : FuncId} {ds : List Dat} {r : Dat} (hf : Takes P f ds r) (ho : o.op = .call { callee := .value y, args := xs.toArray, argTypes := ats }) (hy : ev S y = .d (.val (.func (.func f) #[] #[]))) (hx : xs.map (ev S) = ds.map .d) : EOk P o S [] (.d r) := e_call ho hy hx hf
end
theorem wi64 {m r : Int} (h : m = r) (h1 : -9223372036854775808 ≤ r) (h2 : r ≤ 9223372036854775807) : IntKind.i64.wrap m = r := by
  subst h
  rw [IntKind.wrap_i64]; omega
theorem wu64 {m r : Int} (h : m = r) (h1 : 0 ≤ r) (h2 : r ≤ 18446744073709551615) : IntKind.u64.wrap m = r := by
  subst h
  have : IntKind.u64.wrap m = m % 18446744073709551616 := by
    simp [IntKind.wrap, IntKind.bits, IntKind.signed]
  rw [this]; omega
theorem wu32 {m r : Int} (h : m = r) (h1 : 0 ≤ r) (h2 : r ≤ 4294967295) : IntKind.u32.wrap m = r := by
  subst h
  have : IntKind.u32.wrap m = m % 4294967296 := by
    simp [IntKind.wrap, IntKind.bits, IntKind.signed]
  rw [this]; omega
end Go.Fid
