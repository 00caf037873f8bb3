import Derived.Test.YtadkkhdnccljcaaGreatFid13
/-
  Is a slice nil? Not known of an empty one: both answers are met. For any program.
-/
namespace Go.Fid
open Go.RowKit (Below)
theorem sim_put {C : Ctx} {a : Act} {w : World} {S : SL} {B : BS} {D : DSet} {β : BMap} {t : Tmp} {v : Value} {x : SV} (h : SimAt C a w ⟨S, B⟩ D β) (hd : dstB C.n (some t) = true) (hx : RepS w D β v x) : SimAt C (a.put (some t) v) w ⟨(t, x) :: S, B⟩ D β :=
  ⟨h.base.put hd _, h.mem, h.high, fun u => by
    show RepS w D β ((a.put (some t) v).tmps.getD u undef) (sget ((t, x) :: S) u)
    rw [put_getD h.base.size hd, sget_cons]
    by_cases e : t = u
    · rw [if_pos e, if_pos (by rw [e])]; exact hx
    · rw [if_neg e, if_neg (fun e' => e (by injection e'))]; exact h.slots u⟩
theorem pwp_nilq {P : Program} {n : Fr} {S : SL} {B : BS} {Q : Exit → PS → Prop} {id : Nat} {o1 o2 : Oper} {t0 ta tb : Tmp} {T T' E t : TypeId} {s s' : Nat} {es : List Dat}
    (h1 : o1.op = .move (.tmp t0)) (h1d : o1.dst = some ta) (h1g : o1.guard = none) (h2 : o2.op = .binOp .eql T (.tmp ta) (.const (.slice none 0 0)) T') (h2d : o2.dst = some tb) (h2g : o2.guard = none)
    (hT : elemB P T = some (E, s)) (hda : dstB n (some ta) = true) (hdb : dstB n (some tb) = true) (hx : sget S t0 = .d (.sl t s' es))
    (hq : ∀ b : Bool, (b = true → es = []) → Q .normal ⟨(tb, .d (.val (.bool b))) :: (ta, .d (.sl t s' es)) :: S, B⟩) : PWp P n (.region id #[o1, o2] false) Q ⟨S, B⟩ := fun C a w N hn hs => by
  subst hn
  obtain ⟨D, β, hs⟩ := hs
  have hv := hs.slots t0
  have hv' : RepS w D β (a.tmps.getD t0 undef) (sget S t0) := hv
  rw [hx] at hv'
  have hev : a.eval (.tmp t0) = a.tmps.getD t0 undef := rfl
  generalize a.tmps.getD t0 undef = v at hv' hev
  have hv'' : Rep w D v (.sl t s' es) := hv'
  obtain ⟨i, f1, f2, f3⟩ := elem_of hT
  cases hv'' with
  | sl g off u hnn hcc hmm hss ha hD hu hone hrr =>
  rename_i ad len cap
  subst hnn
  have hp1 : plainB o1 = true := by simp [plainB, h1]
  have hp2 : plainB o2 = true := by simp [plainB, h2]
  have hs1 := sim_put hs hda hv'
  have hs2 := sim_put (v := .bool ad.isNone) hs1 hdb (x := .d (.val (.bool ad.isNone))) (Rep.val _)
  refine wpIn_region_lit (wpListIn_plain h1g fun K1 hK1 => op_lift hp1 (wp_value (v := .slice ad es.length cap) (w' := w) ?_ (hK1 _ _ (wpListIn_plain h2g fun K2 hK2 => op_lift hp2 (wp_value (v := .bool ad.isNone) (w' := w) ?_ (hK2 _ _ (wpListIn_nil ?_)))))))
  · simp only [execOp, h1, hev, Sem.run_pure]
  · have hta : (a.put o1.dst (Value.slice ad es.length cap)).eval (.tmp ta) = .slice ad es.length cap := by
      show (a.put o1.dst (Value.slice ad es.length cap)).tmps.getD ta undef = _
      rw [h1d, put_getD hs.base.size hda, if_pos rfl]
    have hce : (a.put o1.dst (Value.slice ad es.length cap)).eval (.const (.slice none 0 0)) = .slice none 0 0 := rfl
    have heq : ∀ d : Nat, (Op.equalIn (d + 1) T (.slice ad es.length cap) (.slice none 0 0)).run P w = .ok ad.isNone w := fun d => by
      cases ad <;> simp [Op.equalIn, run_underlying f1]
    have heq' : (Op.equal T (.slice ad es.length cap) (.slice none 0 0)).run P w = .ok ad.isNone w := heq 9999
    simp only [execOp, h2, hta, hce]
    simp [eqGuard, binOp, heq']
  · rw [h1d, h2d]
    refine ⟨_, ⟨D, β, hs2⟩, hq _ fun hb => ?_⟩
    cases ad with
    | none =>
      refine List.eq_nil_of_length_eq_zero ?_
      rcases Nat.eq_zero_or_pos es.length with h | h
      · exact h
      · have := ha h; cases this
    | some x => cases hb
end Go.Fid
