/- The law IntervalDots returns true for every input, and its arguments read afterwards as before. No condition. -/
import Derived.Test.YtcdgmcfkhkikbaaGreatLawG
import Derived.Test.YtcdgmcfkhkikbaaGreatForms
import Derived.Test.YtcdgmcfkhkikbaaGreatRows
import Derived.JoinedOf
namespace Go.Proofs.YtcdgmcfkhkikbaaGreat
open Go.Fid Go.RowKit Go.ChangeShapes Go.WideShapes
theorem takes_law (a b : List RRng) (ha : ∀ x ∈ a, LenG x) (na : a.length ≤ 140737488355328) (hb : ∀ x ∈ b, LenG x) (nb : b.length ≤ 140737488355328) : Takes Tryz.prog 7 [.sl 28 8 (a.map encG), .sl 28 8 (b.map encG)] (.val (.bool true)) := by
  by_cases h8 : 8 < a.length
  · exact w_dotNa a b h8
  by_cases h9 : 8 < b.length
  · exact w_dotNb a b h8 h9
  have ra : ∀ x ∈ a, GOk 140737488355328 x := fun x hx => gok_len (ha x hx)
  have rb : ∀ x ∈ b, GOk 140737488355328 x := fun x hx => gok_len (hb x hx)
  rcases hsa : List.all a shortG with _ | _
  · exact w_dotLa a ra (by omega) b rb (by omega) hsa
  rcases hsb : List.all b shortG with _ | _
  · exact w_dotLb a ra (by omega) b rb (by omega) hsa hsb
  have ka : ∀ x ∈ a, GOk 16 x := fun x hx => gok_short (List.all_eq_true.1 hsa x hx)
  have kb : ∀ x ∈ b, GOk 16 x := fun x hx => gok_short (List.all_eq_true.1 hsb x hx)
  rcases hva : List.all a validG with _ | _
  · exact w_dotA a ka (by omega) b kb (by omega) hsa hsb hva
  obtain ⟨L, rfl, hL⟩ := list_form hva hsa
  rw [List.length_map] at h8
  rcases hvb : List.all b validG with _ | _
  · exact w_dotB L hL (by omega) b kb (by omega) hsa hsb hvb
  obtain ⟨M, rfl, hM⟩ := list_form hvb hsb
  rw [List.length_map] at h9
  by_cases hl : L.length = M.length
  · exact w_dot L hL (by omega) M hM (by omega) hsa hsb hl
  · exact w_dotM L hL (by omega) M hM (by omega) hsa hsb hl
theorem laidOut : laidOutB Tryz.prog = true := by kernel_rfl
set_option maxRecDepth 100000 in
theorem law_lifted (os : Os) (started : os.Started) (H : Type) (enc : TypeId × Value → H) :
    ReturnsInHanded {} Tryz.checked os 7 .any (Rows.intervalDotsSpec.pre6 enc Tryz.prog Tryz.f7 Rows.intervalDotsRow.domain false) (Rows.intervalDotsSpec.post enc Tryz.prog Tryz.f7 false true false false) := by
  refine returnsInHanded_of_change_sized (C := Tryz.checked) (by kernel_rfl) started (by kernel_rfl) Tryz.func7
    (ChangeSpec.witness6 (enc := enc) (C := Tryz.checked) false ⟨#[], #[.slice none 0 0, .slice none 0 0], []⟩ 8 (by kernel_rfl) (by kernel_rfl) (by kernel_rfl) (by kernel_rfl)) ?_
  intro W base args ds gs before hval hW _ hwt _
  refine law_contract (tys := [.sl 28 8 tyG, .sl 28 8 tyG]) (B := 4) laidOut rfl (by kernel_rfl) (by kernel_rfl) (by kernel_rfl) (by kernel_rfl) ?_ ?_ W base args ds gs before hval hW hwt
  · intro ds hl
    have hl2 : ds.length = 2 := hl
    match ds, hl2 with
    | [d1, d2], _ => exact ⟨rfl, rfl, rfl⟩
  · intro dss h
    cases h with
    | cons h1 r =>
      cases r with
      | cons h2 r =>
        cases r with
        | nil =>
          obtain ⟨a, e1, ⟨la, na⟩⟩ := sh_slice (fun _ => sh_G) h1
          obtain ⟨b, e2, ⟨lb, nb⟩⟩ := sh_slice (fun _ => sh_G) h2
          simp only [mkAll]
          rw [e1, e2]
          exact takes_law a b la na lb nb
theorem law_holds : Rows.IntervalDotsSaid :=
  OpenClaim.holds_of_wide 7 Tryz.f7 rfl rfl rfl rfl rfl rfl rfl ⟨rfl, rfl, rfl, rfl, rfl⟩ rfl rfl rfl rfl rfl (by kernel_rfl) Tryz.func7 (by kernel_rfl)
    (of_decide_eq_true (by kernel_rfl)) (by unfold Func.isWrapper; rw [if_neg (by decide +kernel)]; exact ⟨rfl, rfl⟩)
    (fun os started H enc _ => law_lifted os started H enc)
end Go.Proofs.YtcdgmcfkhkikbaaGreat
