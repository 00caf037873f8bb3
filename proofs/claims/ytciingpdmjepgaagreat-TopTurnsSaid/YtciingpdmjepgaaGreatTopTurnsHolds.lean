/- The law TopTurns returns true for every input, and its arguments read afterwards as before. No condition. -/
import Derived.Test.YtciingpdmjepgaaGreatM36
import Derived.Test.YtciingpdmjepgaaGreatM37
import Derived.Test.YtciingpdmjepgaaGreatRows
import Derived.JoinedOf
namespace Go.Proofs.YtciingpdmjepgaaGreat
open Go.Fid Go.RowKit Go.ChangeShapes Go.WideShapes
theorem takes_law(b:qW)(q:jB)(sh:jM)(lb:Len25 b)(lq:Len27 q)(ls:Len29 sh):jU Tryz.prog 3 [kJ b,jI q,kH sh] (.val (.bool true)) :=
 w_tt b q sh (fun j hj=>(lb.2.1.1 _ (gd_mem cQ hj)).1) (fun j hj=>lb.2.2.1.1 _ (gd_mem nP0 hj)) ls
theorem laidOut:laidOutB Tryz.prog=true:=by kernel_rfl
set_option maxRecDepth 100000 in
theorem law_lifted(os:Os)(started:os.Started)(H:Type)(enc:TypeId × Value->H) :
  ReturnsInHanded {} Tryz.checked os 3 .any (Rows.topTurnsSpec.pre6 enc Tryz.prog Tryz.f3 Rows.topTurnsRow.domain false) (Rows.topTurnsSpec.post enc Tryz.prog Tryz.f3 false true false false):=by
 refine returnsInHanded_of_change_sized (C:=Tryz.checked) (by kernel_rfl) started (by kernel_rfl) Tryz.func3
  (ChangeSpec.witness6 (enc:=enc) (C:=Tryz.checked) false ⟨#[],#[.agg #[.int .i64 0,.slice none 0 0,.slice none 0 0,.slice none 0 0],.agg #[.int .i64 0,.int .i64 0,.int .i64 0,.int .i64 0],.agg #[.int .i64 0,.int .i64 0,.int .i64 0]],[]⟩ 8 (by kernel_rfl) (by kernel_rfl) (by kernel_rfl) (by kernel_rfl)) ?_
 intro W base args ds gs before hval hW _ hwt _
 refine law_contract (tys:=[ty25,ty27,ty29]) (B:=4) laidOut rfl (by kernel_rfl) (by kernel_rfl) (by kernel_rfl) (by kernel_rfl) ?_ ?_ W (fun G hG=>by cases hG) base args ds gs before hval hW hwt
 ·intro ds hl
  have hl2:ds.length=3:=hl
  match ds,hl2 with
  |[d1,d2,d3],_=>exact ⟨rfl,rfl,rfl⟩
 ·intro dss h
  cases h with
  |cons h1 r=>
   cases r with
   |cons h2 r=>
    cases r with
    |cons h3 r=>
     cases r with
     |nil=>
      obtain ⟨b,e1,lb⟩:=sh25_ h1
      obtain ⟨q,e2,lq⟩:=sh27_ h2
      obtain ⟨sh,e3,lsh⟩:=sh29_ h3
      simp only[mkAll]
      rw[e1,e2,e3]
      exact takes_law b q sh lb lq lsh
theorem law_holds:Rows.TopTurnsSaid :=
 OpenClaim.holds_of_wide 3 Tryz.f3 rfl rfl rfl rfl rfl rfl rfl ⟨rfl,rfl,rfl,rfl,rfl⟩ rfl rfl rfl rfl rfl (by kernel_rfl) Tryz.func3 (by kernel_rfl)
  (of_decide_eq_true (by kernel_rfl)) (by unfold Func.isWrapper;rw[if_neg (by decide +kernel)];exact ⟨rfl,rfl⟩)
  (fun os started H enc _=>law_lifted os started H enc)
end Go.Proofs.YtciingpdmjepgaaGreat
