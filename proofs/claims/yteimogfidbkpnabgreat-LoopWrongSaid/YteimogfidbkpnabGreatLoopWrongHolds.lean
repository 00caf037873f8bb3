/- The law LoopWrong returns true for every input, and its arguments read afterwards as before. No condition. -/
import Derived.Test.YteimogfidbkpnabGreatM31
import Derived.Test.YteimogfidbkpnabGreatRows
import Derived.JoinedOf
namespace Go.Proofs.YteimogfidbkpnabGreat
open Go.Fid Go.RowKit Go.ChangeShapes Go.WideShapes
theorem takes_law(ts:List jB)(n:Nat)(q:jB)(lt:Len22 ts)(ln:Len_u8 n)(_lq:Len23 q):kB Tryz.prog 3 [.sl 24 4 (ts.map jF),.val (.int .u8 ((n:Nat):Int)),jF q] (.val (.bool true)) :=
 w_wrong ts n ln q lt.2
theorem laidOut:laidOutB Tryz.prog=true:=by kernel_rfl
set_option maxRecDepth 100000 in
theorem law_lifted(os:Os)(started:os.Started)(H:Type)(enc:TypeId × Value→H) :
  ReturnsInHanded {} Tryz.checked os 3 .any (Rows.loopWrongSpec.pre6 enc Tryz.prog Tryz.f3 Rows.loopWrongRow.domain false) (Rows.loopWrongSpec.post enc Tryz.prog Tryz.f3 false true false false):=by
 refine returnsInHanded_of_change_sized (C:=Tryz.checked) (by kernel_rfl) started (by kernel_rfl) Tryz.func3
  (ChangeSpec.witness6 (enc:=enc) (C:=Tryz.checked) false ⟨#[],#[.slice none 0 0,.int .u8 0,.agg #[.int .i64 0,.int .i64 0,.int .i64 0,.int .i64 0]],[]⟩ 8 (by kernel_rfl) (by kernel_rfl) (by kernel_rfl) (by kernel_rfl)) ?_
 intro W base args ds gs before hval hW _ hwt _
 refine law_contract (tys:=[ty22,(.int .u8),ty23]) (B:=4) laidOut rfl (by kernel_rfl) (by kernel_rfl) (by kernel_rfl) (by kernel_rfl) ?_ ?_ W base args ds gs before hval hW hwt
 ·intro ds hl
  have hl2:ds.length=3:=hl
  match ds,hl2 with
  |[d1,d2,d3],_=>exact ⟨rfl,rfl,rfl⟩
 ·intro dss h
  cases h with
  |cons h1 r=>
   cases r with
   |cons h2 r=>
    cases r with
    |cons h3 r=>
     cases r with
     |nil=>
      obtain ⟨ts,e1,lts⟩:=sh22_ h1
      obtain ⟨n,e2,ln⟩:=sh_u8 h2
      obtain ⟨q,e3,lq⟩:=sh23_ h3
      simp only[mkAll]
      rw[e1,e2,e3]
      exact takes_law ts n q lts ln lq
theorem law_holds:Rows.LoopWrongSaid :=
 OpenClaim.holds_of_wide 3 Tryz.f3 rfl rfl rfl rfl rfl rfl rfl ⟨rfl,rfl,rfl,rfl,rfl⟩ rfl rfl rfl rfl rfl (by kernel_rfl) Tryz.func3 (by kernel_rfl)
  (of_decide_eq_true (by kernel_rfl)) (by unfold Func.isWrapper;rw[if_neg (by decide +kernel)];exact ⟨rfl,rfl⟩)
  (fun os started H enc _=>law_lifted os started H enc)
end Go.Proofs.YteimogfidbkpnabGreat
