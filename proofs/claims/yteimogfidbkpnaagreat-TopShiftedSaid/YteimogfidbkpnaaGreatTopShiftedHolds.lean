/- The law TopShifted returns true for every input, and its arguments read afterwards as before. No condition. -/
import Derived.Test.YteimogfidbkpnaaGreatM29
import Derived.Test.YteimogfidbkpnaaGreatM30
import Derived.Test.YteimogfidbkpnaaGreatRows
import Derived.JoinedOf
namespace Go.Proofs.YteimogfidbkpnaaGreat
open Go.Fid Go.RowKit Go.ChangeShapes Go.WideShapes
theorem takes_law(r:kG)(n:Nat)(p:qI)(lr:Len23 r)(ln:Len_u8 n)(_lp:Len25 p):jR Tryz.prog 3 [jN r,.val (.int .u8 ((n:Nat):Int)),qH p] (.val (.bool true)):=by
 obtain ⟨w,h,mx,px⟩:=r
 obtain ⟨x,y⟩:=p
 by_cases hl:px.length≤100
 case neg=>exact w_ts0 (hn:=ln) (hl:=hl) ..
 by_cases hc:gG w h mx px=0
 ·obtain ⟨a,b,rfl,rfl,hv,m1,m2,hp⟩:=chk_rst hc
  have hw:1≤a∧a≤64:=⟨hv.1,hv.2.1⟩
  have hh:1≤b∧b≤64:=⟨hv.2.2.1,hv.2.2.2.1⟩
  by_cases hg:px.length≤100∧((n % 4:Nat):Int)≤x∧0≤y∧x+3≤(a:Int)∧y+3≤(b:Int)
  ·obtain ⟨g1,g2,g3,g4,g5⟩:=hg
   obtain ⟨x,rfl⟩:=Int.eq_ofNat_of_zero_le (show 0≤x by omega)
   obtain ⟨y,rfl⟩:=Int.eq_ofNat_of_zero_le g3
   cases hf:mL px a x y 9 with
   |true=>exact w_ts3 (hn:=ln) (hv:=hv) (m1:=m1) (m2:=m2) (hpm:=hp) (hc:=hc) (h100:=g1) (hd:=by omega) (hx:=by omega) (hy:=by omega) (hf:=hf) ..
   |false=>exact w_ts4 (hn:=ln) (hv:=hv) (m1:=m1) (m2:=m2) (hpm:=hp) (hc:=hc) (h100:=g1) (hd:=by omega) (hx:=by omega) (hy:=by omega) (hf:=hf) ..
  ·exact w_ts2 (hn:=ln) (hbp:=by omega) (hw:=hw) (hh:=hh) (hg:=hg) ..
 ·exact w_ts1 (hn:=ln) (hbp:=by omega) (hc:=hc) ..
theorem laidOut:laidOutB Tryz.prog=true:=by kernel_rfl
set_option maxRecDepth 100000 in
theorem law_lifted(os:Os)(started:os.Started)(H:Type)(enc:TypeId × Value→H) :
  ReturnsInHanded {} Tryz.checked os 3 .any (Rows.topShiftedSpec.pre6 enc Tryz.prog Tryz.f3 Rows.topShiftedRow.domain false) (Rows.topShiftedSpec.post enc Tryz.prog Tryz.f3 false true false false):=by
 refine returnsInHanded_of_change_sized (C:=Tryz.checked) (by kernel_rfl) started (by kernel_rfl) Tryz.func3
  (ChangeSpec.witness6 (enc:=enc) (C:=Tryz.checked) false ⟨#[],#[.agg #[.int .i64 0,.int .i64 0,.int .i64 0,.slice none 0 0],.int .u8 0,.agg #[.int .i64 0,.int .i64 0]],[]⟩ 8 (by kernel_rfl) (by kernel_rfl) (by kernel_rfl) (by kernel_rfl)) ?_
 intro W base args ds gs before hval hW _ hwt _
 refine law_contract (tys:=[ty23,(.int .u8),ty25]) (B:=4) laidOut rfl (by kernel_rfl) (by kernel_rfl) (by kernel_rfl) (by kernel_rfl) ?_ ?_ W base args ds gs before hval hW hwt
 ·intro ds hl
  have hl2:ds.length=3:=hl
  match ds,hl2 with
  |[d1,d2,d3],_=>exact ⟨rfl,rfl,rfl⟩
 ·intro dss h
  cases h with
  |cons h1 r=>
   cases r with
   |cons h2 r=>
    cases r with
    |cons h3 r=>
     cases r with
     |nil=>
      obtain ⟨r,e1,lr⟩:=sh23_ h1
      obtain ⟨n,e2,ln⟩:=sh_u8 h2
      obtain ⟨p,e3,lp⟩:=sh25_ h3
      simp only[mkAll]
      rw[e1,e2,e3]
      exact takes_law r n p lr ln lp
theorem law_holds:Rows.TopShiftedSaid :=
 OpenClaim.holds_of_wide 3 Tryz.f3 rfl rfl rfl rfl rfl rfl rfl ⟨rfl,rfl,rfl,rfl,rfl⟩ rfl rfl rfl rfl rfl (by kernel_rfl) Tryz.func3 (by kernel_rfl)
  (of_decide_eq_true (by kernel_rfl)) (by unfold Func.isWrapper;rw[if_neg (by decide +kernel)];exact ⟨rfl,rfl⟩)
  (fun os started H enc _=>law_lifted os started H enc)
end Go.Proofs.YteimogfidbkpnaaGreat
