/- The law JetChecks returns true for every input, and its arguments read afterwards as before. No condition. -/
import Derived.Test.YtckccjhflbljgaaGreatDoorM33
import Derived.Test.YtckccjhflbljgaaGreatDoorRows
import Derived.Test.YtckccjhflbljgaaGreatDoorCards
import Derived.Test.YtckccjhflbljgaaGreatDoorTie
import Derived.JoinedOf
import Derived.LaidMore
import Derived.SevenTiedAt
namespace Go.Proofs.YtckccjhflbljgaaGreatDoor
open Go.Fid Go.RowKit Go.ChangeShapes Go.WideShapes
theorem takes_law(t:List kC)(z:Int)(lt:Len22 t)(_lz:Len_i64 z):jS Tryz.prog 7 [.sl 72 7 (t.map jK),.val (.int .i64 z)] (.val (.bool true)) :=
 w_chk t (fun x hx=>qok_raw (by decide) (lt.1 x hx).2.2.2.1.2.2 (lt.1 x hx).2.2.2.2.2.2) z lt.2
theorem laidOut:laidOutB Tryz.prog=true:=by kernel_rfl
theorem door_met(os:Os)(args:Array Value):laidMetH Tryz.prog Rows.jetChecksRow.laid ((World.doorLaid Tryz.prog 400 os).forCall (fun _ _=>0) ⟨#[],args,[]⟩).memory :=
 laidMetH_of_parts3 (fuel:=8) (laidMet_of_run' 8 (by kernel_rfl) (by kernel_rfl)) (by kernel_rfl) (by kernel_rfl)
set_option maxRecDepth 100000 in
theorem law_lifted(os:Os)(started:os.Started)(H:Type)(enc:TypeId × Value->H) :
  ReturnsInHanded {} Tryz.checked os 7 .any (fun w args=>(Rows.jetChecksSpec.pre enc Tryz.prog Tryz.f7 Rows.jetChecksRow.domain false w args/\laidMetH Tryz.prog Rows.jetChecksRow.laid w)/\sizedMet enc Tryz.prog Tryz.f7 (OpenSpec.ofChange Rows.jetChecksSpec) false w args)
   (Rows.jetChecksSpec.post enc Tryz.prog Tryz.f7 false true false false):=by
 refine returnsInHanded_of_change_and (C:=Tryz.checked) (X:=fun w _=>laidMetH Tryz.prog Rows.jetChecksRow.laid w) (fun _ _ _ hh h=>h.of_heap hh) (by kernel_rfl) started (by kernel_rfl) Tryz.func7
  (ChangeSpec.witness_shaped (enc:=enc) (C:=Tryz.checked) (os:=os) (X:=fun w _=>laidMetH Tryz.prog Rows.jetChecksRow.laid w) false (World.doorLaid Tryz.prog 400 os) #[.slice none 0 0,.int .i64 0] 8 rfl (World.shaped_of_RefB (by kernel_rfl) (by kernel_rfl)) (by kernel_rfl) (by kernel_rfl) (by kernel_rfl) (door_met os _)) ?_
 intro W base args ds gs before hval hW _ hwt _ _
 refine law_contract (tys:=[ty22,(.int .i64)]) (B:=4) laidOut rfl (by kernel_rfl) (by kernel_rfl) (by kernel_rfl) (by kernel_rfl) ?_ ?_ W base args ds gs before hval hW hwt
 ·intro ds hl
  have hl2:ds.length=2:=hl
  match ds,hl2 with
  |[d1,d2],_=>exact ⟨rfl,rfl,rfl⟩
 ·intro dss h
  cases h with
  |cons h1 r=>
   cases r with
   |cons h2 r=>
    cases r with
    |nil=>
     obtain ⟨t,e1,lt⟩:=sh22_ h1
     obtain ⟨z,e2,lz⟩:=sh_i64 h2
     simp only[mkAll]
     rw[e1,e2]
     exact takes_law t z lt lz
set_option maxHeartbeats 8000000 in
theorem closed_facts:joinedFacts Tryz.prog 7 Tryz.f7 Rows.jetChecksSpec Rows.jetChecksRow=true:=by
 unfold joinedFacts
 simp only[Bool.and_eq_true]
 repeat' apply And.intro
 all_goals as_aux_lemma=>kernel_rfl
theorem row_holds:Rows.JetChecksSaid :=
 OpenClaim.holds_of_wide 7 Tryz.f7 rfl rfl rfl rfl rfl rfl rfl ⟨rfl,rfl,rfl,rfl,rfl⟩ rfl rfl rfl rfl rfl (by kernel_rfl) Tryz.func7 closed_facts
  (of_decide_eq_true (by kernel_rfl)) (by unfold Func.isWrapper;rw[if_neg (by decide +kernel)];exact ⟨rfl,rfl⟩)
  (fun os started H enc _=>law_lifted os started H enc)
theorem pm0:Tryz.f7.params[0]?=some 23:=by kernel_rfl
theorem pm1:Tryz.f7.params[1]?=some 3:=by kernel_rfl
theorem pmz:Tryz.f7.params.size=2:=by kernel_rfl
theorem law_holds:Rows.JetChecksCardSaid :=
 Claim7.holds_tied_plain_at .later [] [.data, .data, .data, .sentinel] true (true, "8a943098275a9e9b59cd3019c152170035276ea1179388a0ed1d334223600e06") false
  row_holds (fun _ h=>by cases h) (by kernel_rfl) (fun _ h=>by cases h) jetChecks_row_tie rfl ⟨rfl,rfl⟩ (by kernel_rfl) rfl
  (fun f fn hf hfn=>by
   obtain rfl : f = 7 := Option.some.inj ((show Tryz.prog.funcNamed "fiducial/fiduciallaw07.JetChecks" = some 7 by kernel_rfl).symm.trans hf) |>.symm
   obtain rfl:fn=Tryz.f7:=(Option.some.inj (Tryz.func7.symm.trans hfn)).symm
   exact ⟨by kernel_rfl,fun j t ht=>by
    rcases j with _ | _ | j
    ·obtain rfl:=Option.some.inj (pm0.symm.trans ht)
     exact (show Tryz.prog.wantsStandIn 23=false by kernel_rfl)
    ·obtain rfl:=Option.some.inj (pm1.symm.trans ht)
     exact (show Tryz.prog.wantsStandIn 3=false by kernel_rfl)
    ·rw[Array.getElem?_eq_none (by rw[pmz];omega)] at ht
     cases ht⟩)
  (by kernel_rfl)
end Go.Proofs.YtckccjhflbljgaaGreatDoor
