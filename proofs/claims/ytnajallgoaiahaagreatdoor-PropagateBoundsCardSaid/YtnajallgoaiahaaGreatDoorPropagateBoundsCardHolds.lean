/- The law PropagateBounds returns true for every input, and its arguments read afterwards as before. No condition. -/
import Derived.Test.YtnajallgoaiahaaGreatDoorM38
import Derived.Test.YtnajallgoaiahaaGreatDoorM39
import Derived.Test.YtnajallgoaiahaaGreatDoorRows
import Derived.Test.YtnajallgoaiahaaGreatDoorCards
import Derived.Test.YtnajallgoaiahaaGreatDoorTie
import Derived.JoinedOf
import Derived.LaidMore
import Derived.SevenTiedAt
namespace Go.Proofs.YtnajallgoaiahaaGreatDoor
open Go.Fid Go.RowKit Go.ChangeShapes Go.WideShapes
theorem takes_law(t:List qB)(rb:List jL)(x:RPt)(lt:Len22 t)(lb:Len86 rb)(lx:Len88 x):jO Tryz.prog 9 [.sl 83 7 (t.map kS),.sl 61 8 (rb.map jF),gO x] (.val (.bool true)):=by
 obtain ⟨q,p⟩:=x
 have ht:zL 140737488355328 t:=fun x hx=>fC (by decide) (lt.1 x hx).2.2.2.1.2.2 (lt.1 x hx).2.2.2.2.2.2
 have hrb:∀ a∈rb,GOk 140737488355328 a:=fun a ha=>⟨fC (by decide) (lb.1 a ha).1.1.2.2 (lb.1 a ha).1.2.2.2,fC (by decide) (lb.1 a ha).2.1.2.2 (lb.1 a ha).2.2.2.2⟩
 have hrow:∀ l:List jR,Len24 l->xN 140737488355328 l:=fun l ll=>⟨fun a ha=>fC (by decide) ((ll.1 a ha).1.2.2) ((ll.1 a ha).2.2.2),ll.2⟩
 have hq:uY 140737488355328 q:=⟨fun r hr=>hrow r (lx.1.1 r hr),lx.1.2⟩
 rcases Nat.lt_or_ge 4 rb.length with hb4 | hb4
 ·exact w_bo1 t ht rb hrb q hq p hb4 lt.2 lb.2
 rcases hsq:shM 5 6 q with _ | _
 ·exact w_bo2 t ht rb hrb q hq p hb4 hsq lt.2 lb.2
 rcases hsm:(dK 16 10 t&&shR 4 6 []) with _ | _
 ·exact w_bo3 t ht rb hrb q hq p hb4 hsq hsm lt.2 lb.2
 have hs2:=hsm
 rw[Bool.and_eq_true] at hs2
 have h8:zL 1048576 t:=fun x hx=>jM ((few_of hs2.1).2.1 x hx) (by decide)
 rcases hlg:lM rb t with _ | _
 ·exact w_bo4 t h8 rb hrb q hq p hb4 hsq hsm hlg lt.2 lb.2
 rcases hdg:rb.all dgG with _ | _
 ·exact w_bo5 t h8 rb hrb q hq p hb4 hsq hsm hlg hdg lt.2 lb.2
 have hdg:∀ a∈rb,xP a.lo<=6/\xP a.hi<=6:=fun a ha=>by
  have h:=List.all_eq_true.1 hdg a ha
  unfold dgG at h
  rw[Bool.and_eq_true,decide_eq_true_eq,decide_eq_true_eq] at h
  exact h
 have hr6:∀ a∈rb,GOk 6 a:=fun a ha=>⟨qok_dig (hdg a ha).1 (by decide),qok_dig (hdg a ha).2 (by decide)⟩
 have hq6:uY 6 q:=shM_ok hsq (by decide) (by decide)
 rcases hv1:(rb.all uJ&&decide (mZ q=0)) with _ | _
 ·exact w_boR t h8 rb (fun a ha=>zU (hr6 a ha) (by decide)) q hq6 p hb4 hsq hsm hlg hdg hv1 lt.2 (by omega)
 rw[Bool.and_eq_true,decide_eq_true_eq] at hv1
 obtain ⟨hva,hq0⟩:=hv1
 obtain ⟨bv,rfl,hb6⟩:=box_form hr6 hva
 rw[List.length_map] at hb4
 have hbx:∀ x∈bv,GL 1048576 x:=fun x hx=>kW (hb6 x hx) (by decide)
 by_cases hc:gK ((bv.length:Nat):Int) t≠0
 ·exact w_boc t h8 bv hbx q hq6 p hb4 hsq hsm hlg hdg hq0 lt.2 (by omega) hc
 have hc:gK ((bv.length:Nat):Int) t=0:=by omega
 by_cases hf:nP q bv.length≠0
 ·exact w_bof t h8 bv hbx q hq6 p hb4 hsq hsm hlg hdg hq0 lt.2 (by omega) hc hf
 have hf:nP q bv.length=0:=by omega
 have hT:mR bv t:=tame_of hs2.1 (by decide) (by omega) (fun y hy=>kW (hb6 y hy) (by decide)) hc
 rcases hd:dzT bv t with _ | _
 ·refine w_bo t h8 bv hbx q hq6 p hb4 hsq hsm hlg hdg hq0 lt.2 (by omega) hb6 (fun i=>?_) hT hf hd
  obtain ⟨l0,l1,l2,l3⟩:=lx.2
  match i with
  |0=>exact l0
  |1=>exact l1
  |2=>exact l2
  |i+3=>exact l3
 ·exact w_bod t h8 bv hbx q hq6 p hb4 hsq hsm hlg hdg hq0 lt.2 (by omega) hT hf hd
theorem laidOut:laidOutB Tryz.prog=true:=by kernel_rfl
theorem door_met(os:Os)(args:Array Value):laidMetH Tryz.prog Rows.propagateBoundsRow.laid ((World.doorLaid Tryz.prog 400 os).forCall (fun _ _=>0) ⟨#[],args,[]⟩).memory :=
 laidMetH_of_parts3 (fuel:=8) (laidMet_of_run' 8 (by kernel_rfl) (by kernel_rfl)) (by kernel_rfl) (by kernel_rfl)
set_option maxRecDepth 100000 in
theorem law_lifted(os:Os)(started:os.Started)(H:Type)(enc:TypeId × Value->H) :
  ReturnsInHanded {} Tryz.checked os 9 .any (fun w args=>(Rows.propagateBoundsSpec.pre enc Tryz.prog Tryz.f9 Rows.propagateBoundsRow.domain false w args/\laidMetH Tryz.prog Rows.propagateBoundsRow.laid w)/\sizedMet enc Tryz.prog Tryz.f9 (OpenSpec.ofChange Rows.propagateBoundsSpec) false w args)
   (Rows.propagateBoundsSpec.post enc Tryz.prog Tryz.f9 false true false false):=by
 refine returnsInHanded_of_change_and (C:=Tryz.checked) (X:=fun w _=>laidMetH Tryz.prog Rows.propagateBoundsRow.laid w) (fun _ _ _ hh h=>h.of_heap hh) (by kernel_rfl) started (by kernel_rfl) Tryz.func9
  (ChangeSpec.witness_shaped (enc:=enc) (C:=Tryz.checked) (os:=os) (X:=fun w _=>laidMetH Tryz.prog Rows.propagateBoundsRow.laid w) false (World.doorLaid Tryz.prog 400 os) #[.slice none 0 0,.slice none 0 0,.agg #[.slice none 0 0,.int .u8 0,.int .u8 0,.int .u8 0,.int .u8 0]] 8 rfl (World.shaped_of_RefB (by kernel_rfl) (by kernel_rfl)) (by kernel_rfl) (by kernel_rfl) (by kernel_rfl) (door_met os _)) ?_
 intro W base args ds gs before hval hW _ hwt _ _
 refine law_contract (tys:=[ty22,ty86,ty88]) (B:=4) laidOut rfl (by kernel_rfl) (by kernel_rfl) (by kernel_rfl) (by kernel_rfl) ?_ ?_ W base args ds gs before hval hW hwt
 ·intro ds hl
  have hl2:ds.length=3:=hl
  match ds,hl2 with
  |[d1,d2,d3],_=>exact ⟨rfl,rfl,rfl⟩
 ·intro dss h
  cases h with
  |cons h1 r=>
   cases r with
   |cons h2 r=>
    cases r with
    |cons h3 r=>
     cases r with
     |nil=>
      obtain ⟨t,e1,lt⟩:=sh22_ h1
      obtain ⟨rb,e2,lrb⟩:=sh86_ h2
      obtain ⟨x,e3,lx⟩:=sh88_ h3
      simp only[mkAll]
      rw[e1,e2,e3]
      exact takes_law t rb x lt lrb lx
set_option maxHeartbeats 8000000 in
theorem closed_facts:joinedFacts Tryz.prog 9 Tryz.f9 Rows.propagateBoundsSpec Rows.propagateBoundsRow=true:=by
 unfold joinedFacts
 simp only[Bool.and_eq_true]
 repeat' apply And.intro
 all_goals as_aux_lemma=>kernel_rfl
theorem row_holds:Rows.PropagateBoundsSaid :=
 OpenClaim.holds_of_wide 9 Tryz.f9 rfl rfl rfl rfl rfl rfl rfl ⟨rfl,rfl,rfl,rfl,rfl⟩ rfl rfl rfl rfl rfl (by kernel_rfl) Tryz.func9 closed_facts
  (of_decide_eq_true (by kernel_rfl)) (by unfold Func.isWrapper;rw[if_neg (by decide +kernel)];exact ⟨rfl,rfl⟩)
  (fun os started H enc _=>law_lifted os started H enc)
theorem pm0:Tryz.f9.params[0]?=some 23:=by kernel_rfl
theorem pm1:Tryz.f9.params[1]?=some 86:=by kernel_rfl
theorem pm2:Tryz.f9.params[2]?=some 89:=by kernel_rfl
theorem pmz:Tryz.f9.params.size=3:=by kernel_rfl
theorem law_holds:Rows.PropagateBoundsCardSaid :=
 Claim7.holds_tied_plain_at .later [] [.data, .data, .data] true (true, "de003654cfae3caa1481ad000d337601fd35236b95f0707223ec46fb23597483") false
  row_holds (fun _ h=>by cases h) (by kernel_rfl) (fun _ h=>by cases h) propagateBounds_row_tie rfl ⟨rfl,rfl⟩ (by kernel_rfl) rfl
  (fun f fn hf hfn=>by
   obtain rfl : f = 9 := Option.some.inj ((show Tryz.prog.funcNamed "fiducial/fiduciallaw39.PropagateBounds" = some 9 by kernel_rfl).symm.trans hf) |>.symm
   obtain rfl:fn=Tryz.f9:=(Option.some.inj (Tryz.func9.symm.trans hfn)).symm
   exact ⟨by kernel_rfl,fun j t ht=>by
    rcases j with _ | _ | _ | j
    ·obtain rfl:=Option.some.inj (pm0.symm.trans ht)
     exact (show Tryz.prog.wantsStandIn 23=false by kernel_rfl)
    ·obtain rfl:=Option.some.inj (pm1.symm.trans ht)
     exact (show Tryz.prog.wantsStandIn 86=false by kernel_rfl)
    ·obtain rfl:=Option.some.inj (pm2.symm.trans ht)
     exact (show Tryz.prog.wantsStandIn 89=false by kernel_rfl)
    ·rw[Array.getElem?_eq_none (by rw[pmz];omega)] at ht
     cases ht⟩)
  (by kernel_rfl)
end Go.Proofs.YtnajallgoaiahaaGreatDoor
