/- The law PropagatePositive returns true for every input, and its arguments read afterwards as before. No condition. -/
import Derived.Test.YtnajallgoaiahaaGreatDoorM35
import Derived.Test.YtnajallgoaiahaaGreatDoorM36
import Derived.Test.YtnajallgoaiahaaGreatDoorRows
import Derived.Test.YtnajallgoaiahaaGreatDoorCards
import Derived.Test.YtnajallgoaiahaaGreatDoorTie
import Derived.JoinedOf
import Derived.LaidMore
import Derived.SevenTiedAt
namespace Go.Proofs.YtnajallgoaiahaaGreatDoor
open Go.Fid Go.RowKit Go.ChangeShapes Go.WideShapes
theorem takes_law(ts:List (List kW))(l:List jN)(x:A2 (List (List jN)))(lt:Len32 ts)(ll:Len24 l)(lx:Len72 x):jP Tryz.prog 7 [.sl 23 1 (ts.map qB),.sl 45 4 (l.map jK),dF x] (.val (.bool true)):=by
 obtain ⟨a,v⟩:=x
 have ht0:∀ t∈ts,yM 140737488355328 t:=fun t ht x hx=>qok_raw (by decide) ((lt.1 t ht).1 x hx).2.2.2.1.2.2 ((lt.1 t ht).1 x hx).2.2.2.2.2.2
 have htl:∀ t∈ts,t.length≤140737488355328:=fun t ht=>(lt.1 t ht).2
 have hl:uJ 140737488355328 l:=⟨fun a ha=>qok_raw (by decide) (ll.1 a ha).1.2.2 (ll.1 a ha).2.2.2,ll.2⟩
 have hmat:∀ q:List (List jN),Len33 q→qS 140737488355328 q:=fun q lq=>⟨fun r hr=>⟨fun a ha=>qok_raw (by decide) ((lq.1 r hr).1 a ha).1.2.2 ((lq.1 r hr).1 a ha).2.2.2,(lq.1 r hr).2⟩,lq.2⟩
 rcases hs:(decide (1≤ts.length)&&decide (ts.length≤3)&&decide (l.length≤3)&&shM 5 6 a&&shM 5 6 v&&decide (yF a=0)&&decide (a.length=l.length)&&decide (v.length=1)&&decide ((v.getD 0 []).length=ts.length)&&yA (v.getD 0 [])&&ts.all (fun t=>cR 16 10 t&&shR 4 6 l)) with _ | _
 ·exact w_poT ts ht0 l hl a (hmat a lx.1) v (hmat v lx.2) hs lt.2 htl
 simp only[Bool.and_eq_true,decide_eq_true_eq,List.all_eq_true] at hs
 obtain ⟨⟨⟨⟨⟨⟨⟨⟨⟨⟨h1,h3⟩,hl3⟩,hsa⟩,hsv⟩,hma⟩,hal⟩,hvl⟩,hv0⟩,hvv⟩,hsm⟩:=hs
 have hsm2:∀ t∈ts,(cR 16 10 t&&shR 4 6 l)=true:=fun t ht=>by rw[Bool.and_eq_true];exact hsm t ht
 have ha:qS 6 a:=shM_ok hsa (by decide) (by decide)
 have hv:qS 6 v:=shM_ok hsv (by decide) (by decide)
 have h8:∀ t∈ts,yM 1048576 t:=fun t ht x hx=>jV ((few_of (hsm t ht).1).2.1 x hx) (by decide)
 have hs0:=nP (P:=fun t=>cR 16 10 t=true∧shR 4 6 l=true) hsm (show 0<ts.length by omega)
 rcases hvr:yA l with _ | _
 ·exact w_poR ts h8 l ⟨fun x hx=>jV (shR_ok hs0.2 (by decide) x hx) (by decide),by omega⟩ a ha v hv hvr h1 h3 hl3 hsa hsv hma hal hvl hv0 hvv hsm2 htl
 obtain ⟨xs,rfl,hx6,hxl⟩:=row_form hs0.2 (by decide) hvr
 have hx:∀ p∈xs,QL p 1048576:=fun p hp=>vC (hx6 p hp) (by decide)
 have hTm:∀ t∈ts,tmN xs t=0→fR (List.map mH xs) t:=fun t ht hc=>tame_of (hsm t ht).1 (by decide) (by rw[List.length_map];omega) (gpt_8 fun p hp=>vC (hx6 p hp) (by decide)) (by rw[List.length_map];exact hc)
 have hal2:a.length=xs.length:=by rw[hal,List.length_map]
 by_cases hE:tbC xs (xU a) ts=0
 ·exact w_po ts h8 xs hx a ha v hv hE hTm hal2 h1 h3 hl3 hsa hsv hma hal hvl hv0 hvv hsm2 htl
 ·exact w_poE ts h8 xs hx a ha v hv hE hTm hal2 h1 h3 hl3 hsa hsv hma hal hvl hv0 hvv hsm2 htl
theorem laidOut:laidOutB Tryz.prog=true:=by kernel_rfl
theorem door_met(os:Os)(args:Array Value):laidMetH Tryz.prog Rows.propagatePositiveRow.laid ((World.doorLaid Tryz.prog 400 os).forCall (fun _ _=>0) ⟨#[],args,[]⟩).memory :=
 laidMetH_of_parts3 (fuel:=8) (laidMet_of_run' 8 (by kernel_rfl) (by kernel_rfl)) (by kernel_rfl) (by kernel_rfl)
set_option maxRecDepth 100000 in
theorem law_lifted(os:Os)(started:os.Started)(H:Type)(enc:TypeId × Value→H) :
  ReturnsInHanded {} Tryz.checked os 7 .any (fun w args=>(Rows.propagatePositiveSpec.pre enc Tryz.prog Tryz.f7 Rows.propagatePositiveRow.domain false w args∧laidMetH Tryz.prog Rows.propagatePositiveRow.laid w)∧sizedMet enc Tryz.prog Tryz.f7 (OpenSpec.ofChange Rows.propagatePositiveSpec) false w args)
   (Rows.propagatePositiveSpec.post enc Tryz.prog Tryz.f7 false true false false):=by
 refine returnsInHanded_of_change_and (C:=Tryz.checked) (X:=fun w _=>laidMetH Tryz.prog Rows.propagatePositiveRow.laid w) (fun _ _ _ hh h=>h.of_heap hh) (by kernel_rfl) started (by kernel_rfl) Tryz.func7
  (ChangeSpec.witness_shaped (enc:=enc) (C:=Tryz.checked) (os:=os) (X:=fun w _=>laidMetH Tryz.prog Rows.propagatePositiveRow.laid w) false (World.doorLaid Tryz.prog 400 os) #[.slice none 0 0,.slice none 0 0,.agg #[.slice none 0 0,.slice none 0 0]] 8 rfl (World.shaped_of_RefB (by kernel_rfl) (by kernel_rfl)) (by kernel_rfl) (by kernel_rfl) (by kernel_rfl) (door_met os _)) ?_
 intro W base args ds gs before hval hW _ hwt _ _
 refine law_contract (tys:=[ty32,ty24,ty72]) (B:=4) laidOut rfl (by kernel_rfl) (by kernel_rfl) (by kernel_rfl) (by kernel_rfl) ?_ ?_ W base args ds gs before hval hW hwt
 ·intro ds hl
  have hl2:ds.length=3:=hl
  match ds,hl2 with
  |[d1,d2,d3],_=>exact ⟨rfl,rfl,rfl⟩
 ·intro dss h
  cases h with
  |cons h1 r=>
   cases r with
   |cons h2 r=>
    cases r with
    |cons h3 r=>
     cases r with
     |nil=>
      obtain ⟨ts,e1,lts⟩:=sh32_ h1
      obtain ⟨l,e2,ll⟩:=sh24_ h2
      obtain ⟨x,e3,lx⟩:=sh72_ h3
      simp only[mkAll]
      rw[e1,e2,e3]
      exact takes_law ts l x lts ll lx
set_option maxHeartbeats 8000000 in
theorem closed_facts:joinedFacts Tryz.prog 7 Tryz.f7 Rows.propagatePositiveSpec Rows.propagatePositiveRow=true:=by
 unfold joinedFacts
 simp only[Bool.and_eq_true]
 repeat' apply And.intro
 all_goals as_aux_lemma=>kernel_rfl
theorem row_holds:Rows.PropagatePositiveSaid :=
 OpenClaim.holds_of_wide 7 Tryz.f7 rfl rfl rfl rfl rfl rfl rfl ⟨rfl,rfl,rfl,rfl,rfl⟩ rfl rfl rfl rfl rfl (by kernel_rfl) Tryz.func7 closed_facts
  (of_decide_eq_true (by kernel_rfl)) (by unfold Func.isWrapper;rw[if_neg (by decide +kernel)];exact ⟨rfl,rfl⟩)
  (fun os started H enc _=>law_lifted os started H enc)
theorem pm0:Tryz.f7.params[0]?=some 32:=by kernel_rfl
theorem pm1:Tryz.f7.params[1]?=some 24:=by kernel_rfl
theorem pm2:Tryz.f7.params[2]?=some 72:=by kernel_rfl
theorem pmz:Tryz.f7.params.size=3:=by kernel_rfl
theorem law_holds:Rows.PropagatePositiveCardSaid :=
 Claim7.holds_tied_plain_at .later [] [.data, .data, .data] true (true, "de003654cfae3caa1481ad000d337601fd35236b95f0707223ec46fb23597483") false
  row_holds (fun _ h=>by cases h) (by kernel_rfl) (fun _ h=>by cases h) propagatePositive_row_tie rfl ⟨rfl,rfl⟩ (by kernel_rfl) rfl
  (fun f fn hf hfn=>by
   obtain rfl : f = 7 := Option.some.inj ((show Tryz.prog.funcNamed "fiducial/fiduciallaw39.PropagatePositive" = some 7 by kernel_rfl).symm.trans hf) |>.symm
   obtain rfl:fn=Tryz.f7:=(Option.some.inj (Tryz.func7.symm.trans hfn)).symm
   exact ⟨by kernel_rfl,fun j t ht=>by
    rcases j with _ | _ | _ | j
    ·obtain rfl:=Option.some.inj (pm0.symm.trans ht)
     exact (show Tryz.prog.wantsStandIn 32=false by kernel_rfl)
    ·obtain rfl:=Option.some.inj (pm1.symm.trans ht)
     exact (show Tryz.prog.wantsStandIn 24=false by kernel_rfl)
    ·obtain rfl:=Option.some.inj (pm2.symm.trans ht)
     exact (show Tryz.prog.wantsStandIn 72=false by kernel_rfl)
    ·rw[Array.getElem?_eq_none (by rw[pmz];omega)] at ht
     cases ht⟩)
  (by kernel_rfl)
end Go.Proofs.YtnajallgoaiahaaGreatDoor
