/- The law JetValues returns true for every input, and its arguments read afterwards as before. No condition. -/
import Derived.Test.YtckccjhflbljgaaGreatDoorM34
import Derived.Test.YtckccjhflbljgaaGreatDoorM35
import Derived.Test.YtckccjhflbljgaaGreatDoorRows
import Derived.Test.YtckccjhflbljgaaGreatDoorCards
import Derived.Test.YtckccjhflbljgaaGreatDoorTie
import Derived.JoinedOf
import Derived.LaidMore
import Derived.SevenTiedAt
namespace Go.Proofs.YtckccjhflbljgaaGreatDoor
open Go.Fid Go.RowKit Go.ChangeShapes Go.WideShapes
theorem takes_law(t:List kC)(l:List kV)(lt:Len22 t)(ll:Len24 l):jR Tryz.prog 3 [.sl 72 7 (t.map jM),.sl 32 4 (l.map jJ)] (.val (.bool true)):=by
 have ht:yH 140737488355328 t:=fun x hx=>qok_raw (by decide) (lt.1 x hx).2.2.2.1.2.2 (lt.1 x hx).2.2.2.2.2.2
 have hl:RowOk 140737488355328 l:=⟨fun a ha=>qok_raw (by decide) (ll.1 a ha).1.2.2 (ll.1 a ha).2.2.2,ll.2⟩
 rcases hw:fL 30 40 t with _ | _
 ·exact w_vaT t ht l hl hw lt.2
 rcases hs:shR 4 8 l with _ | _
 ·exact w_vaS t ht l hl hw hs lt.2
 have h8:yH 1048576 t:=fun x hx=>jY ((few_of hw).2.1 x hx) (by decide)
 have qK:=shR_len hs
 rcases hv:vRow l with _ | _
 ·exact w_va1 t h8 l ⟨fun x hx=>jY (shR_ok hs (by decide) x hx) (by decide),by omega⟩ hw hs hv (by omega) lt.2
 obtain ⟨xs,rfl,hx6,hxl⟩:=row_form hs (by decide) hv
 have hx:∀ q∈xs,QL q 1048576:=fun q hq=>uV (hx6 q hq) (by decide)
 by_cases hc:gC ((xs.length:Nat):Int) t=0
 ·have hT:dQ (List.map gpt xs) t:=tame_of hw (by decide) (by rw[List.length_map];omega) (gpt_8 fun q hq=>uV (hx6 q hq) (by decide)) (by rw[List.length_map];exact hc)
  rcases hz:vzT xs t with _ | _
  ·exact w_va4 t h8 xs hx hw hs (hT.vrun hz) (by omega) lt.2
  ·exact w_va3 t h8 xs hx hw hs (hT.vfail hz) (by omega) lt.2
 ·exact w_va2 t h8 xs hx hw hs hc (by omega) lt.2
theorem laidOut:laidOutB Tryz.prog=true:=by kernel_rfl
theorem door_met(os:Os)(args:Array Value):laidMetH Tryz.prog Rows.jetValuesRow.laid ((World.doorLaid Tryz.prog 400 os).forCall (fun _ _=>0) ⟨#[],args,[]⟩).memory :=
 laidMetH_of_parts3 (fuel:=8) (laidMet_of_run' 8 (by kernel_rfl) (by kernel_rfl)) (by kernel_rfl) (by kernel_rfl)
set_option maxRecDepth 100000 in
theorem law_lifted(os:Os)(started:os.Started)(H:Type)(enc:TypeId × Value->H) :
  ReturnsInHanded {} Tryz.checked os 3 .any (fun w args=>(Rows.jetValuesSpec.pre enc Tryz.prog Tryz.f3 Rows.jetValuesRow.domain false w args/\laidMetH Tryz.prog Rows.jetValuesRow.laid w)/\sizedMet enc Tryz.prog Tryz.f3 (OpenSpec.ofChange Rows.jetValuesSpec) false w args)
   (Rows.jetValuesSpec.post enc Tryz.prog Tryz.f3 false true false false):=by
 refine returnsInHanded_of_change_and (C:=Tryz.checked) (X:=fun w _=>laidMetH Tryz.prog Rows.jetValuesRow.laid w) (fun _ _ _ hh h=>h.of_heap hh) (by kernel_rfl) started (by kernel_rfl) Tryz.func3
  (ChangeSpec.witness_shaped (enc:=enc) (C:=Tryz.checked) (os:=os) (X:=fun w _=>laidMetH Tryz.prog Rows.jetValuesRow.laid w) false (World.doorLaid Tryz.prog 400 os) #[.slice none 0 0,.slice none 0 0] 8 rfl (World.shaped_of_RefB (by kernel_rfl) (by kernel_rfl)) (by kernel_rfl) (by kernel_rfl) (by kernel_rfl) (door_met os _)) ?_
 intro W base args ds gs before hval hW _ hwt _ _
 refine law_contract (tys:=[ty22,ty24]) (B:=4) laidOut rfl (by kernel_rfl) (by kernel_rfl) (by kernel_rfl) (by kernel_rfl) ?_ ?_ W base args ds gs before hval hW hwt
 ·intro ds hl
  have hl2:ds.length=2:=hl
  match ds,hl2 with
  |[d1,d2],_=>exact ⟨rfl,rfl,rfl⟩
 ·intro dss h
  cases h with
  |cons h1 r=>
   cases r with
   |cons h2 r=>
    cases r with
    |nil=>
     obtain ⟨t,e1,lt⟩:=sh22_ h1
     obtain ⟨l,e2,ll⟩:=sh24_ h2
     simp only[mkAll]
     rw[e1,e2]
     exact takes_law t l lt ll
set_option maxHeartbeats 8000000 in
theorem closed_facts:joinedFacts Tryz.prog 3 Tryz.f3 Rows.jetValuesSpec Rows.jetValuesRow=true:=by
 unfold joinedFacts
 simp only[Bool.and_eq_true]
 repeat' apply And.intro
 all_goals as_aux_lemma=>kernel_rfl
theorem row_holds:Rows.JetValuesSaid :=
 OpenClaim.holds_of_wide 3 Tryz.f3 rfl rfl rfl rfl rfl rfl rfl ⟨rfl,rfl,rfl,rfl,rfl⟩ rfl rfl rfl rfl rfl (by kernel_rfl) Tryz.func3 closed_facts
  (of_decide_eq_true (by kernel_rfl)) (by unfold Func.isWrapper;rw[if_neg (by decide +kernel)];exact ⟨rfl,rfl⟩)
  (fun os started H enc _=>law_lifted os started H enc)
theorem pm0:Tryz.f3.params[0]?=some 23:=by kernel_rfl
theorem pm1:Tryz.f3.params[1]?=some 24:=by kernel_rfl
theorem pmz:Tryz.f3.params.size=2:=by kernel_rfl
theorem law_holds:Rows.JetValuesCardSaid :=
 Claim7.holds_tied_plain_at .later [] [.data, .data, .data, .sentinel] true (true, "8a943098275a9e9b59cd3019c152170035276ea1179388a0ed1d334223600e06") false
  row_holds (fun _ h=>by cases h) (by kernel_rfl) (fun _ h=>by cases h) jetValues_row_tie rfl ⟨rfl,rfl⟩ (by kernel_rfl) rfl
  (fun f fn hf hfn=>by
   obtain rfl : f = 3 := Option.some.inj ((show Tryz.prog.funcNamed "fiducial/fiduciallaw07.JetValues" = some 3 by kernel_rfl).symm.trans hf) |>.symm
   obtain rfl:fn=Tryz.f3:=(Option.some.inj (Tryz.func3.symm.trans hfn)).symm
   exact ⟨by kernel_rfl,fun j t ht=>by
    rcases j with _ | _ | j
    ·obtain rfl:=Option.some.inj (pm0.symm.trans ht)
     exact (show Tryz.prog.wantsStandIn 23=false by kernel_rfl)
    ·obtain rfl:=Option.some.inj (pm1.symm.trans ht)
     exact (show Tryz.prog.wantsStandIn 24=false by kernel_rfl)
    ·rw[Array.getElem?_eq_none (by rw[pmz];omega)] at ht
     cases ht⟩)
  (by kernel_rfl)
end Go.Proofs.YtckccjhflbljgaaGreatDoor
