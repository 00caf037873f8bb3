/- The law PropagateVariances returns true, and its arguments read afterwards as before. Condition: the arguments are together of bulk at most 1048576. -/
import Derived.Test.YtnajallgoaiahaaGreatDoorM37
import Derived.Test.YtnajallgoaiahaaGreatDoorM38
import Derived.Test.YtnajallgoaiahaaGreatDoorRows
import Derived.Test.YtnajallgoaiahaaGreatDoorCards
import Derived.Test.YtnajallgoaiahaaGreatDoorTie
import Derived.JoinedOf
import Derived.LaidMore
import Derived.JoinedCond
import Derived.Deep.DeepHandedRow
import Derived.Deep.DeepWitnessRowRef
import Derived.SevenTiedAt
namespace Go.Proofs.YtnajallgoaiahaaGreatDoor
open Go.Fid Go.RowKit Go.ChangeShapes Go.WideShapes
theorem takes_law(ts:List (List kV))(l:List jQ)(q:List (List jQ))(lt:Len32 ts)(ll:Len24 l)(lq:Len33 q):jR Tryz.prog 4 [.sl 23 1 (ts.map kL),.sl 45 4 (l.map jK),.sl 24 1 (q.map jI)] (.val (.bool true)):=by
 have ht0:∀ t∈ts,vR 1048576 t:=fun t ht x hx=>qok_raw (by decide) ((lt.1 t ht).1 x hx).2.2.2.1.2.2 ((lt.1 t ht).1 x hx).2.2.2.2.2.2
 have htl:∀ t∈ts,t.length≤140737488355328:=fun t ht=>Nat.le_trans (lt.1 t ht).2 (by decide)
 have hl:vG 1048576 l:=⟨fun a ha=>qok_raw (by decide) (ll.1 a ha).1.2.2 (ll.1 a ha).2.2.2,Nat.le_trans ll.2 (by decide)⟩
 have hq:vN 1048576 q:=⟨fun r hr=>⟨fun a ha=>qok_raw (by decide) ((lq.1 r hr).1 a ha).1.2.2 ((lq.1 r hr).1 a ha).2.2.2,Nat.le_trans (lq.1 r hr).2 (by decide)⟩,Nat.le_trans lq.2 (by decide)⟩
 rcases hs:(decide (ts.length≤3)&&shM 5 6 q&&ts.all (fun t=>dE 16 10 t&&shR 4 6 l)) with _ | _
 ·exact w_vaT ts (fun t ht=>tn_up (ht0 t ht) (by decide)) l (row_up hl (by decide)) q (gV hq (by decide)) hs (Nat.le_trans lt.2 (by decide)) htl
 rw[Bool.and_eq_true,Bool.and_eq_true,decide_eq_true_eq,List.all_eq_true] at hs
 obtain ⟨⟨h3,hsq⟩,hsm⟩:=hs
 have h6:vN 6 q:=shM_ok hsq (by decide) (by decide)
 by_cases hz:(gC l&&decide (gS q=0))=true→ts.length=0
 ·exact w_vaR ts ht0 l hl q h6 hz h3 hsq hsm htl ll.2
 have hz1:(gC l&&decide (gS q=0))=true:=Classical.byContradiction fun h=>hz fun h2=>absurd h2 h
 have h1:¬ ts.length=0:=fun h=>hz fun _=>h
 rw[Bool.and_eq_true,decide_eq_true_eq] at hz1
 obtain ⟨hv,hq0⟩:=hz1
 have hs0:=uC (P:=fun t=>(dE 16 10 t&&shR 4 6 l)=true) hsm (show 0<ts.length by omega)
 rw[Bool.and_eq_true] at hs0
 obtain ⟨xs,rfl,hx6,hxl⟩:=row_form hs0.2 (by decide) hv
 have hx:∀ p∈xs,QL p 1048576:=fun p hp=>xE (hx6 p hp) (by decide)
 have hTm:∀ t∈ts,tmN xs t=0→mW (List.map yF xs) t:=fun t ht hc=>by
  have h:=hsm t ht
  rw[Bool.and_eq_true] at h
  exact tame_of h.1 (by decide) (by rw[List.length_map];omega) (gpt_8 fun p hp=>xE (hx6 p hp) (by decide)) (by rw[List.length_map];exact hc)
 by_cases hE:tbC xs q ts=0
 ·exact w_va ts ht0 xs hx q h6 hE (by omega) hTm hq0 h3 hsq hsm htl (by omega)
 ·exact w_vaE ts ht0 xs hx q h6 hE (by omega) hTm hq0 h3 hsq hsm htl (by omega)
theorem laidOut:laidOutB Tryz.prog=true:=by kernel_rfl
theorem door_met(os:Os)(args:Array Value):laidMetH Tryz.prog Rows.propagateVariancesUptoRow.laid ((World.doorLaid Tryz.prog 400 os).forCall (fun _ _=>0) ⟨#[],args,[]⟩).memory :=
 laidMetH_of_parts3 (fuel:=8) (laidMet_of_run' 8 (by kernel_rfl) (by kernel_rfl)) (by kernel_rfl) (by kernel_rfl)
theorem reads(os:Os){H:Type}(enc:TypeId × Value→H):∃ places,DataW.whole enc Tryz.prog ((World.doorLaid Tryz.prog 400 os).forCall (fun _ _=>0) ⟨#[],#[.slice none 0 0,.slice none 0 0,.slice none 0 0],[]⟩).memory Tryz.f4.params.toList Rows.propagateVariancesSpec.vars false (#[.slice none 0 0,.slice none 0 0,.slice none 0 0]:Array Value).toList 8=some ([.nil,.nil,.nil],[],places) :=
 ⟨[],by kernel_rfl⟩
set_option maxRecDepth 100000 in
theorem law_lifted(os:Os)(started:os.Started)(H:Type)(enc:TypeId × Value→H)(F:Stop.Interp) :
  ReturnsInHanded {} Tryz.checked os 4 .any ((Rows.OpenSpec.upto Rows.propagateVariancesSpec).preRow enc Tryz.prog Tryz.f4 Rows.propagateVariancesUptoRow.domain false Rows.propagateVariancesUptoRow.laid) (((Rows.OpenSpec.upto Rows.propagateVariancesSpec).at F).post enc Tryz.prog Tryz.f4 false true false false):=by
 obtain ⟨places,hx⟩:=reads os enc
 refine returnsInHanded_of_row (C:=Tryz.checked) (s:=Rows.OpenSpec.upto Rows.propagateVariancesSpec) (by kernel_rfl) started (by kernel_rfl) Tryz.func4
  (witness_row_atRef (enc:=enc) (C:=Tryz.checked) false (World.doorLaid Tryz.prog 400 os) #[.slice none 0 0,.slice none 0 0,.slice none 0 0] rfl (by kernel_rfl) (by kernel_rfl) (by kernel_rfl)
   (OpenSpec.preRow_of_cond 8 hx (by kernel_rfl) (fun k hk=>by cases hk;kernel_rfl) (by kernel_rfl) (door_met os _))) ?_
 intro W base args ds gs before hval hW _ hcond _ _ _ _
 refine law_contract (tys:=[ty32,ty24,ty33]) (B:=4) laidOut rfl (by kernel_rfl) (by kernel_rfl) (by kernel_rfl) (by kernel_rfl) ?_ ?_ W base args ds gs before hval hW (hcond _ rfl)
 ·intro ds hl
  have hl2:ds.length=3:=hl
  match ds,hl2 with
  |[d1,d2,d3],_=>exact ⟨rfl,rfl,rfl⟩
 ·intro dss h
  cases h with
  |cons h1 r=>
   cases r with
   |cons h2 r=>
    cases r with
    |cons h3 r=>
     cases r with
     |nil=>
      obtain ⟨ts,e1,lts⟩:=sh32_ h1
      obtain ⟨l,e2,ll⟩:=sh24_ h2
      obtain ⟨q,e3,lq⟩:=sh33_ h3
      simp only[mkAll]
      rw[e1,e2,e3]
      exact takes_law ts l q lts ll lq
set_option maxHeartbeats 8000000 in
theorem closed_facts:joinedFacts Tryz.prog 4 Tryz.f4 (Rows.OpenSpec.upto Rows.propagateVariancesSpec).bare Rows.propagateVariancesUptoRow=true:=by
 unfold joinedFacts
 simp only[Bool.and_eq_true]
 repeat' apply And.intro
 all_goals as_aux_lemma=>kernel_rfl
theorem row_holds:Rows.PropagateVariancesUptoSaid :=
 OpenClaim.holds_of_cond 4 Tryz.f4 rfl rfl rfl rfl rfl rfl rfl ⟨rfl,rfl,rfl,rfl,rfl⟩ rfl rfl rfl rfl rfl (by kernel_rfl) Tryz.func4 closed_facts
  (of_decide_eq_true (by kernel_rfl)) (by unfold Func.isWrapper;rw[if_neg (by decide +kernel)];exact ⟨rfl,rfl⟩)
  (fun os started H enc _ F=>by rw[OpenClaim.pre_eq_preRow];exact law_lifted os started H enc F)
theorem pm0:Tryz.f4.params[0]?=some 32:=by kernel_rfl
theorem pm1:Tryz.f4.params[1]?=some 24:=by kernel_rfl
theorem pm2:Tryz.f4.params[2]?=some 34:=by kernel_rfl
theorem pmz:Tryz.f4.params.size=3:=by kernel_rfl
theorem law_holds:Rows.PropagateVariancesUptoCardSaid :=
 Claim7.holds_tied_plain_at .later [] [.data, .data, .data] true (true, "de003654cfae3caa1481ad000d337601fd35236b95f0707223ec46fb23597483") false
  row_holds (fun _ h=>by cases h) (by kernel_rfl) (fun _ h=>by cases h) propagateVariancesUpto_row_tie rfl ⟨rfl,rfl⟩ (by kernel_rfl) rfl
  (fun f fn hf hfn=>by
   obtain rfl : f = 4 := Option.some.inj ((show Tryz.prog.funcNamed "fiducial/fiduciallaw39.PropagateVariances" = some 4 by kernel_rfl).symm.trans hf) |>.symm
   obtain rfl:fn=Tryz.f4:=(Option.some.inj (Tryz.func4.symm.trans hfn)).symm
   exact ⟨by kernel_rfl,fun j t ht=>by
    rcases j with _ | _ | _ | j
    ·obtain rfl:=Option.some.inj (pm0.symm.trans ht)
     exact (show Tryz.prog.wantsStandIn 32=false by kernel_rfl)
    ·obtain rfl:=Option.some.inj (pm1.symm.trans ht)
     exact (show Tryz.prog.wantsStandIn 24=false by kernel_rfl)
    ·obtain rfl:=Option.some.inj (pm2.symm.trans ht)
     exact (show Tryz.prog.wantsStandIn 34=false by kernel_rfl)
    ·rw[Array.getElem?_eq_none (by rw[pmz];omega)] at ht
     cases ht⟩)
  (by kernel_rfl)
end Go.Proofs.YtnajallgoaiahaaGreatDoor
