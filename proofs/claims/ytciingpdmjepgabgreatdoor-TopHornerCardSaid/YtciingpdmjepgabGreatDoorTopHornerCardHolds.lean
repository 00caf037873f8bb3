/- The law TopHorner returns true, and its arguments read afterwards as before. Condition: the arguments are together of bulk at most 1048576. -/
import Derived.Test.YtciingpdmjepgabGreatDoorM31
import Derived.Test.YtciingpdmjepgabGreatDoorRows
import Derived.Test.YtciingpdmjepgabGreatDoorCards
import Derived.Test.YtciingpdmjepgabGreatDoorTie
import Derived.JoinedOf
import Derived.LaidMore
import Derived.SevenTiedAt
namespace Go.Proofs.YtciingpdmjepgabGreatDoor
open Go.Fid Go.RowKit Go.ChangeShapes Go.WideShapes
theorem takes_law(p:List kP)(x d:kP)(lp:Len22 p)(lx:Len27 x)(ld:Len27 d):jW Tryz.prog 3 [.sl 28 4 (p.map jK),jK x,jK d] (.val (.bool true)):=by
 have hp:RowOk 35184372087808 p:=⟨fun a ha=>qok_raw (by decide) (lp.1 a ha).1.2.2 (lp.1 a ha).2.2.2,lp.2⟩
 have hx:gD x (xZ x) 35184372087808:=qok_raw (by decide) lx.1.2.2 lx.2.2.2
 have hd:gD d (xZ d) 35184372087808:=qok_raw (by decide) ld.1.2.2 ld.2.2.2
 rcases hg:grH p x d with _ | _
 ·have hg2:=hg
  unfold grH at hg2
  simp only[Bool.or_eq_false_iff,Bool.not_eq_false',decide_eq_false_iff_not] at hg2
  obtain ⟨⟨⟨⟨⟨hv,h1⟩,hs⟩,hvx⟩,hvd⟩,hs2⟩:=hg2
  have hv2:=hv
  unfold vaP at hv2
  rw[Bool.and_eq_true] at hv2
  obtain ⟨l,rfl,hl,hl6⟩:=row_form hs (by decide) (show vRow p=true from hv2.1)
  obtain ⟨xd,exd,hxd,_⟩:=row_form hs2 (by decide) (show vRow [x,d]=true by unfold vRow;simp only[List.all_cons,List.all_nil,hvx,hvd];rfl)
  match xd,exd,hxd with
  |[x0,d0],exd,hxd=>
   injection exd with e1 e2
   injection e2 with e2 _
   subst e1
   subst e2
   rw[List.length_map] at h1
   refine w_h l hl x0 (hxd _ (.head _)) d0 (hxd _ (.tail _ (.head _))) (by omega) hl6 (.inr fun h0=>?_) hg
   have h3:=hv2.2
   rw[List.length_map,dW jP l 0 _ (by omega),mV,h0] at h3
   simp only[Bool.or_eq_true,beq_iff_eq,bne_iff_ne] at h3
   rcases h3 with h3 | h3
   ·omega
   ·exact h3 (by decide)
 ·exact w_hg p hp x _ hx d _ hd lp.2 hg
theorem laidOut:laidOutB Tryz.prog=true:=by kernel_rfl
theorem door_met(os:Os)(args:Array Value):laidMetH Tryz.prog Rows.topHornerRow.laid ((World.doorLaid Tryz.prog 400 os).forCall (fun _ _=>0) ⟨#[],args,[]⟩).memory :=
 laidMetH_of_parts3 (fuel:=8) (laidMet_of_run' 8 (by kernel_rfl) (by kernel_rfl)) (by kernel_rfl) (by kernel_rfl)
set_option maxRecDepth 100000 in
theorem law_lifted(os:Os)(started:os.Started)(H:Type)(enc:TypeId × Value->H) :
  ReturnsInHanded {} Tryz.checked os 3 .any (fun w args=>(Rows.topHornerSpec.pre enc Tryz.prog Tryz.f3 Rows.topHornerRow.domain false w args/\laidMetH Tryz.prog Rows.topHornerRow.laid w)/\sizedMet enc Tryz.prog Tryz.f3 (OpenSpec.ofChange Rows.topHornerSpec) false w args)
   (Rows.topHornerSpec.post enc Tryz.prog Tryz.f3 false true false false):=by
 refine returnsInHanded_of_change_and (C:=Tryz.checked) (X:=fun w _=>laidMetH Tryz.prog Rows.topHornerRow.laid w) (fun _ _ _ hh h=>h.of_heap hh) (by kernel_rfl) started (by kernel_rfl) Tryz.func3
  (ChangeSpec.witness_shaped (enc:=enc) (C:=Tryz.checked) (os:=os) (X:=fun w _=>laidMetH Tryz.prog Rows.topHornerRow.laid w) false (World.doorLaid Tryz.prog 400 os) #[.slice none 0 0,.agg #[.bool false,.slice none 0 0,.bool false,.slice none 0 0],.agg #[.bool false,.slice none 0 0,.bool false,.slice none 0 0]] 8 rfl (World.shaped_of_RefB (by kernel_rfl) (by kernel_rfl)) (by kernel_rfl) (by kernel_rfl) (by kernel_rfl) (door_met os _)) ?_
 intro W base args ds gs before hval hW _ hwt _ _
 refine law_contract (tys:=[ty22,ty27,ty27]) (B:=4) laidOut rfl (by kernel_rfl) (by kernel_rfl) (by kernel_rfl) (by kernel_rfl) ?_ ?_ W (fun G hG=>by cases hG) base args ds gs before hval hW hwt
 ·intro ds hl
  have hl2:ds.length=3:=hl
  match ds,hl2 with
  |[d1,d2,d3],_=>exact ⟨rfl,rfl,rfl⟩
 ·intro dss h
  cases h with
  |cons h1 r=>
   cases r with
   |cons h2 r=>
    cases r with
    |cons h3 r=>
     cases r with
     |nil=>
      obtain ⟨p,e1,lp⟩:=sh22_ h1
      obtain ⟨x,e2,lx⟩:=sh27_ h2
      obtain ⟨d,e3,ld⟩:=sh27_ h3
      simp only[mkAll]
      rw[e1,e2,e3]
      exact takes_law p x d lp lx ld
theorem row_holds:Rows.TopHornerSaid :=
 OpenClaim.holds_of_wide 3 Tryz.f3 rfl rfl rfl rfl rfl rfl rfl ⟨rfl,rfl,rfl,rfl,rfl⟩ rfl rfl rfl rfl rfl (by kernel_rfl) Tryz.func3 (by kernel_rfl)
  (of_decide_eq_true (by kernel_rfl)) (by unfold Func.isWrapper;rw[if_neg (by decide +kernel)];exact ⟨rfl,rfl⟩)
  (fun os started H enc _=>law_lifted os started H enc)
theorem pm0:Tryz.f3.params[0]?=some 23:=by kernel_rfl
theorem pm1:Tryz.f3.params[1]?=some 28:=by kernel_rfl
theorem pm2:Tryz.f3.params[2]?=some 28:=by kernel_rfl
theorem pmz:Tryz.f3.params.size=3:=by kernel_rfl
theorem law_holds:Rows.TopHornerCardSaid :=
 Claim7.holds_tied_plain_at .later [] [.data, .data, .data] true (true, "3899b6151672db9c16f19cf2269a62a32b40280848e83bce1c94aea8e833acc7") false
  row_holds (fun _ h=>by cases h) (by kernel_rfl) (fun _ h=>by cases h) topHorner_row_tie rfl ⟨rfl,rfl⟩ (by kernel_rfl) rfl
  (fun f fn hf hfn=>by
   obtain rfl : f = 3 := Option.some.inj ((show Tryz.prog.funcNamed "fiducial/fiducialtop.TopHorner" = some 3 by kernel_rfl).symm.trans hf) |>.symm
   obtain rfl:fn=Tryz.f3:=(Option.some.inj (Tryz.func3.symm.trans hfn)).symm
   exact ⟨by kernel_rfl,fun j t ht=>by
    rcases j with _ | _ | _ | j
    ·obtain rfl:=Option.some.inj (pm0.symm.trans ht)
     exact (show Tryz.prog.wantsStandIn 23=false by kernel_rfl)
    ·obtain rfl:=Option.some.inj (pm1.symm.trans ht)
     exact (show Tryz.prog.wantsStandIn 28=false by kernel_rfl)
    ·obtain rfl:=Option.some.inj (pm2.symm.trans ht)
     exact (show Tryz.prog.wantsStandIn 28=false by kernel_rfl)
    ·rw[Array.getElem?_eq_none (by rw[pmz];omega)] at ht
     cases ht⟩)
  (by kernel_rfl)
end Go.Proofs.YtciingpdmjepgabGreatDoor
