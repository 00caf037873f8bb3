/- The law JetMeans returns true for every input, and its arguments read afterwards as before. No condition. -/
import Derived.Test.YtckccjhflbljgaaGreatDoorM36
import Derived.Test.YtckccjhflbljgaaGreatDoorM37
import Derived.Test.YtckccjhflbljgaaGreatDoorRows
import Derived.Test.YtckccjhflbljgaaGreatDoorCards
import Derived.Test.YtckccjhflbljgaaGreatDoorTie
import Derived.JoinedOf
import Derived.LaidMore
import Derived.SevenTiedAt
namespace Go.Proofs.YtckccjhflbljgaaGreatDoor
open Go.Fid Go.RowKit Go.ChangeShapes Go.WideShapes
theorem takes_law(t:List kC)(rb:List jM)(p:A8 Nat)(lt:Len22 t)(lb:Len43 rb)(lx:Len59 p):jS Tryz.prog 6 [.sl 72 7 (t.map jO),.sl 42 8 (rb.map jG),xH p] (.val (.bool true)):=by
 have ht:nE 140737488355328 t:=fun x hx=>qok_raw (by decide) (lt.1 x hx).2.2.2.1.2.2 (lt.1 x hx).2.2.2.2.2.2
 have hrb:∀ a∈rb,GOk 140737488355328 a:=fun a ha=>⟨qok_raw (by decide) (lb.1 a ha).1.1.2.2 (lb.1 a ha).1.2.2.2,qok_raw (by decide) (lb.1 a ha).2.1.2.2 (lb.1 a ha).2.2.2.2⟩
 rcases hw:aC 20 16 t with _ | _
 ·exact w_mn1 t ht rb hrb p hw lt.2 lb.2
 rcases hn:narB rb with _ | _
 ·exact w_mn2 t ht rb hrb p hw hn lt.2 lb.2
 have h8:nE 1048576 t:=fun x hx=>jP ((few_of hw).2.1 x hx) (by decide)
 rcases hlg:lightB rb t with _ | _
 ·exact w_mn3 t h8 rb hrb p hw hn hlg lt.2 lb.2
 obtain ⟨hb4,hdg⟩:=nar_of hn
 have hr6:∀ a∈rb,GOk 6 a:=fun a ha=>⟨jP (qok_dig (hdg a ha).1) (by decide),jP (qok_dig (hdg a ha).2) (by decide)⟩
 rcases hv:rb.all uP with _ | _
 ·exact w_mn4 t h8 rb (fun a ha=>gP (hr6 a ha) (by decide)) p hw hn hlg hb4 hv lt.2 lb.2
 obtain ⟨bv,rfl,hb6⟩:=box_form hr6 hv
 rw[List.length_map] at hb4
 have hbx:∀ x∈bv,GL 1048576 x:=fun x hx=>qQ (hb6 x hx) (by decide)
 have hp:∀ i,a8 p i<=255:=fun i=>by
  obtain ⟨l0,l1,l2,l3,l4,l5,l6,l7⟩:=lx
  match i with
  |0=>exact l0
  |1=>exact l1
  |2=>exact l2
  |3=>exact l3
  |4=>exact l4
  |5=>exact l5
  |6=>exact l6
  |i+7=>exact l7
 by_cases hc:nB ((bv.length:Nat):Int) t≠0
 ·exact w_mnE t h8 bv hbx p _ hw hn hlg hb4 hc (j_jetsC t h8 bv hbx hc (by omega)) hp lt.2
 have hc:nB ((bv.length:Nat):Int) t=0:=by omega
 have hT:mQ bv t:=tame_of hw (by decide) (by omega) (fun y hy=>qQ (hb6 y hy) (by decide)) hc
 rcases hd:dzT bv t with _ | _
 ·exact w_mn t h8 bv hbx p hw hn hlg hb4 hp hb6 hT hd lt.2
 ·exact w_mnE t h8 bv hbx p 14 hw hn hlg hb4 (by decide) (j_jetsF t h8 bv hbx (tame_fail hT hd)) hp lt.2
theorem laidOut:laidOutB Tryz.prog=true:=by kernel_rfl
theorem door_met(os:Os)(args:Array Value):laidMetH Tryz.prog Rows.jetMeansRow.laid ((World.doorLaid Tryz.prog 400 os).forCall (fun _ _=>0) ⟨#[],args,[]⟩).memory :=
 laidMetH_of_parts3 (fuel:=8) (laidMet_of_run' 8 (by kernel_rfl) (by kernel_rfl)) (by kernel_rfl) (by kernel_rfl)
set_option maxRecDepth 100000 in
theorem law_lifted(os:Os)(started:os.Started)(H:Type)(enc:TypeId × Value->H) :
  ReturnsInHanded {} Tryz.checked os 6 .any (fun w args=>(Rows.jetMeansSpec.pre enc Tryz.prog Tryz.f6 Rows.jetMeansRow.domain false w args/\laidMetH Tryz.prog Rows.jetMeansRow.laid w)/\sizedMet enc Tryz.prog Tryz.f6 (OpenSpec.ofChange Rows.jetMeansSpec) false w args)
   (Rows.jetMeansSpec.post enc Tryz.prog Tryz.f6 false true false false):=by
 refine returnsInHanded_of_change_and (C:=Tryz.checked) (X:=fun w _=>laidMetH Tryz.prog Rows.jetMeansRow.laid w) (fun _ _ _ hh h=>h.of_heap hh) (by kernel_rfl) started (by kernel_rfl) Tryz.func6
  (ChangeSpec.witness_shaped (enc:=enc) (C:=Tryz.checked) (os:=os) (X:=fun w _=>laidMetH Tryz.prog Rows.jetMeansRow.laid w) false (World.doorLaid Tryz.prog 400 os) #[.slice none 0 0,.slice none 0 0,.agg #[.int .u8 0,.int .u8 0,.int .u8 0,.int .u8 0,.int .u8 0,.int .u8 0,.int .u8 0,.int .u8 0]] 8 rfl (World.shaped_of_RefB (by kernel_rfl) (by kernel_rfl)) (by kernel_rfl) (by kernel_rfl) (by kernel_rfl) (door_met os _)) ?_
 intro W base args ds gs before hval hW _ hwt _ _
 refine law_contract (tys:=[ty22,ty43,ty59]) (B:=4) laidOut rfl (by kernel_rfl) (by kernel_rfl) (by kernel_rfl) (by kernel_rfl) ?_ ?_ W base args ds gs before hval hW hwt
 ·intro ds hl
  have hl2:ds.length=3:=hl
  match ds,hl2 with
  |[d1,d2,d3],_=>exact ⟨rfl,rfl,rfl⟩
 ·intro dss h
  cases h with
  |cons h1 r=>
   cases r with
   |cons h2 r=>
    cases r with
    |cons h3 r=>
     cases r with
     |nil=>
      obtain ⟨t,e1,lt⟩:=sh22_ h1
      obtain ⟨rb,e2,lrb⟩:=sh43_ h2
      obtain ⟨p,e3,lp⟩:=sh59_ h3
      simp only[mkAll]
      rw[e1,e2,e3]
      exact takes_law t rb p lt lrb lp
set_option maxHeartbeats 8000000 in
theorem closed_facts:joinedFacts Tryz.prog 6 Tryz.f6 Rows.jetMeansSpec Rows.jetMeansRow=true:=by
 unfold joinedFacts
 simp only[Bool.and_eq_true]
 repeat' apply And.intro
 all_goals as_aux_lemma=>kernel_rfl
theorem row_holds:Rows.JetMeansSaid :=
 OpenClaim.holds_of_wide 6 Tryz.f6 rfl rfl rfl rfl rfl rfl rfl ⟨rfl,rfl,rfl,rfl,rfl⟩ rfl rfl rfl rfl rfl (by kernel_rfl) Tryz.func6 closed_facts
  (of_decide_eq_true (by kernel_rfl)) (by unfold Func.isWrapper;rw[if_neg (by decide +kernel)];exact ⟨rfl,rfl⟩)
  (fun os started H enc _=>law_lifted os started H enc)
theorem pm0:Tryz.f6.params[0]?=some 23:=by kernel_rfl
theorem pm1:Tryz.f6.params[1]?=some 43:=by kernel_rfl
theorem pm2:Tryz.f6.params[2]?=some 59:=by kernel_rfl
theorem pmz:Tryz.f6.params.size=3:=by kernel_rfl
theorem law_holds:Rows.JetMeansCardSaid :=
 Claim7.holds_tied_plain_at .later [] [.data, .data, .data, .sentinel] true (true, "8a943098275a9e9b59cd3019c152170035276ea1179388a0ed1d334223600e06") false
  row_holds (fun _ h=>by cases h) (by kernel_rfl) (fun _ h=>by cases h) jetMeans_row_tie rfl ⟨rfl,rfl⟩ (by kernel_rfl) rfl
  (fun f fn hf hfn=>by
   obtain rfl : f = 6 := Option.some.inj ((show Tryz.prog.funcNamed "fiducial/fiduciallaw07.JetMeans" = some 6 by kernel_rfl).symm.trans hf) |>.symm
   obtain rfl:fn=Tryz.f6:=(Option.some.inj (Tryz.func6.symm.trans hfn)).symm
   exact ⟨by kernel_rfl,fun j t ht=>by
    rcases j with _ | _ | _ | j
    ·obtain rfl:=Option.some.inj (pm0.symm.trans ht)
     exact (show Tryz.prog.wantsStandIn 23=false by kernel_rfl)
    ·obtain rfl:=Option.some.inj (pm1.symm.trans ht)
     exact (show Tryz.prog.wantsStandIn 43=false by kernel_rfl)
    ·obtain rfl:=Option.some.inj (pm2.symm.trans ht)
     exact (show Tryz.prog.wantsStandIn 59=false by kernel_rfl)
    ·rw[Array.getElem?_eq_none (by rw[pmz];omega)] at ht
     cases ht⟩)
  (by kernel_rfl)
end Go.Proofs.YtckccjhflbljgaaGreatDoor
