/- The law PropagateSums returns true for every input, and its arguments read afterwards as before. No condition. -/
import Derived.Test.YtnajallgoaiahaaGreatDoorM33
import Derived.Test.YtnajallgoaiahaaGreatDoorM34
import Derived.Test.YtnajallgoaiahaaGreatDoorRows
import Derived.Test.YtnajallgoaiahaaGreatDoorCards
import Derived.Test.YtnajallgoaiahaaGreatDoorTie
import Derived.JoinedOf
import Derived.LaidMore
import Derived.SevenTiedAt
namespace Go.Proofs.YtnajallgoaiahaaGreatDoor
open Go.Fid Go.RowKit Go.ChangeShapes Go.WideShapes
theorem takes_law(x:A2 (List kN))(y:A2 (List jO))(q:List (List jO))(lx:Len77 x)(ly:Len78 y)(lq:Len33 q):jQ Tryz.prog 8 [cR x,dS y,.sl 24 1 (q.map jL)] (.val (.bool true)):=by
 obtain ⟨s,r⟩:=x
 obtain ⟨l,k⟩:=y
 have htn:∀ t:List kN,Len22 t→xK 140737488355328 t:=fun t lt x hx=>bN (by decide) (lt.1 x hx).2.2.2.1.2.2 (lt.1 x hx).2.2.2.2.2.2
 have hrow:∀ l:List jO,Len24 l→uY 140737488355328 l:=fun l ll=>⟨fun a ha=>bN (by decide) (ll.1 a ha).1.2.2 (ll.1 a ha).2.2.2,ll.2⟩
 have hq:xG 140737488355328 q:=⟨fun r hr=>⟨fun a ha=>bN (by decide) ((lq.1 r hr).1 a ha).1.2.2 ((lq.1 r hr).1 a ha).2.2.2,(lq.1 r hr).2⟩,lq.2⟩
 have hsb:s.length≤140737488355328:=lx.1.2
 have hrb:r.length≤140737488355328:=lx.2.2
 rcases hs:(nK 10 6 s&&nK 10 6 r&&decide (l.length≤3)&&decide (k.length=l.length)&&fE 3 6 l&&fE 3 6 k&&shM 5 6 q) with _ | _
 ·exact w_suT s (htn s lx.1) r (htn r lx.2) l (hrow l ly.1) k (hrow k ly.2) q hq hs hsb hrb
 simp only[Bool.and_eq_true,decide_eq_true_eq] at hs
 obtain ⟨⟨⟨⟨⟨⟨hf1,hf2⟩,hl3⟩,hkl⟩,hsl⟩,hsk⟩,hsq⟩:=hs
 have h1:xK 1048576 s:=fun x hx=>jR ((few_of hf1).2.1 x hx) (by decide)
 have h2:xK 1048576 r:=fun x hx=>jR ((few_of hf2).2.1 x hx) (by decide)
 have hro:∀ {l:List jO},fE 3 6 l=true→uY 1048576 l:=fun {l} h=>⟨fun x hx=>jR (shR_ok h (by decide) x hx) (by decide),by have:=shR_len h;omega⟩
 have hq6:xG 6 q:=shM_ok hsq (by decide) (by decide)
 rcases hv1:(gY l&&decide (nZ q=0)) with _ | _
 ·exact w_suR s h1 r h2 l (hro hsl) k (hro hsk) q hq6 hv1 hf1 hf2 hl3 hkl hsl hsk hsq hsb hrb
 rw[Bool.and_eq_true,decide_eq_true_eq] at hv1
 obtain ⟨hvr,hq0⟩:=hv1
 obtain ⟨xs,rfl,hx6,hxl⟩:=row_form hsl (by decide) hvr
 have hx:∀ p∈xs,QL p 1048576:=fun p hp=>vR (hx6 p hp) (by decide)
 have hg8:=gpt_8 fun p hp=>vR (hx6 p hp) (show 6≤8 by decide)
 have h8:(List.map gD xs).length≤8:=by rw[List.length_map];omega
 have hTm:∀ t∈[s,r],tmN xs t=0→eS (List.map gD xs) t:=two_of (P:=fun t=>tmN xs t=0→eS (List.map gD xs) t) (fun hc=>tame_of hf1 (by decide) h8 hg8 (by rw[List.length_map];exact hc)) (fun hc=>tame_of hf2 (by decide) h8 hg8 (by rw[List.length_map];exact hc))
 by_cases hE:tbC xs q [s,r]=0
 ·obtain ⟨hz1,hz2,hz3⟩:=tb_0 hE
  have m1:s∈[s,r]:=List.mem_cons_self
  have m2:r∈[s,r]:=List.mem_cons_of_mem _ List.mem_cons_self
  exact w_su s h1 r h2 xs hx k (hro hsk) q hq6 hE hq0 (sm_of hf1 (by decide) (by decide) h8 hg8 (by rw[List.length_map];exact fstC_all hz1 s m1)) (sm_of hf2 (by decide) (by decide) h8 hg8 (by rw[List.length_map];exact fstC_all hz1 r m2)) (dz_of hz3 s m1) (dz_of hz3 r m2) hz2 hf1 hf2 hl3 hkl hsl hsk hsq hsb hrb
 ·exact w_suE s h1 r h2 xs hx k (hro hsk) q hq6 hE hq0 hTm hf1 hf2 hl3 hkl hsl hsk hsq hsb hrb
theorem laidOut:laidOutB Tryz.prog=true:=by kernel_rfl
theorem door_met(os:Os)(args:Array Value):laidMetH Tryz.prog Rows.propagateSumsRow.laid ((World.doorLaid Tryz.prog 400 os).forCall (fun _ _=>0) ⟨#[],args,[]⟩).memory :=
 laidMetH_of_parts3 (fuel:=8) (laidMet_of_run' 8 (by kernel_rfl) (by kernel_rfl)) (by kernel_rfl) (by kernel_rfl)
set_option maxRecDepth 100000 in
theorem law_lifted(os:Os)(started:os.Started)(H:Type)(enc:TypeId × Value→H) :
  ReturnsInHanded {} Tryz.checked os 8 .any (fun w args=>(Rows.propagateSumsSpec.pre enc Tryz.prog Tryz.f8 Rows.propagateSumsRow.domain false w args∧laidMetH Tryz.prog Rows.propagateSumsRow.laid w)∧sizedMet enc Tryz.prog Tryz.f8 (OpenSpec.ofChange Rows.propagateSumsSpec) false w args)
   (Rows.propagateSumsSpec.post enc Tryz.prog Tryz.f8 false true false false):=by
 refine returnsInHanded_of_change_and (C:=Tryz.checked) (X:=fun w _=>laidMetH Tryz.prog Rows.propagateSumsRow.laid w) (fun _ _ _ hh h=>h.of_heap hh) (by kernel_rfl) started (by kernel_rfl) Tryz.func8
  (ChangeSpec.witness_shaped (enc:=enc) (C:=Tryz.checked) (os:=os) (X:=fun w _=>laidMetH Tryz.prog Rows.propagateSumsRow.laid w) false (World.doorLaid Tryz.prog 400 os) #[.agg #[.slice none 0 0,.slice none 0 0],.agg #[.slice none 0 0,.slice none 0 0],.slice none 0 0] 8 rfl (World.shaped_of_RefB (by kernel_rfl) (by kernel_rfl)) (by kernel_rfl) (by kernel_rfl) (by kernel_rfl) (door_met os _)) ?_
 intro W base args ds gs before hval hW _ hwt _ _
 refine law_contract (tys:=[ty77,ty78,ty33]) (B:=4) laidOut rfl (by kernel_rfl) (by kernel_rfl) (by kernel_rfl) (by kernel_rfl) ?_ ?_ W base args ds gs before hval hW hwt
 ·intro ds hl
  have hl2:ds.length=3:=hl
  match ds,hl2 with
  |[d1,d2,d3],_=>exact ⟨rfl,rfl,rfl⟩
 ·intro dss h
  cases h with
  |cons h1 r=>
   cases r with
   |cons h2 r=>
    cases r with
    |cons h3 r=>
     cases r with
     |nil=>
      obtain ⟨x,e1,lx⟩:=sh77_ h1
      obtain ⟨y,e2,ly⟩:=sh78_ h2
      obtain ⟨q,e3,lq⟩:=sh33_ h3
      simp only[mkAll]
      rw[e1,e2,e3]
      exact takes_law x y q lx ly lq
set_option maxHeartbeats 8000000 in
theorem closed_facts:joinedFacts Tryz.prog 8 Tryz.f8 Rows.propagateSumsSpec Rows.propagateSumsRow=true:=by
 unfold joinedFacts
 simp only[Bool.and_eq_true]
 repeat' apply And.intro
 all_goals as_aux_lemma=>kernel_rfl
theorem row_holds:Rows.PropagateSumsSaid :=
 OpenClaim.holds_of_wide 8 Tryz.f8 rfl rfl rfl rfl rfl rfl rfl ⟨rfl,rfl,rfl,rfl,rfl⟩ rfl rfl rfl rfl rfl (by kernel_rfl) Tryz.func8 closed_facts
  (of_decide_eq_true (by kernel_rfl)) (by unfold Func.isWrapper;rw[if_neg (by decide +kernel)];exact ⟨rfl,rfl⟩)
  (fun os started H enc _=>law_lifted os started H enc)
theorem pm0:Tryz.f8.params[0]?=some 77:=by kernel_rfl
theorem pm1:Tryz.f8.params[1]?=some 78:=by kernel_rfl
theorem pm2:Tryz.f8.params[2]?=some 34:=by kernel_rfl
theorem pmz:Tryz.f8.params.size=3:=by kernel_rfl
theorem law_holds:Rows.PropagateSumsCardSaid :=
 Claim7.holds_tied_plain_at .later [] [.data, .data, .data] true (true, "de003654cfae3caa1481ad000d337601fd35236b95f0707223ec46fb23597483") false
  row_holds (fun _ h=>by cases h) (by kernel_rfl) (fun _ h=>by cases h) propagateSums_row_tie rfl ⟨rfl,rfl⟩ (by kernel_rfl) rfl
  (fun f fn hf hfn=>by
   obtain rfl : f = 8 := Option.some.inj ((show Tryz.prog.funcNamed "fiducial/fiduciallaw39.PropagateSums" = some 8 by kernel_rfl).symm.trans hf) |>.symm
   obtain rfl:fn=Tryz.f8:=(Option.some.inj (Tryz.func8.symm.trans hfn)).symm
   exact ⟨by kernel_rfl,fun j t ht=>by
    rcases j with _ | _ | _ | j
    ·obtain rfl:=Option.some.inj (pm0.symm.trans ht)
     exact (show Tryz.prog.wantsStandIn 77=false by kernel_rfl)
    ·obtain rfl:=Option.some.inj (pm1.symm.trans ht)
     exact (show Tryz.prog.wantsStandIn 78=false by kernel_rfl)
    ·obtain rfl:=Option.some.inj (pm2.symm.trans ht)
     exact (show Tryz.prog.wantsStandIn 34=false by kernel_rfl)
    ·rw[Array.getElem?_eq_none (by rw[pmz];omega)] at ht
     cases ht⟩)
  (by kernel_rfl)
end Go.Proofs.YtnajallgoaiahaaGreatDoor
