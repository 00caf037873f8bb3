/- The law JetLeibniz returns true for every input, and its arguments read afterwards as before. No condition. -/
import Derived.Test.YtckccjhflbljgaaGreatDoorM38
import Derived.Test.YtckccjhflbljgaaGreatDoorM39
import Derived.Test.YtckccjhflbljgaaGreatDoorRows
import Derived.Test.YtckccjhflbljgaaGreatDoorCards
import Derived.Test.YtckccjhflbljgaaGreatDoorTie
import Derived.JoinedOf
import Derived.LaidMore
import Derived.SevenTiedAt
namespace Go.Proofs.YtckccjhflbljgaaGreatDoor
open Go.Fid Go.RowKit Go.ChangeShapes Go.WideShapes
theorem ev_of{xs:List Rat}(hx:∀ q∈xs,QL q 1048576)(hx24:∀ q∈xs,QL q 24)(hxl:xs.length<=4){T:List jO}(hr:iB xs T)(hq:∀ x∈T,yX x.n (vC x.n) 8)(hl:T.length<=99)(hs:∀ k,k<T.length->gN (vZ T k) (T.getD k tz)<=45) :
  (∀ i:Nat,uL 1048576 (DRT (i:Int) T))/\(∀ i:Nat,QL (derV xs (i:Int) T) 1048576)/\DrvE xs T (fun i=>DRT (i:Int) T)/\ValE xs (fun i=>DRT (i:Int) T) (fun i=>derV xs (i:Int) T):=by
 have D:=fun i:Nat=>drv_all txI (i:=(i:Int)) hr hq hx24 hl hs
 have hq2:∀ i:Nat,uL 1048576 (DRT (i:Int) T):=fun i x h=>jW ((D i).2.q x h) (by decide)
 refine ⟨hq2,fun i=>?_,fun i hi=>?_,fun i hi=>?_⟩
 ·have h:=(D i).2.run.last
  rw[(D i).2.val] at h
  exact h
 ·have h:=p_drv T (fun x h=>jW (hq x h) (by decide)) xs.length i hr.c0 hi (bZ 0) (bZ 1) (bZ 2) (fun x h _=>tx_all _ (uE (hq x h).ql))
  rw[(D i).1] at h
  exact h
 ·have h:=p_val (DRT (i:Int) T) (hq2 i) xs hx (D i).2.run (by omega)
  rw[(D i).2.val] at h
  exact h
theorem takes_law(s r:List jO)(l:List kT)(ls:Len22 s)(lr:Len22 r)(ll:Len24 l):jQ Tryz.prog 5 [.sl 72 7 (s.map jK),.sl 72 7 (r.map jK),.sl 32 4 (l.map jG)] (.val (.bool true)):=by
 have htn:∀ t:List jO,Len22 t->uL 140737488355328 t:=fun t lt x hx=>iY (by decide) (lt.1 x hx).2.2.2.1.2.2 (lt.1 x hx).2.2.2.2.2.2
 have hts:=htn s ls
 have htr:=htn r lr
 have hl:RowOk 140737488355328 l:=⟨fun a ha=>iY (by decide) (ll.1 a ha).1.2.2 (ll.1 a ha).2.2.2,ll.2⟩
 rcases hw1:gP 10 6 s with _ | _
 ·exact w_le1 s hts r htr l hl hw1 ls.2 lr.2
 rcases hw2:gP 10 6 r with _ | _
 ·exact w_le2 s hts r htr l hl hw1 hw2 ls.2 lr.2
 rcases hs:shR 4 8 l with _ | _
 ·exact w_le3 s hts r htr l hl hw1 hw2 hs ls.2 lr.2
 by_cases hl0:l.length=0
 ·exact w_le4 s hts r htr l hl hw1 hw2 hs hl0 ls.2 lr.2
 have q1:=(mF hw1).2.1
 have q2:=(mF hw2).2.1
 have hs8:uL 1048576 s:=fun x hx=>jW (q1 x hx) (by decide)
 have hr8:uL 1048576 r:=fun x hx=>jW (q2 x hx) (by decide)
 have qK:=shR_len hs
 rcases hv:vRow l with _ | _
 ·exact w_le5 s hs8 r hr8 l ⟨fun x hx=>jW (shR_ok hs (by decide) x hx) (by decide),by omega⟩ hw1 hw2 hs hl0 hv (by omega) ls.2 lr.2
 obtain ⟨xs,rfl,hx6,hxl⟩:=row_form hs (by decide) hv
 have hx:∀ q∈xs,QL q 1048576:=fun q hq=>uE (hx6 q hq) (by decide)
 have hx24:∀ q∈xs,QL q 24:=fun q hq=>uE (hx6 q hq) (by decide)
 have hl0':xs.length≠0:=by rwa [List.length_map] at hl0
 by_cases hc1:zP ((xs.length:Nat):Int) s=0
 case neg=>exact w_le6 s hs8 r hr8 xs hx hw1 hw2 hs hl0' (by omega) hc1 ls.2 lr.2
 by_cases hc2:zP ((xs.length:Nat):Int) r=0
 case neg=>exact w_le7 s hs8 r hr8 xs hx hw1 hw2 hs hl0' (by omega) hc1 hc2 ls.2 lr.2
 by_cases hdv:3<dvN s s.length+dvN r r.length
 ·exact w_le8 s hs8 r hr8 xs hx hw1 hw2 hs hl0' (by omega) hc1 hc2 hdv ls.2 lr.2
 have hg8:=gpt_8 fun q hq=>uE (hx6 q hq) (show 8<=8 by decide)
 have h8:(List.map gpt xs).length<=8:=by rw[List.length_map];omega
 have S1:Sm (List.map gpt xs) s:=sm_of2 hw1 (by decide) (by decide) h8 hg8 (by rw[List.length_map];exact hc1)
 have S2:Sm (List.map gpt xs) r:=sm_of2 hw2 (by decide) (by decide) h8 hg8 (by rw[List.length_map];exact hc2)
 rcases hz1:vzT xs s with _ | _<;>rcases hz2:vzT xs r with _ | _
 ·have r1:=S1.t.vrun hz1
  have r2:=S2.t.vrun hz2
  have r3:=jn_run (.inl rfl) S1 S2 r1 r2
  have r4:=jn_run (.inr rfl) S1 S2 r1 r2
  have T3:=jn_tame (.inl rfl) S1 S2
  have T4:=jn_tame (.inr rfl) S1 S2
  have u1:=(mQ hc1).2.2.2.2
  have u2:=(mQ hc2).2.2.2.2
  have n1:1<=s.length:=by have:=(mQ hc1).2.2.1;omega
  have n2:1<=r.length:=by have:=(mQ hc2).2.2.1;omega
  have f1:=(mF hw1).1
  have f2:=(mF hw2).1
  have z1:=few_sz hw1 (by omega) hc1
  have z2:=few_sz hw2 (by omega) hc2
  have z3:=jn_le (o:=2) (.inl rfl) u1 u2 n1 n2 z1 z2 (by decide)
  have z4:=jn_le (o:=4) (.inr rfl) u1 u2 n1 n2 z1 z2 (by decide)
  have j3:=jn_len 2 s r
  have j4:=jn_len 4 s r
  obtain ⟨a1,b1,d1,v1⟩:=ev_of hx hx24 hxl r1 q1 (by omega) (fun k hk=>by have:=z1 k hk;omega)
  obtain ⟨a2,b2,d2,v2⟩:=ev_of hx hx24 hxl r2 q2 (by omega) (fun k hk=>by have:=z2 k hk;omega)
  obtain ⟨a3,b3,d3,v3⟩:=ev_of hx hx24 hxl r3 T3.q (by omega) (fun k hk=>by have:=z3 k hk;omega)
  obtain ⟨a4,b4,d4,v4⟩:=ev_of hx hx24 hxl r4 T4.q (by omega) (fun k hk=>by have:=z4 k hk;omega)
  exact w_le s hs8 r hr8 xs hx xs.length _ _ _ _ _ _ _ _ hw1 hw2 hs hl0' (by omega) hc1 hc2 hdv r1 r2 u2 n1 n2 a1 a2 a3 a4 b1 b2 b3 b4 d1 d2 d3 d4 v1 v2 v3 v4 (fun i=>der_sum hc1 hc2) (fun i=>der_mul hc1 hc2 q1 q2) ls.2 lr.2
 ·exact w_leB s hs8 r hr8 xs hx hw1 hw2 hs hl0' (by omega) hc1 hc2 hdv (S1.t.vrun hz1) (S2.t.vfail hz2) ls.2 lr.2
 ·exact w_leA s hs8 r hr8 xs hx hw1 hw2 hs hl0' (by omega) hc1 hc2 hdv (S1.t.vfail hz1) (S2.t.vrun hz2) ls.2 lr.2
 ·exact w_le9 s hs8 r hr8 xs hx hw1 hw2 hs hl0' (by omega) hc1 hc2 hdv (S1.t.vfail hz1) (S2.t.vfail hz2) ls.2 lr.2
theorem laidOut:laidOutB Tryz.prog=true:=by kernel_rfl
theorem door_met(os:Os)(args:Array Value):laidMetH Tryz.prog Rows.jetLeibnizRow.laid ((World.doorLaid Tryz.prog 400 os).forCall (fun _ _=>0) ⟨#[],args,[]⟩).memory :=
 laidMetH_of_parts3 (fuel:=8) (laidMet_of_run' 8 (by kernel_rfl) (by kernel_rfl)) (by kernel_rfl) (by kernel_rfl)
set_option maxRecDepth 100000 in
theorem law_lifted(os:Os)(started:os.Started)(H:Type)(enc:TypeId × Value->H) :
  ReturnsInHanded {} Tryz.checked os 5 .any (fun w args=>(Rows.jetLeibnizSpec.pre enc Tryz.prog Tryz.f5 Rows.jetLeibnizRow.domain false w args/\laidMetH Tryz.prog Rows.jetLeibnizRow.laid w)/\sizedMet enc Tryz.prog Tryz.f5 (OpenSpec.ofChange Rows.jetLeibnizSpec) false w args)
   (Rows.jetLeibnizSpec.post enc Tryz.prog Tryz.f5 false true false false):=by
 refine returnsInHanded_of_change_and (C:=Tryz.checked) (X:=fun w _=>laidMetH Tryz.prog Rows.jetLeibnizRow.laid w) (fun _ _ _ hh h=>h.of_heap hh) (by kernel_rfl) started (by kernel_rfl) Tryz.func5
  (ChangeSpec.witness_shaped (enc:=enc) (C:=Tryz.checked) (os:=os) (X:=fun w _=>laidMetH Tryz.prog Rows.jetLeibnizRow.laid w) false (World.doorLaid Tryz.prog 400 os) #[.slice none 0 0,.slice none 0 0,.slice none 0 0] 8 rfl (World.shaped_of_RefB (by kernel_rfl) (by kernel_rfl)) (by kernel_rfl) (by kernel_rfl) (by kernel_rfl) (door_met os _)) ?_
 intro W base args ds gs before hval hW _ hwt hX _
 refine law_contract (tys := [ty22, ty22, ty24]) (B := 4) laidOut rfl (by kernel_rfl) (by kernel_rfl) (by kernel_rfl) (by kernel_rfl) ?_ ?_ W (powT_ok (show laidMet Tryz.prog (_ :: _ :: ("internal/strconv.uint64pow10", Lib.tabData .u64 Lib.pow10Tab) :: _) W from hX)) base args ds gs before hval hW hwt
 ·intro ds hl
  have hl2:ds.length=3:=hl
  match ds,hl2 with
  |[d1,d2,d3],_=>exact ⟨rfl,rfl,rfl⟩
 ·intro dss h
  cases h with
  |cons h1 r=>
   cases r with
   |cons h2 r=>
    cases r with
    |cons h3 r=>
     cases r with
     |nil=>
      obtain ⟨s,e1,ls⟩:=sh22_ h1
      obtain ⟨r,e2,lr⟩:=sh22_ h2
      obtain ⟨l,e3,ll⟩:=sh24_ h3
      simp only[mkAll]
      rw[e1,e2,e3]
      exact takes_law s r l ls lr ll
set_option maxHeartbeats 8000000 in
theorem closed_facts:joinedFacts Tryz.prog 5 Tryz.f5 Rows.jetLeibnizSpec Rows.jetLeibnizRow=true:=by
 unfold joinedFacts
 simp only[Bool.and_eq_true]
 repeat' apply And.intro
 all_goals as_aux_lemma=>kernel_rfl
theorem row_holds:Rows.JetLeibnizSaid :=
 OpenClaim.holds_of_wide 5 Tryz.f5 rfl rfl rfl rfl rfl rfl rfl ⟨rfl,rfl,rfl,rfl,rfl⟩ rfl rfl rfl rfl rfl (by kernel_rfl) Tryz.func5 closed_facts
  (of_decide_eq_true (by kernel_rfl)) (by unfold Func.isWrapper;rw[if_neg (by decide +kernel)];exact ⟨rfl,rfl⟩)
  (fun os started H enc _=>law_lifted os started H enc)
theorem pm0:Tryz.f5.params[0]?=some 23:=by kernel_rfl
theorem pm1:Tryz.f5.params[1]?=some 23:=by kernel_rfl
theorem pm2:Tryz.f5.params[2]?=some 24:=by kernel_rfl
theorem pmz:Tryz.f5.params.size=3:=by kernel_rfl
theorem law_holds:Rows.JetLeibnizCardSaid :=
 Claim7.holds_tied_plain_at .later [] [.data, .data, .data, .sentinel] true (true, "8a943098275a9e9b59cd3019c152170035276ea1179388a0ed1d334223600e06") false
  row_holds (fun _ h=>by cases h) (by kernel_rfl) (fun _ h=>by cases h) jetLeibniz_row_tie rfl ⟨rfl,rfl⟩ (by kernel_rfl) rfl
  (fun f fn hf hfn=>by
   obtain rfl : f = 5 := Option.some.inj ((show Tryz.prog.funcNamed "fiducial/fiduciallaw07.JetLeibniz" = some 5 by kernel_rfl).symm.trans hf) |>.symm
   obtain rfl:fn=Tryz.f5:=(Option.some.inj (Tryz.func5.symm.trans hfn)).symm
   exact ⟨by kernel_rfl,fun j t ht=>by
    rcases j with _ | _ | _ | j
    ·obtain rfl:=Option.some.inj (pm0.symm.trans ht)
     exact (show Tryz.prog.wantsStandIn 23=false by kernel_rfl)
    ·obtain rfl:=Option.some.inj (pm1.symm.trans ht)
     exact (show Tryz.prog.wantsStandIn 23=false by kernel_rfl)
    ·obtain rfl:=Option.some.inj (pm2.symm.trans ht)
     exact (show Tryz.prog.wantsStandIn 24=false by kernel_rfl)
    ·rw[Array.getElem?_eq_none (by rw[pmz];omega)] at ht
     cases ht⟩)
  (by kernel_rfl)
end Go.Proofs.YtckccjhflbljgaaGreatDoor
