/- The law JetDerives returns true for every input, and its arguments read afterwards as before. No condition. -/
import Derived.Test.YtckccjhflbljgaaGreatDoorM26
import Derived.Test.YtckccjhflbljgaaGreatDoorM27
import Derived.Test.YtckccjhflbljgaaGreatDoorRows
import Derived.Test.YtckccjhflbljgaaGreatDoorCards
import Derived.Test.YtckccjhflbljgaaGreatDoorTie
import Derived.JoinedOf
import Derived.LaidMore
import Derived.SevenTiedAt
namespace Go.Proofs.YtckccjhflbljgaaGreatDoor
open List
open Go.Fid Go.RowKit Go.ChangeShapes Go.WideShapes
theorem drt_nil{i:Int}{t:List jS}(h:DRC i t≠0):iX i t=[]:=by
 unfold DRC at h
 unfold iX
 rcases hb:dOv i t with _ | _
 ·rw[hb] at h;exact absurd (if_neg (by decide)) h
 ·exact if_pos rfl
theorem dz_vz{xs:List Rat}{t:List jS}(hT:cQ (map xG xs) t)(hop:∀ j,j<t.length->0<=(t.getD j tz).op/\(t.getD j tz).op<=7)(hd:dzT (map xG xs) t=false):vzT xs t=false:=by
 rcases hz:vzT xs t with _ | _
 ·rfl
 ·exfalso
  obtain ⟨k,h⟩:=hT.vfail hz
  have h1:=dz_no hd h.hk
  unfold dzB at h1
  have e:=pt_val (xs:=xs) (t:=t) k (λj hj=>hop j (by have:=h.hk;omega)) (t.getD k tz).b
  have e2:v0 xs t k (t.getD k tz).b=0:=by
   unfold v0
   rw[<- vU_fR xs t k (λj hj=>hop j (by have:=h.hk;omega))]
   exact h.z
  rw[e2] at e
  rw[e,h.op] at h1
  exact absurd h1 (by decide)
theorem drvE{xs:List Rat}{t:List jS}(hq:∀ x∈t,yB x.n (qS x.n) 8)(hc:yT ((xs.length:Nat):Int) t=0){i:Nat}(hi:i<xs.length):DerE xs.length t i (iX (i:Int) t) (DRC (i:Int) t) :=
 p_drv t (λx h=>jO (hq x h) (by decide)) xs.length i hc hi (iB 0) (iB 1) (iB 2) (λx h _=>tx_all _ (uG (hq x h).ql))
theorem jd_all{xs:List Rat}{t:List jS}(hw:dS 20 12 t=true)(hx6:∀ q∈xs,QL q 8)(hxl:xs.length<=4)(hc1:yT ((xs.length:Nat):Int) t=0){I K:Nat}(hi:I<xs.length)(hk:K<xs.length) :
  ∃ T J c H e R,gR 1048576 T/\T.length<=140737488355328/\yT ((xs.length:Nat):Int) T=0/\DerE xs.length t I T 0/\Jet2E xs t J c/\gR 1048576 H/\H.length<=140737488355328/\DerE xs.length T K H e /\
   (c=0->VRun xs T/\J.grad.length=xs.length/\J.grad.getD I (jX.mk qX qX)=jX.mk (jM (uJ xs T)) (jM (uJ xs T))) /\
   (c=0->e=0->VRun xs H/\J.hess.length=xs.length/\J.hess.getD (max I K) []=R/\min I K<R.length/\R.getD (min I K) (jX.mk qX qX)=jX.mk (jM (uJ xs H)) (jM (uJ xs H))):=by
 have q1:=(few_of hw).2.1
 have h8:gR 1048576 t:=λx hx=>jO (q1 x hx) (by decide)
 have hx24:∀ q∈xs,QL q 24:=λq hq=>uG (hx6 q hq) (by decide)
 have t0:=dF hc1
 have z1:=few_sz hw (by omega) hc1
 have f1:=(few_of hw).1
 have hg8:=gpt_8 hx6
 have hbn:(map xG xs).length=xs.length:=length_map _
 have hT:cQ (map xG xs) t:=tame_of hw (by decide) (by omega) hg8 (by rw[hbn];exact hc1)
 have hT2:Tame2 (map xG xs) t:=⟨hT,λk hk=>by have:=z1 k hk;omega⟩
 have hop:∀ j,j<t.length->0<=(t.getD j tz).op/\(t.getD j tz).op<=7:=λj hj=>(nd_k hc1 h8 hj).2.2
 have hva:∀ j,j<t.length->(t.getD j tz).op=1->0<=(t.getD j tz).a:=λj hj ho=>by
  obtain ⟨_,_,h3,_⟩:=nd_0 (t0.2.2.2.2 j hj)
  unfold rngN at h3;omega
 obtain ⟨hD0,_⟩:=drc_0 txI (i:=(I:Int)) hc1 h8 (by omega) (λk hk=>by have:=z1 k hk;omega)
 obtain ⟨c0,hq8⟩:=drv_c0 (i:=(I:Int)) txI hc1 q1 hD0
 have hD1:=drvE q1 hc1 hi
 rw[hD0] at hD1
 have hD2:=drvE hq8 c0 hk
 have hH:gR 1048576 (iX (K:Int) (iX (I:Int) t))/\(iX (K:Int) (iX (I:Int) t)).length<=140737488355328:=by
  by_cases he:DRC (K:Int) (iX (I:Int) t)=0
  ·obtain ⟨c2,q2⟩:=drv_c0 (i:=(K:Int)) txI c0 hq8 he
   exact ⟨λx h=>jO (q2 x h) (by decide),by have:=(dF c2).2.2.2.1;omega⟩
  ·rw[drt_nil he];exact ⟨λx hx=>(by cases hx),by decide⟩
 have hbx:∀ y∈map xG xs,GL 1048576 y:=λy hy=>kU (hg8 y hy) (by decide)
 obtain ⟨J,c,hJ,hB⟩:∃ J c,Jet2E xs t J c/\(c=0->VRun xs t/\J=ofJH (mI (map xG xs) t) (lastH (map xG xs) t) (map xG xs).length):=by
  rcases hd:dzT (map xG xs) t with _ | _
  ·have h:=u_jet2U t h8 (map xG xs) hbx t.length (hT.dend hd) hT2 (by omega)
   rw[dJ2_y,dC_y] at h
   exact ⟨_,_,h,λ_=>⟨hT.vrun (dz_vz hT hop hd),rfl⟩⟩
  ·obtain ⟨k,hk⟩:=dz_fst hd
   have h:=u_jet2U t h8 (map xG xs) hbx k (hT.dfail hk) hT2 (by omega)
   rw[dJ2_n hk.lt,dC_n hk.lt] at h
   exact ⟨_,_,h,λe=>(by cases e)⟩
 have hmx:max I K<xs.length:=Nat.max_lt.2 ⟨hi,hk⟩
 have hle:min I K<=max I K:=by omega
 have hn1:((t.length-1:Nat):Int).toNat=t.length-1:=Int.toNat_natCast _
 have gp:∀ q:Rat,kF (xG q)=jX.mk (jM q) (jM q):=λ_=>rfl
 refine ⟨_,J,c,_,_,hRow (lastH (map xG xs) t) (max I K),λx h=>jO (hq8 x h) (by decide),by have:=(dF c0).2.2.2.1;omega,c0,hD1,hJ,hH.1,hH.2,hD2,λhc=>?_,λhc he=>?_⟩
 ·obtain ⟨hr,rfl⟩:=hB hc
  have D1:=drv_gen (i:=(I:Int)) txI hr q1 hx24 hD0
  have eg:Go.Fid.gA (jU (map xG xs) t t.length) ((t.length-1:Nat):Int) I=xG (uJ xs (iX (I:Int) t)):=by
   rw[pt_der t.length hop hva _ hi]
   unfold d1
   rw[hn1,D1.val]
  unfold Go.Fid.gA jA at eg
  rw[hn1] at eg
  have hgl:(mI (map xG xs) t).g.length=xs.length:=by
   show (((jU (map xG xs) t t.length).getD (t.length-1) jz)).g.length=_
   rw[(hT.upto (Nat.le_refl _) _ (qG (by rw[gZ];omega))).2.2,hbn]
  refine ⟨D1.run,?_,?_⟩
  ·show ((mI (map xG xs) t).g.map kF).length=_
   rw[length_map,hgl]
  ·show ((mI (map xG xs) t).g.map kF).getD _ _=_
   rw[bZ kF _ z2 _ (by omega)]
   exact (congrArg kF eg).trans (gp _)
 ·obtain ⟨hr,rfl⟩:=hB hc
  obtain ⟨D2,e2⟩:=der2 (xs:=xs) (i:=(I:Int)) (k:=(K:Int)) txI hr q1 hx24 hD0 he
  have es:s2U xs ((max I K:Nat):Int) ((min I K:Nat):Int) t t.length=s2U xs (I:Int) (K:Int) t t.length:=by
   rcases Nat.le_total I K with h | h
   ·rw[Nat.max_eq_right h,Nat.min_eq_left h];exact s2U_symm ..
   ·rw[Nat.max_eq_left h,Nat.min_eq_right h]
  have eh:hA (hU (map xG xs) t t.length) ((t.length-1:Nat):Int) (max I K) (min I K)=xG (uJ xs (iX (K:Int) (iX (I:Int) t))):=by
   rw[pt_hes t.length hop hva _ _ hmx (by omega),es,hn1,e2]
  unfold hA at eh
  rw[hn1] at eh
  have eh2:lastH (map xG xs) t (max I K) (min I K)=xG (uJ xs (iX (K:Int) (iX (I:Int) t))):=by
   unfold lastH
   exact eh
  exact ⟨D2.run,by show (mX _ _).length=_;rw[hRows_len,hbn],hRows_get (h:=lastH (map xG xs) t) (n:=(map xG xs).length) (by omega),by rw[hRow_len];omega,by rw[hRow_get hle,eh2];exact gp _⟩
theorem takes_law(t:List jS)(l:List kY)(p:A2 Nat)(lt:Len22 t)(ll:Len24 l)(lp:Len39 p):jP Tryz.prog 4 [.sl 72 7 (t.map jN),.sl 32 4 (l.map jJ),encA39 p] (.val (.bool true)):=by
 have ht:gR 140737488355328 t:=λx hx=>qok_raw (by decide) (lt.1 x hx).2.2.2.1.2.2 (lt.1 x hx).2.2.2.2.2.2
 rcases h:(dS 20 12 t&&shR 4 8 l) with _ | _
 ·exact w_jdT t ht l ⟨λa ha=>qok_raw (by decide) (ll.1 a ha).1.2.2 (ll.1 a ha).2.2.2,ll.2⟩ p h lt.2
 rw[Bool.and_eq_true] at h
 obtain ⟨hw,hs⟩:=h
 have q1:=(few_of hw).2.1
 have h8:gR 1048576 t:=λx hx=>jO (q1 x hx) (by decide)
 have qM:=shR_len hs
 by_cases hg:l.length=0\/vRow l=false\/yT ((l.length:Nat):Int) t≠0
 ·exact w_jdG t h8 l ⟨λx hx=>jO (shR_ok hs (by decide) x hx) (by decide),by omega⟩ p hw hs hg (by omega) lt.2
 have hv:vRow l=true:=by
  rcases hv:vRow l with _ | _
  ·exact absurd (.inr (.inl hv)) hg
  ·rfl
 obtain ⟨xs,rfl,hx6,hxl⟩:=row_form hs (by decide) hv
 have hl0:xs.length≠0:=λe=>hg (.inl (by rw[length_map];exact e))
 have hc1:yT ((xs.length:Nat):Int) t=0:=by
  by_cases h:yT ((xs.length:Nat):Int) t=0
  ·exact h
  ·exact absurd (.inr (.inr (by rw[length_map];exact h))) hg
 obtain ⟨T,J,c,H,e,R,h1,h2,h3,h4,h5,h6,h7,h9,hB,hC⟩:=jd_all hw hx6 hxl hc1 (I:=p.a0 % xs.length) (K:=p.a1 % xs.length) (Nat.mod_lt _ (by omega)) (Nat.mod_lt _ (by omega))
 exact w_jd t h8 xs (λq hq=>uG (hx6 q hq) (by decide)) p T J c H e R hw hs hl0 (by omega) hc1 lp.1 lp.2 h1 h2 h3 h4 h5 h6 h7 h9 hB hC lt.2
theorem laidOut:laidOutB Tryz.prog=true:=by kernel_rfl
theorem door_met(os:Os)(args:Array Value):laidMetH Tryz.prog Rows.jetDerivesRow.laid ((World.doorLaid Tryz.prog 400 os).forCall (λ_ _=>0) ⟨#[],args,[]⟩).memory :=
 laidMetH_of_parts3 (fuel:=8) (laidMet_of_run' 8 (by kernel_rfl) (by kernel_rfl)) (by kernel_rfl) (by kernel_rfl)
set_option maxRecDepth 100000 in
theorem law_lifted(os:Os)(started:os.Started)(H:Type)(enc:TypeId × Value->H) :
  ReturnsInHanded {} Tryz.checked os 4 .any (λw args=>(Rows.jetDerivesSpec.pre enc Tryz.prog Tryz.f4 Rows.jetDerivesRow.domain false w args/\laidMetH Tryz.prog Rows.jetDerivesRow.laid w)/\sizedMet enc Tryz.prog Tryz.f4 (OpenSpec.ofChange Rows.jetDerivesSpec) false w args)
   (Rows.jetDerivesSpec.post enc Tryz.prog Tryz.f4 false true false false):=by
 refine returnsInHanded_of_change_and (C:=Tryz.checked) (X:=λw _=>laidMetH Tryz.prog Rows.jetDerivesRow.laid w) (λ_ _ _ hh h=>h.of_heap hh) (by kernel_rfl) started (by kernel_rfl) Tryz.func4
  (ChangeSpec.witness_shaped (enc:=enc) (C:=Tryz.checked) (os:=os) (X:=λw _=>laidMetH Tryz.prog Rows.jetDerivesRow.laid w) false (World.doorLaid Tryz.prog 400 os) #[.slice none 0 0,.slice none 0 0,.agg #[.int .u8 0,.int .u8 0]] 8 rfl (World.shaped_of_RefB (by kernel_rfl) (by kernel_rfl)) (by kernel_rfl) (by kernel_rfl) (by kernel_rfl) (door_met os _)) ?_
 intro W base args ds gs before hval hW _ hwt hX _
 refine law_contract (tys := [ty22, ty24, ty39]) (B := 4) laidOut rfl (by kernel_rfl) (by kernel_rfl) (by kernel_rfl) (by kernel_rfl) ?_ ?_ W (powT_ok (show laidMet Tryz.prog (_ :: _ :: ("internal/strconv.uint64pow10", Lib.tabData .u64 Lib.pow10Tab) :: _) W from hX)) base args ds gs before hval hW hwt
 ·intro ds hl
  have hl2:ds.length=3:=hl
  match ds,hl2 with
  |[d1,d2,d3],_=>exact ⟨rfl,rfl,rfl⟩
 ·intro dss h
  cases h with
  |cons h1 r=>
   cases r with
   |cons h2 r=>
    cases r with
    |cons h3 r=>
     cases r with
     |nil=>
      obtain ⟨t,e1,lt⟩:=sh22_ h1
      obtain ⟨l,e2,ll⟩:=sh24_ h2
      obtain ⟨p,e3,lp⟩:=sh39_ h3
      simp only[mkAll]
      rw[e1,e2,e3]
      exact takes_law t l p lt ll lp
set_option maxHeartbeats 8000000 in
theorem closed_facts:joinedFacts Tryz.prog 4 Tryz.f4 Rows.jetDerivesSpec Rows.jetDerivesRow=true:=by
 unfold joinedFacts
 simp only[Bool.and_eq_true]
 repeat' apply And.intro
 all_goals as_aux_lemma=>kernel_rfl
theorem row_holds:Rows.JetDerivesSaid :=
 OpenClaim.holds_of_wide 4 Tryz.f4 rfl rfl rfl rfl rfl rfl rfl ⟨rfl,rfl,rfl,rfl,rfl⟩ rfl rfl rfl rfl rfl (by kernel_rfl) Tryz.func4 closed_facts
  (of_decide_eq_true (by kernel_rfl)) (by unfold Func.isWrapper;rw[if_neg (by decide +kernel)];exact ⟨rfl,rfl⟩)
  (λos started H enc _=>law_lifted os started H enc)
theorem pm0:Tryz.f4.params[0]?=some 23:=by kernel_rfl
theorem pm1:Tryz.f4.params[1]?=some 24:=by kernel_rfl
theorem pm2:Tryz.f4.params[2]?=some 39:=by kernel_rfl
theorem pmz:Tryz.f4.params.size=3:=by kernel_rfl
theorem law_holds:Rows.JetDerivesCardSaid :=
 Claim7.holds_tied_plain_at .later [] [.data, .data, .data, .sentinel] true (true, "8a943098275a9e9b59cd3019c152170035276ea1179388a0ed1d334223600e06") false
  row_holds (λ_ h=>by cases h) (by kernel_rfl) (λ_ h=>by cases h) jetDerives_row_tie rfl ⟨rfl,rfl⟩ (by kernel_rfl) rfl
  (λf fn hf hfn=>by
   obtain rfl : f = 4 := Option.some.inj ((show Tryz.prog.funcNamed "fiducial/fiduciallaw07.JetDerives" = some 4 by kernel_rfl).symm.trans hf) |>.symm
   obtain rfl:fn=Tryz.f4:=(Option.some.inj (Tryz.func4.symm.trans hfn)).symm
   exact ⟨by kernel_rfl,λj t ht=>by
    rcases j with _ | _ | _ | j
    ·obtain rfl:=Option.some.inj (pm0.symm.trans ht)
     exact (show Tryz.prog.wantsStandIn 23=false by kernel_rfl)
    ·obtain rfl:=Option.some.inj (pm1.symm.trans ht)
     exact (show Tryz.prog.wantsStandIn 24=false by kernel_rfl)
    ·obtain rfl:=Option.some.inj (pm2.symm.trans ht)
     exact (show Tryz.prog.wantsStandIn 39=false by kernel_rfl)
    ·rw[Array.getElem?_eq_none (by rw[pmz];omega)] at ht
     cases ht⟩)
  (by kernel_rfl)
end Go.Proofs.YtckccjhflbljgaaGreatDoor
