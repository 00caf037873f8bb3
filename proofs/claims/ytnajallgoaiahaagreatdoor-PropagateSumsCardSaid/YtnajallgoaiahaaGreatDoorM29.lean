/- Part 29 of a proof: rules, plain facts, and functions walked. -/
import Derived.Test.YtnajallgoaiahaaGreatDoorM28
import Derived.Test.YtnajallgoaiahaaGreatDoorM10
import Derived.Test.YtnajallgoaiahaaGreatDoorM22
import Derived.Test.YtnajallgoaiahaaGreatDoorM18
set_option linter.all false
set_option maxRecDepth 4000
namespace Go.Proofs.YtnajallgoaiahaaGreatDoor
open Go.Fid
end Go.Proofs.YtnajallgoaiahaaGreatDoor
namespace Go.Fid
theorem zeroR_uns(x:jO):zeroR x=unsB x:=rfl
def unuB(x:kN):Bool:=if x.op=0 then (((x.a != 0)||(x.b != 0))||!(kM x.n)) else ((decide (vJ x.op<0)||(decide (vJ x.op<2)&&(x.b != 0)))||!(zeroR x.n))
theorem unu_iff{x:kN}:unuB x=true↔eI x:=by
 unfold unuB eI
 by_cases h:x.op=0
 ·rw[if_pos h,h]
  simp only[Bool.or_eq_true,bne_iff_ne,Bool.not_eq_true',ne_eq,not_true_eq_false,false_and,or_false,true_and,show vJ 0=0 by decide]
  constructor
  ·rintro ((h1 | h1) | h1)
   ·exact .inr (.inr (.inl h1))
   ·exact .inr (.inl ⟨by decide,h1⟩)
   ·exact .inr (.inr (.inr h1))
  ·rintro (h1 | ⟨_,h1⟩ | h1 | h1)
   ·exact absurd h1 (by decide)
   ·exact .inl (.inr h1)
   ·exact .inl (.inl h1)
   ·exact .inr h1
 ·rw[if_neg h]
  simp only[Bool.or_eq_true,Bool.and_eq_true,decide_eq_true_eq,bne_iff_ne,Bool.not_eq_true',ne_eq,h,not_false_eq_true,false_and,false_or,true_and,zeroR_uns]
  exact or_assoc
theorem unu_bad(x:kN):unuB x=badB x:=by
 cases h:unuB x with
 |true=>exact (aU.2 (unu_iff.1 h)).symm
 |false=>
  cases h2:badB x with
  |false=>rfl
  |true=>rw[unu_iff.2 (aU.1 h2)] at h;cases h
def orD(k:Int)(x:kN):Bool:=((decide (1≤vJ x.op)&&(decide (x.a<0)||decide (k≤x.a)))||((vJ x.op == 2)&&(decide (x.b<0)||decide (k≤x.b))))
theorem orD_eq(k:Int)(x:kN):orD k x=ordB k x:=by
 unfold orD ordB
 rcases eF x.op with ⟨e,_⟩ | ⟨e,_⟩ | ⟨e,_⟩ | ⟨e,_⟩<;>rw[e]<;>rfl
theorem NdR.a2{z:Int}{t:List kN}{k:Nat}(h:NdR z t k)(h0:1≤vJ (t.getD k tz).op):0≤(t.getD k tz).a∧(t.getD k tz).a.toNat<k∧1≤(yY t k).getD (t.getD k tz).a.toNat 0∧(yY t k).getD (t.getD k tz).a.toNat 0≤4096:=by
 have h2:=h.ord
 unfold eU at h2
 have ha:(t.getD k tz).a.toNat<k:=by omega
 exact ⟨by omega,ha,sz_rng h.tm.up _ ha⟩
theorem NdR.b2{z:Int}{t:List kN}{k:Nat}(h:NdR z t k)(h0:vJ (t.getD k tz).op=2):0≤(t.getD k tz).b∧(t.getD k tz).b.toNat<k∧1≤(yY t k).getD (t.getD k tz).b.toNat 0∧(yY t k).getD (t.getD k tz).b.toNat 0≤4096:=by
 have h2:=h.ord
 unfold eU at h2
 have ha:(t.getD k tz).b.toNat<k:=by omega
 exact ⟨by omega,ha,sz_rng h.tm.up _ ha⟩
theorem NdR.nx{z:Int}{t:List kN}{k:Nat}(h:NdR z t k){v:Int}(hv:v=eM (yY t k) (t.getD k tz))(hb:¬ 4096<v):eN z t (k+1)∧yY t k++[v]=yY t (k+1):=by
 rw[hv] at hb
 exact ⟨szUp_s h.tm.up (nd_y h.bad (by rw[uU];exact h.ord) h.rng hb),by rw[hv];rfl⟩
theorem NdR.bg{z:Int}{t:List kN}{k:Nat}(h:NdR z t k){v:Int}(hv:v=eM (yY t k) (t.getD k tz))(hb:4096<v):mP z t=3∧tmL z t=[]:=by
 rw[hv] at hb
 have e:=nd_3 (z:=z) (ss:=yY t k) h.bad (by rw[uU];exact h.ord) h.rng hb
 have:=tm_no h.tm.z0 h.tm.kl h.tm.tl h.tm.up (by rw[e];decide)
 rwa [e] at this
theorem kd_7{o:Int}(h:o=7):vJ o=1:=by rw[h];decide
theorem szD_c{ss:List Int}{x:kN}(hb:¬ eI x)(h:¬ 1≤vJ x.op):(1:Int)=eM ss x:=szN_c (by unfold eI at hb;omega)
theorem szD_n{ss:List Int}{x:kN}(h:1≤vJ x.op)(h7:x.op≠7)(h2:vJ x.op≠2):ss.getD x.a.toNat 0=eM ss x:=szN_n (by omega) (by rcases eF x.op with ⟨e,f⟩ | ⟨e,f⟩ | ⟨e,f⟩ | ⟨e,f⟩<;>omega) rfl
theorem szD_q{ss:List Int}{x:kN}(h:1≤vJ x.op)(h7:x.op=7):2*ss.getD x.a.toNat 0=eM ss x:=szN_q (by omega) h7 rfl
theorem szD_b{ss:List Int}{x:kN}(h2:vJ x.op=2):ss.getD x.a.toNat 0+ss.getD x.b.toNat 0=eM ss x:=szN_b (by omega) (by intro h;rw[h] at h2;revert h2;decide) (by intro h;rw[h] at h2;revert h2;decide) rfl rfl
theorem szD_all{ss:List Int}{x:kN}(hb:¬ eI x){v w:Int}(h1:(¬ 1≤vJ x.op→v=1)∧(1≤vJ x.op→v=ss.getD x.a.toNat 0))(h2:(x.op=7→w=2*v)∧(x.op≠7→w=v)) :
  (vJ x.op=2→w+ss.getD x.b.toNat 0=eM ss x)∧(vJ x.op≠2→w=eM ss x):=by
 refine ⟨fun hk=>?_,fun hk=>?_⟩
 ·rw[h2.2 (fun e=>by have:=kd_7 e;omega),h1.2 (by omega)];exact szD_b hk
 ·by_cases h7:x.op=7
  ·have:=kd_7 h7
   rw[h2.1 h7,h1.2 (by omega)];exact szD_q (by omega) h7
  ·rw[h2.2 h7]
   by_cases hk1:1≤vJ x.op
   ·rw[h1.2 hk1];exact szD_n hk1 h7 hk
   ·rw[h1.1 hk1];exact szD_c hb hk1
theorem tm_end2{z:Int}{t:List kN}{k:Nat}(h:(decide (z<0)||decide (64<z))=false)(h0:((t.length:Nat):Int)≠0)(h4:¬ 400<((t.length:Nat):Int))(hk:k≤t.length)(h5:¬ ((k:Nat):Int)<((t.length:Nat):Int))(hu:eN z t k):mP z t=0∧tmL z t=yY t k:=by
 obtain rfl:k=t.length:=by omega
 exact tm_yes (zb_f h) (by omega) (by omega) hu
theorem NdR.op{z:Int}{t:List kN}{k:Nat}(h:NdR z t k):(t.getD k tz).op=0∨(t.getD k tz).op=1∨(t.getD k tz).op=2∨(t.getD k tz).op=3∨(t.getD k tz).op=4∨(t.getD k tz).op=5∨(t.getD k tz).op=6∨(t.getD k tz).op=7:=by
 have:=h.kd
 rcases eF (t.getD k tz).op with ⟨e,f⟩ | ⟨e,f⟩ | ⟨e,f⟩ | ⟨e,f⟩<;>omega
theorem NdR.un{z:Int}{t:List kN}{k:Nat}(h:NdR z t k)(h1:(t.getD k tz).op=6∨(t.getD k tz).op=7):0≤(t.getD k tz).a∧(t.getD k tz).a<k:=by
 have e:vJ (t.getD k tz).op=1:=by rcases h1 with h1 | h1<;>rw[h1]<;>decide
 have a:=h.a2 (by omega)
 omega
structure VEnd (xs:List Rat) (t:List kN) (k0:Nat):Prop where
 c0:mP ((xs.length:Nat):Int) t=0
 hk:k0≤t.length
 up:VUp xs t k0
 en:k0<t.length→(t.getD k0 tz).op=5∧(vU xs t k0).getD (t.getD k0 tz).b.toNat 0=0
theorem VRun.fin{xs:List Rat}{t:List kN}(h:VRun xs t):VEnd xs t t.length:=⟨h.c0,Nat.le_refl _,h.up,fun h=>absurd h (Nat.lt_irrefl _)⟩
theorem VFail.fin{xs:List Rat}{t:List kN}{k:Nat}(h:VFail xs t k):VEnd xs t k:=⟨h.c0,Nat.le_of_lt h.hk,h.up,fun _=>⟨h.op,h.z⟩⟩
def vlR(xs:List Rat)(t:List kN)(k:Nat):jO:=if k=t.length then jP (lastV xs t) else zr
def vlC(t:List kN)(k:Nat):Int:=if k=t.length then ((0:Nat):Int) else ((14:Nat):Int)
theorem VEnd.no2{xs:List Rat}{t:List kN}{k:Nat}(h:VEnd xs t k)(hk:k<t.length):vlR xs t k=zr∧vlC t k=((14:Nat):Int):=⟨if_neg (by omega),if_neg (by omega)⟩
theorem VEnd.eq{xs:List Rat}{t:List kN}{k0 k:Nat}(h:VEnd xs t k0)(hk:k≤k0)(hn:decide (k<k0)=false):k0=k:=by
 have:=of_decide_eq_false hn
 omega
theorem VEnd.at{xs:List Rat}{t:List kN}{k0 k:Nat}(h:VEnd xs t k0)(hk:k≤k0)(hl:k<t.length)(hn:decide (k<k0)=false):(vU xs t k).getD (t.getD k tz).b.toNat 0=0:=by
 have e:=h.eq hk hn
 subst e
 exact (h.en hl).2
theorem VEnd.no{xs:List Rat}{t:List kN}{k0 k:Nat}(h:VEnd xs t k0)(hk:k≤k0)(hl:k<t.length)(hn:decide (k<k0)=false):vlR xs t k0=zr∧vlC t k0=((14:Nat):Int):=by
 have e:=h.eq hk hn
 subst e
 exact h.no2 hl
theorem VEnd.lt{xs:List Rat}{t:List kN}{k0 k:Nat}(h:VEnd xs t k0)(hk:k≤k0)(hl:k<t.length)(ho:(t.getD k tz).op≠5):k<k0:=by
 rcases Nat.lt_or_ge k k0 with h1 | h1
 ·exact h1
 ·obtain rfl:k=k0:=by omega
  exact absurd (h.en hl).1 ho
structure CrLaw (xs:List Rat) (ls:List (List Int)) (n:Nat):Prop where
 ok:CrOk ls n
 hx:∀ q∈xs,QL q 3
 hl:xs.length=9
 hb:∀ a∈ls,∀ z∈a,¬ (8<z∧z<64)
theorem CrLaw.le{xs:List Rat}{ls:List (List Int)}{n:Nat}(h:CrLaw xs ls n){a:List Int}(ha:a∈ls):okL ((xs.length:Nat):Int) n a:=h.ok.le ha (h.hb a ha) (by rw[h.hl];rfl)
end Go.Fid
namespace Go.Proofs.YtnajallgoaiahaaGreatDoor
open Go.Fid
theorem cb76:callB Tryz.prog 76=true:=by kernel_rfl
theorem cb133:callB Tryz.prog 133=true:=by kernel_rfl
theorem u_uns(x:kN)(hx:mN x.n (qJ x.n) 1048576):jQ Tryz.prog 133 [(kK x)] (.val (.bool ((unuB x)))):=by
 refine jG Tryz.func133 rfl cb133 rfl ?_
 show qK _ _ _ _ ⟨[(0,(.d (kK x)))],[]⟩
 refine jB<|kx [(1,(.ref 0 0))] [(0,some (bx (kK x)))] (zN (vN 0)<|zM<|zZ) ?_
 refine jB<|kx [(3,(vi (vJ x.op)))] [] (zE (kZ yK)<|zR (qS eP)<|zE (jZ (r_kids x.op))<|zM<|zZ) ?_
 refine jB<|jB<|kx [(9,(vb (x.op == 0)))] [] (zE (kZ yK)<|zR (qS eP)<|zE yQ<|zZ) ?_
 refine jF (b:=(x.op == 0)) rfl (fun h1=>?_) (fun h1=>?_)
 ·replace h1:=eq_of_beq h1
  refine jB<|kx [(2,(vb (((x.a != 0)||(x.b != 0))||!(kM x.n))))] [] ?_ ?_
  ·refine zE (kZ vZ)<|zR (qS hP)<|zE cM<|zE (oV (vb (x.a != 0)) (kV (by kernel_rfl)))<|?_
   rcases hb2:(x.a != 0) with _ | _
   ·replace hb2:=bne_eq_false_iff_eq.1 hb2
    refine zE (kZ yJ)<|zR (qS hP)<|zE cM<|zE cL<|zE (oV (vb (false||(x.b != 0))) (kV (by kernel_rfl)))<|?_
    rcases hb3:(false||(x.b != 0)) with _ | _
    ·exact zE (kZ dR)<|zR (kO jS)<|zE (jZ (iA x.n (qJ x.n) (jR hx (by decide))))<|zE nF<|zE cL<|zM<|zZ
    ·exact zK<|zK<|zK<|zK<|zE xS<|zM<|zZ
   ·replace hb2:=bne_iff_ne.1 hb2
    exact zK<|zK<|zK<|zE xS<|zM<|zK<|zK<|zK<|zK<|zE xS<|zM<|zZ
  refine jE ⟨_,(.tmp (d:=(.val (.bool ((((x.a != 0)||(x.b != 0))||!(kM x.n)))))) rfl .nil),?_⟩
  rw[show unuB x=_ from if_pos h1];rfl
 ·replace h1:=ne_of_beq_false h1
  refine jD<|jB<|kx [(2,(vb ((decide ((vJ x.op)<0)||(decide ((vJ x.op)<2)&&(x.b != 0)))||!(zeroR x.n))))] [] ?_ ?_
  ·refine zM<|zE xT<|zE (oV (vb (decide ((vJ x.op)<0))) (kV (by kernel_rfl)))<|?_
   rcases hb4:(decide ((vJ x.op)<0)) with _ | _
   ·replace hb4:=vM hb4
    refine zM<|zE xT<|zE (oV (vb (decide ((vJ x.op)<2))) (kV (by kernel_rfl)))<|?_
    rcases hb5:(decide ((vJ x.op)<2)) with _ | _
    ·replace hb5:=vM hb5
     exact zK<|zK<|zK<|zE zG<|zE zG<|zM<|zE (kZ dR)<|zR (kO jS)<|zE (jZ (g_zero x.n (qJ x.n) (jR hx (by decide))))<|zE nF<|zE cL<|zM<|zZ
    ·replace hb5:=vI hb5
     refine zE (kZ yJ)<|zR (qS hP)<|zE cM<|zE fM<|zE cL<|zE (oV (vb (false||(true&&(x.b != 0)))) (kV (by kernel_rfl)))<|?_
     rcases hb6:(false||(true&&(x.b != 0))) with _ | _
     ·exact zE (kZ dR)<|zR (kO jS)<|zE (jZ (g_zero x.n (qJ x.n) (jR hx (by decide))))<|zE nF<|zE cL<|zM<|zZ
     ·exact zK<|zK<|zK<|zK<|zE xS<|zM<|zZ
   ·replace hb4:=vI hb4
    exact zK<|zK<|zK<|zK<|zK<|zK<|zK<|zE xS<|zM<|zK<|zK<|zK<|zK<|zE xS<|zM<|zZ
  refine jE ⟨_,(.tmp (d:=(.val (.bool (((decide ((vJ x.op)<0)||(decide ((vJ x.op)<2)&&(x.b != 0)))||!(zeroR x.n)))))) rfl .nil),?_⟩
  rw[show unuB x=_ from if_neg h1];rfl
theorem u_sizes(t:List kN)(ht:xK 1048576 t)(z:Int):jQ Tryz.prog 76 [(.sl 83 7 (List.map kK t)),(.val (.int .i64 (z)))] (.tup [(.sl 3 1 (List.map qA (tmL z t))),(.val (.int .i64 ((((mP z t):Nat):Int))))]):=by
 refine jG Tryz.func76 rfl cb76 rfl ?_
 show qK _ _ _ _ ⟨[(0,(vl 83 7 kK t)),(1,(vi z))],[]⟩
 refine jB<|kx [] [] (zE (dZ 3 1)<|zM<|zZ) ?_
 refine jB<|jB<|kx [(16,(vb (decide (z<0)||decide (64<z))))] [] ?_ ?_
 ·refine zM<|zE xT<|zE (oV (vb (decide (z<0))) (kV (by kernel_rfl)))<|?_
  rcases hb1:(decide (z<0)) with _ | _
  ·replace hb1:=vM hb1
   exact zM<|zE mT<|zE cL<|zZ
  ·replace hb1:=vI hb1
   exact zK<|zK<|zE xS<|zZ
 refine jF (b:=(decide (z<0)||decide (64<z))) rfl (fun h2=>?_) (fun h2=>?_)
 ·refine jB<|kx [(4,(vl 3 1 qA [])),(5,(jV 2))] [] (zE (dZ 3 1)<|zM<|zZ) ?_
  refine jE ⟨_,(.tmp (d:=(.sl 3 1 (List.map qA []))) rfl (.tmp (d:=(.val (.int .i64 (2)))) rfl .nil)),?_⟩
  have he:=zb_t (t:=t) h2
  rw[he.1,he.2];rfl
 ·have hz0:=h2
  refine jD<|jB<|jB<|kx [(19,(vb (((t.length:Nat):Int) == 0)))] [] (zM<|zE (vC hH)<|zE yQ<|zZ) ?_
  refine jF (b:=(((t.length:Nat):Int) == 0)) rfl (fun h3=>?_) (fun h3=>?_)
  ·replace h3:=eq_of_beq h3
   refine jB<|kx [(4,(vl 3 1 qA [])),(5,(jV 1))] [] (zE (dZ 3 1)<|zM<|zZ) ?_
   refine jE ⟨_,(.tmp (d:=(.sl 3 1 (List.map qA []))) rfl (.tmp (d:=(.val (.int .i64 (1)))) rfl .nil)),?_⟩
   have he:=tm_l0 hz0 (show t.length=0 by omega)
   rw[he.1,he.2];rfl
  ·replace h3:=ne_of_beq_false h3
   have h0:=h3
   refine jD<|jB<|jB<|kx [(22,(vb (decide (400<((t.length:Nat):Int)))))] [] (zM<|zE (vC hH)<|zE mT<|zZ) ?_
   refine jF (b:=decide (400<((t.length:Nat):Int))) rfl (fun h4=>?_) (fun h4=>?_)
   ·replace h4:=vI h4
    refine jB<|kx [(4,(vl 3 1 qA [])),(5,(jV 3))] [] (zE (dZ 3 1)<|zM<|zZ) ?_
    refine jE ⟨_,(.tmp (d:=(.sl 3 1 (List.map qA []))) rfl (.tmp (d:=(.val (.int .i64 (3)))) rfl .nil)),?_⟩
    have he:=tm_lb hz0 (show 400<t.length by omega)
    rw[he.1,he.2];rfl
   ·replace h4:=vM h4
    have h400:=h4
    refine jD<|jB<|kx [(6,(.own 0 3 1 0))] [(0,some (bm qA []))] (zN (oBo 0 nP ze3 zo3)<|zM<|zZ) ?_
    refine jB<|jB<|kx [(24,(vl 83 7 kK t)),(25,(jV t.length)),(26,(jV 0))] [] (zM<|zE (vC hH)<|zM<|zZ) ?_
    refine jH<|kL (α:=Nat × List Int) (fun (k,o)=>⟨[(1,(vi z)),(6,(.own 0 3 1 o.length)),(24,(vl 83 7 kK t)),(25,(jV t.length)),(26,(jV k))],[(0,some (bm qA o))]⟩) (fun (k,o)=>k≤t.length∧o=yY t k∧eN z t k) (fun (k,o)=>t.length-k) (0,[]) wk ⟨Nat.zero_le _,rfl,szUp_0 _ _⟩ ?_
    rintro ⟨k,o⟩ ⟨hk,ho,hu⟩
    have hol:o.length=k:=by rw[ho];exact uU _ _
    refine jB<|kx [(27,(vb (decide (((k:Nat):Int)<((t.length:Nat):Int)))))] [] (zE xT<|zZ) ?_
    refine jB<|jF rfl (fun h5=>?_) (fun h5=>?_)
    ·replace h5:=vI h5
     have hR:=tmr hz0 h5 h400 hu
     have hkl:=hR.kl
     refine jD<|jB<|jH<|jB<|kx [(7,(jV k)),(8,(.ref 1 0))] [(1,some (bx (kK (t.getD k tz))))] (zM<|zE (yL hH k (tz:kN))<|zE (nA aV)<|zH (uB 1 bE zo83)<|zM<|zT (qD aV)<|zZ) ?_
     refine jB<|jB<|kx [(32,(vb (unuB (t.getD k tz))))] [] (zR (kO aV)<|zE (jZ (u_uns (t.getD k tz) (tn_get ht (show k<t.length by omega))))<|zZ) ?_
     refine jF (b:=(unuB (t.getD k tz))) rfl (fun h6=>?_) (fun h6=>?_)
     ·refine jB<|kx [(4,(vl 3 1 qA [])),(5,(jV 1))] [] (zE (dZ 3 1)<|zM<|zZ) ?_
      refine jE ⟨_,(.tmp (d:=(.sl 3 1 (List.map qA []))) rfl (.tmp (d:=(.val (.int .i64 (1)))) rfl .nil)),?_⟩
      have he:=hR.bad (by rw[← unu_bad];exact h6)
      rw[he.1,he.2];rfl
     ·have hB:badB (t.getD k tz)=false:=by rw[← unu_bad];exact h6
      refine jD<|jB<|kx [(9,(vi (vJ ((t.getD k tz).op))))] [] (zE (kZ yK)<|zR (qS eP)<|zE (jZ (r_kids ((t.getD k tz).op)))<|zM<|zZ) ?_
      refine jB<|jB<|kx [(63,(vb ((decide (1≤(vJ ((t.getD k tz).op)))&&(decide ((t.getD k tz).a<0)||decide (((k:Nat):Int)≤(t.getD k tz).a)))||(((vJ ((t.getD k tz).op)) == 2)&&(decide ((t.getD k tz).b<0)||decide (((k:Nat):Int)≤(t.getD k tz).b))))))] [] ?_ ?_
      ·refine zM<|zE oGe<|zE (oV (vb (decide (1≤(vJ ((t.getD k tz).op))))) (kV (by kernel_rfl)))<|?_
       rcases hb7:(decide (1≤(vJ ((t.getD k tz).op)))) with _ | _
       ·replace hb7:=vM hb7
        refine zK<|zK<|zK<|zK<|zK<|zK<|zK<|zK<|zK<|zE zG<|zM<|zM<|zE yQ<|zE (oV (vb ((vJ ((t.getD k tz).op)) == 2)) (kV (by kernel_rfl)))<|?_
        rcases hb8:((vJ ((t.getD k tz).op)) == 2) with _ | _
        ·replace hb8:=ne_of_beq_false hb8
         exact zK<|zK<|zK<|zK<|zK<|zK<|zK<|zK<|zK<|zE zG<|zE zG<|zZ
        ·replace hb8:=eq_of_beq hb8
         refine zE (kZ yJ)<|zR (qS hP)<|zE xT<|zE (oV (vb (decide ((t.getD k tz).b<0))) (kV (by kernel_rfl)))<|?_
         rcases hb9:(decide ((t.getD k tz).b<0)) with _ | _
         ·replace hb9:=vM hb9
          exact zE (kZ yJ)<|zR (qS hP)<|zM<|zE oGe<|zE cL<|zE fM<|zE cL<|zZ
         ·replace hb9:=vI hb9
          exact zK<|zK<|zK<|zK<|zE xS<|zE xS<|zE zG<|zZ
       ·replace hb7:=vI hb7
        refine zE (kZ vZ)<|zR (qS hP)<|zE xT<|zE (oV (vb (decide ((t.getD k tz).a<0))) (kV (by kernel_rfl)))<|?_
        rcases hb10:(decide ((t.getD k tz).a<0)) with _ | _
        ·replace hb10:=vM hb10
         refine zE (kZ vZ)<|zR (qS hP)<|zM<|zE oGe<|zE cL<|zE fM<|zE (oV (vb (true&&(false||decide (((k:Nat):Int)≤(t.getD k tz).a)))) (kV (by kernel_rfl)))<|?_
         rcases hb11:(decide (((k:Nat):Int)≤(t.getD k tz).a)) with _ | _
         ·replace hb11:=vM hb11
          refine zM<|zE yQ<|zE (oV (vb ((vJ ((t.getD k tz).op)) == 2)) (kV (by kernel_rfl)))<|?_
          rcases hb12:((vJ ((t.getD k tz).op)) == 2) with _ | _
          ·replace hb12:=ne_of_beq_false hb12
           exact zK<|zK<|zK<|zK<|zK<|zK<|zK<|zK<|zK<|zE zG<|zE zG<|zZ
          ·replace hb12:=eq_of_beq hb12
           refine zE (kZ yJ)<|zR (qS hP)<|zE xT<|zE (oV (vb (decide ((t.getD k tz).b<0))) (kV (by kernel_rfl)))<|?_
           rcases hb13:(decide ((t.getD k tz).b<0)) with _ | _
           ·replace hb13:=vM hb13
            exact zE (kZ yJ)<|zR (qS hP)<|zM<|zE oGe<|zE cL<|zE fM<|zE cL<|zZ
           ·replace hb13:=vI hb13
            exact zK<|zK<|zK<|zK<|zE xS<|zE xS<|zE zG<|zZ
         ·replace hb11:=vI hb11
          exact zK<|zK<|zK<|zK<|zK<|zK<|zK<|zK<|zK<|zK<|zK<|zK<|zK<|zE xS<|zZ
        ·replace hb10:=vI hb10
         exact zK<|zK<|zK<|zK<|zE xS<|zE xS<|zM<|zK<|zK<|zK<|zK<|zK<|zK<|zK<|zK<|zK<|zK<|zK<|zK<|zK<|zE xS<|zZ
      refine jF rfl (fun h14=>?_) (fun h14=>?_)
      ·refine jB<|kx [(4,(vl 3 1 qA [])),(5,(jV 5))] [] (zE (dZ 3 1)<|zM<|zZ) ?_
       refine jE ⟨_,(.tmp (d:=(.sl 3 1 (List.map qA []))) rfl (.tmp (d:=(.val (.int .i64 (5)))) rfl .nil)),?_⟩
       have he:=hR.ord hB (by rw[← orD_eq];exact h14)
       rw[he.1,he.2];rfl
      ·have hO:ordB ((k:Nat):Int) (t.getD k tz)=false:=by rw[← orD_eq];exact h14
       refine jD<|jB<|jB<|kx [(77,(vb (((t.getD k tz).op == 1)&&(decide ((t.getD k tz).a<0)||decide (z≤(t.getD k tz).a)))))] [] ?_ ?_
       ·refine zE (kZ yK)<|zR (qS eP)<|zE yQ<|zE (oV (vb ((t.getD k tz).op == 1)) (kV (by kernel_rfl)))<|?_
        rcases hb15:((t.getD k tz).op == 1) with _ | _
        ·replace hb15:=ne_of_beq_false hb15
         exact zK<|zK<|zK<|zK<|zK<|zK<|zK<|zK<|zK<|zE zG<|zZ
        ·replace hb15:=eq_of_beq hb15
         refine zE (kZ vZ)<|zR (qS hP)<|zE xT<|zE (oV (vb (decide ((t.getD k tz).a<0))) (kV (by kernel_rfl)))<|?_
         rcases hb16:(decide ((t.getD k tz).a<0)) with _ | _
         ·replace hb16:=vM hb16
          exact zE (kZ vZ)<|zR (qS hP)<|zM<|zE oGe<|zE cL<|zE fM<|zZ
         ·replace hb16:=vI hb16
          exact zK<|zK<|zK<|zK<|zE xS<|zE xS<|zZ
       refine jF rfl (fun h17=>?_) (fun h17=>?_)
       ·refine jB<|kx [(4,(vl 3 1 qA [])),(5,(jV 2))] [] (zE (dZ 3 1)<|zM<|zZ) ?_
        refine jE ⟨_,(.tmp (d:=(.sl 3 1 (List.map qA []))) rfl (.tmp (d:=(.val (.int .i64 (2)))) rfl .nil)),?_⟩
        have he:=hR.rng hB hO h17
        rw[he.1,he.2];rfl
       ·have hN:=ndr hR hB hO h17
        refine jD<|jB<|kx [(10,(jV 1))] [] (zM<|zZ) ?_
        refine pwp_meet (α:=Int) (fun v=>⟨[(1,(vi z)),(6,(.own 0 3 1 o.length)),(8,(.ref 1 0)),(9,(vi (vJ ((t.getD k tz).op)))),(10,(vi v)),(24,(vl 83 7 kK t)),(25,(jV t.length)),(26,(jV k))],[(0,some (bm qA o)),(1,some (bx (kK (t.getD k tz))))]⟩) (fun v=>((¬ 1≤vJ (t.getD k tz).op→v=1)∧(1≤vJ (t.getD k tz).op→v=(o.getD (((t.getD k tz).a).toNat) 0)))∧1≤v∧v≤4096) ?_ ?_
        ·refine jB<|kx [(79,(vb (decide (1≤(vJ ((t.getD k tz).op))))))] [] (zM<|zE oGe<|zZ) ?_
         refine jF (b:=decide (1≤(vJ ((t.getD k tz).op)))) rfl (fun h18=>?_) (fun h18=>?_)
         ·replace h18:=vI h18
          have hka:=h18
          obtain ⟨a1,a2,a3,a4⟩:=hN.a2 h18
          rw[← ho] at a3 a4
          refine kx [(10,(vi (o.getD (((t.getD k tz).a).toNat) 0)))] [] (zM<|zE (kZ vZ)<|zR (qS hP)<|zE (aM nP (((t.getD k tz).a).toNat))<|zR (oLp hP (((t.getD k tz).a).toNat) (0:Int))<|zM<|zZ) ?_
          exact met (o.getD (((t.getD k tz).a).toNat) 0) wk (⟨⟨fun hx=>absurd hka hx,fun _=>rfl⟩,a3,a4⟩)
         ·replace h18:=vM h18
          have hka:=h18
          refine jD ?_
          exact met 1 wk (⟨⟨fun _=>rfl,fun hx=>absurd hx hka⟩,by decide,by decide⟩)
        ·rintro v ⟨hv1,hv2,hv3⟩
         refine pwp_meet (α:=Int) (fun w=>⟨[(1,(vi z)),(6,(.own 0 3 1 o.length)),(8,(.ref 1 0)),(9,(vi (vJ ((t.getD k tz).op)))),(10,(vi w)),(24,(vl 83 7 kK t)),(25,(jV t.length)),(26,(jV k))],[(0,some (bm qA o)),(1,some (bx (kK (t.getD k tz))))]⟩) (fun w=>(((t.getD k tz).op=7→w=2*v)∧((t.getD k tz).op≠7→w=v))∧1≤w∧w≤8192) ?_ ?_
         ·refine jB<|kx [(87,(vb ((t.getD k tz).op == 7)))] [] (zE (kZ yK)<|zR (qS eP)<|zE yQ<|zZ) ?_
          refine jF (b:=((t.getD k tz).op == 7)) rfl (fun h19=>?_) (fun h19=>?_)
          ·replace h19:=eq_of_beq h19
           refine kx [(10,(vi (2*v)))] [] (zM<|zE (zMl (2*v))<|zM<|zZ) ?_
           exact met (2*v) wk (⟨⟨fun _=>rfl,fun hx=>absurd h19 hx⟩,by omega,by omega⟩)
          ·replace h19:=ne_of_beq_false h19
           refine jD ?_
           exact met v wk (⟨⟨fun hx=>absurd hx h19,fun _=>rfl⟩,hv2,by omega⟩)
         ·rintro w ⟨hw1,hw2,hw3⟩
          refine pwp_meet (α:=Int) (fun u=>⟨[(1,(vi z)),(6,(.own 0 3 1 o.length)),(10,(vi u)),(24,(vl 83 7 kK t)),(25,(jV t.length)),(26,(jV k))],[(0,some (bm qA o))]⟩) (fun u=>u=eM (yY t k) (t.getD k tz)) ?_ ?_
          ·refine jB<|kx [(91,(vb ((vJ ((t.getD k tz).op)) == 2)))] [] (zM<|zE yQ<|zZ) ?_
           refine jF (b:=((vJ ((t.getD k tz).op)) == 2)) rfl (fun h20=>?_) (fun h20=>?_)
           ·replace h20:=eq_of_beq h20
            have hk2:=h20
            obtain ⟨b1,b2,b3,b4⟩:=hN.b2 h20
            rw[← ho] at b3 b4
            refine kx [(10,(vi (w+(o.getD (((t.getD k tz).b).toNat) 0))))] [] (zM<|zM<|zE (kZ yJ)<|zR (qS hP)<|zE (aM nP (((t.getD k tz).b).toNat))<|zR (oLp hP (((t.getD k tz).b).toNat) (0:Int))<|zE (zAd (w+(o.getD (((t.getD k tz).b).toNat) 0)))<|zM<|zZ) ?_
            exact met (w+(o.getD (((t.getD k tz).b).toNat) 0)) wk (by rw[ho];rw[ho] at hv1;exact (szD_all hN.bad hv1 hw1).1 hk2)
           ·replace h20:=ne_of_beq_false h20
            refine jD ?_
            exact met w wk (by rw[ho] at hv1;exact (szD_all hN.bad hv1 hw1).2 h20)
          ·rintro u hv
           refine jB<|jB<|kx [(100,(vb (decide (4096<u))))] [] (zM<|zE mT<|zZ) ?_
           refine jF (b:=decide (4096<u)) rfl (fun h21=>?_) (fun h21=>?_)
           ·replace h21:=vI h21
            refine jB<|kx [(4,(vl 3 1 qA [])),(5,(jV 3))] [] (zE (dZ 3 1)<|zM<|zZ) ?_
            refine jE ⟨_,(.tmp (d:=(.sl 3 1 (List.map qA []))) rfl (.tmp (d:=(.val (.int .i64 (3)))) rfl .nil)),?_⟩
            have he:=hN.bg hv h21
            rw[he.1,he.2];rfl
           ·replace h21:=vM h21
            refine jD<|kf [(6,(.own 0 3 1 ((o++[u]).length)))] [(0,some (bm qA (o++[u])))] (zM<|zM<|zE (dG nP ze3 zo3)<|zA qA o [u] rfl nP ze3 by3<|zM<|zF) ?_
            refine kx [(26,(jV (k+1)))] [] (zE (vY (k+1))<|zM<|zZ) ?_
            exact ⟨(k+1,o++[u]),wk,(by obtain ⟨q1,q2⟩:=hN.nx hv h21;exact ⟨by omega,by rw[← q2,ho],q1⟩),(by first|omega|(dsimp only;omega))⟩
    ·replace h5:=vM h5
     refine kJ<|jB<|kx [(4,(.own 0 3 1 o.length)),(5,(jV 0))] [] (zM<|zM<|zM<|zZ) ?_
     refine kW (vX (t:=4) (k:=0) (es:=List.map qA o) rfl rfl (uS _ _ (fun _=>rfl)) (uT _ _ rfl) (vS _ _ (fun _=>rfl) rfl)) ?_
     refine jE ⟨_,(.tmp (d:=(.sl 3 1 (List.map qA o))) rfl (.tmp (d:=(.val (.int .i64 (0)))) rfl .nil)),?_⟩
     have he:=tm_end2 hz0 h0 h400 hk h5 hu
     rw[he.1,he.2,← ho];rfl
theorem cb89:callB Tryz.prog 89=true:=by kernel_rfl
theorem cb149:callB Tryz.prog 149=true:=by kernel_rfl
theorem i_makeO(x:jO)(p:Rat)(hx:mN x p 17179869184)(y:jO)(q:Rat)(hy:mN y q 17179869184)(hv:(kM x&&kM y)=true)(hc:p≤q):jQ Tryz.prog 149 [(jK x),(jK y)] (.tup [(jI (jW.mk x y)),(.val (.int .i64 (0)))]):=by
 refine jG Tryz.func149 rfl cb149 rfl ?_
 show qK _ _ _ _ ⟨[(0,(.d (jK x))),(1,(.d (jK y)))],[]⟩
 refine jB<|kx [(2,(.ref 0 0)),(3,(.ref 1 0)),(4,(.ref 2 0))] [(0,some (bx (jK x))),(1,some (bx (jK y))),(2,some (bx (jI (jW.mk qM qM))))] (zN (vN 0)<|zN (vN 1)<|zN (uB 2 uC uH)<|zM<|zZ) ?_
 refine jB<|jB<|kx [(13,(vb (!(kM x)||!(kM y))))] [] ?_ ?_
 ·refine zR (kO jS)<|zE (jZ (cA x p hx))<|zE nF<|zE (oV (vb (!(kM x))) (kV (by kernel_rfl)))<|?_
  rcases hb1:(!(kM x)) with _ | _
  ·exact zR (kO jS)<|zE (jZ (cA y q hy))<|zE nF<|zE cL<|zZ
  ·exact zK<|zK<|zK<|zE xS<|zZ
 refine jF (b:=(!(kM x)||!(kM y))) rfl (fun h2=>?_) (fun h2=>?_)
 ·exfalso;revert h2 hv;cases kM x<;>cases kM y<;>simp
 ·refine jD<|jB<|jB<|kx [(18,(vb (decide (0<(yW p q)))))] [] (zR (kO jS)<|zR (kO jS)<|zE (jZ (cK x y p q hx hy))<|zE mT<|zZ) ?_
  refine jF (b:=decide (0<(yW p q))) rfl (fun h3=>?_) (fun h3=>?_)
  ·replace h3:=vI h3
   exact absurd (cmpQ_gt.1 h3) (Rat.not_lt.2 hc)
  ·replace h3:=vM h3
   refine jD<|jB<|kx [(5,(jV 0))] [(2,some (bx (jI (jW.mk x y))))] (zR (kO jS)<|zR (kO jS)<|zE (bB pl61 uC uH)<|zT (qD kF)<|zM<|zZ) ?_
   refine jE ⟨_,(kP (cs:=(bx (jI (jW.mk x y)))) (d:=(jI (jW.mk x y))) rfl rfl kF rfl rfl (.tmp (d:=(.val (.int .i64 (0)))) rfl .nil)),?_⟩
   rfl
end Go.Proofs.YtnajallgoaiahaaGreatDoor
namespace Go.Fid
def rootN(x:Nat):Nat:=Nat.rec (motive:=fun _=>Nat) 0 (fun _ r=>if (r+1)*(r+1)≤x then r+1 else r) x
theorem rootN_go(x:Nat):∀ k,let r:Nat:=Nat.rec (motive:=fun _=>Nat) 0 (fun _ r=>if (r+1)*(r+1)≤x then r+1 else r) k;r*r≤x∧(x<(r+1)*(r+1)∨r=k)
 |0=>⟨Nat.zero_le _,.inr rfl⟩
 |k+1=>by
  obtain ⟨h1,h2⟩:=rootN_go x k
  dsimp only at h1 h2 ⊢
  generalize hr:(Nat.rec (motive:=fun _=>Nat) 0 (fun _ r=>if (r+1)*(r+1)≤x then r+1 else r) k:Nat)=r at h1 h2
  split
  ·rename_i h
   refine ⟨h,?_⟩
   rcases h2 with h2 | h2
   ·omega
   ·right;omega
  ·rename_i h;exact ⟨h1,.inl (by omega)⟩
theorem rootN_le(x:Nat):rootN x*rootN x≤x:=(rootN_go x x).1
theorem lt_rootN(x:Nat):x<(rootN x+1)*(rootN x+1):=by
 rcases (rootN_go x x).2 with h | h
 ·exact h
 ·have h:rootN x=x:=h
  rw[h]
  have:(x+1)*(x+1)=x*x+2*x+1:=by rw[Nat.add_mul,Nat.mul_add];omega
  omega
theorem sq_lt{a b:Nat}(h:a*a<b*b):a<b:=by
 rcases Nat.lt_or_ge a b with h1 | h1
 ·exact h1
 ·have:=Nat.mul_le_mul h1 h1;omega
theorem root_uniq{x r:Nat}(h1:r*r≤x)(h2:x<(r+1)*(r+1)):r=rootN x:=by
 have a1:=sq_lt (Nat.lt_of_le_of_lt h1 (lt_rootN x))
 have a2:=sq_lt (Nat.lt_of_le_of_lt (rootN_le x) h2)
 omega
theorem newton_up{x r:Nat}(hr:0<r):x<((r+x / r) / 2+1)*((r+x / r) / 2+1):=by
 have h1:x<r*(x / r+1):=by
  have:=Nat.div_add_mod x r
  have:=Nat.mod_lt x hr
  rw[Nat.mul_add,Nat.mul_one];omega
 generalize x / r=q at *
 generalize hn:(r+q) / 2=n at *
 have h2:r+(q+1)≤2*(n+1):=by omega
 have h3:4*(r*(q+1))≤(r+(q+1))*(r+(q+1)):=by
  generalize q+1=b
  rcases Nat.le_total r b with h | h
  ·obtain ⟨d,rfl⟩:=Nat.exists_eq_add_of_le h
   have:(r+(r+d))*(r+(r+d))=4*(r*(r+d))+d*d:=by grind
   omega
  ·obtain ⟨d,rfl⟩:=Nat.exists_eq_add_of_le h
   have:(b+d+b)*(b+d+b)=4*((b+d)*b)+d*d:=by grind
   omega
 have h4:=Nat.mul_le_mul h2 h2
 have h5:2*(n+1)*(2*(n+1))=4*((n+1)*(n+1)):=by grind
 omega
theorem newton_end{x r:Nat}(hr:0<r)(h:r≤(r+x / r) / 2):r*r≤x:=by
 have h1:r≤x / r:=by omega
 exact Nat.le_trans (Nat.mul_le_mul_left r h1) (Nat.mul_div_le x r)
theorem newton_pos{x r:Nat}(hx:0<x)(hr:0<r):0<(r+x / r) / 2:=by
 have:=newton_up (x:=x) hr
 rcases Nat.eq_zero_or_pos ((r+x / r) / 2) with h | h
 ·rw[h] at this;omega
 ·exact h
theorem newton_root{x r:Nat}(hr:0<r)(hu:x<(r+1)*(r+1))(h:r≤(r+x / r) / 2):r=rootN x:=root_uniq (newton_end hr h) hu
theorem bit_and(n b:Nat):(n &&& 2 ^ b=0)↔n / 2 ^ b % 2=0:=by
 have hb:n.testBit b=decide (n / 2 ^ b % 2=1):=Nat.testBit_eq_decide_div_mod_eq
 have key:(n &&& 2 ^ b=0)↔n.testBit b=false:=by
  constructor
  ·intro h
   have:=congrArg (fun m:Nat=>m.testBit b) h
   simpa [Nat.testBit_and,Nat.testBit_two_pow] using this
  ·intro h
   apply Nat.eq_of_testBit_eq
   intro i
   rw[Nat.testBit_and,Nat.testBit_two_pow,Nat.zero_testBit]
   by_cases e:b=i
   ·subst e;rw[h];rfl
   ·simp [e]
 rw[key,hb,decide_eq_false_iff_not]
 omega
abbrev xV (k:Nat):Rat:=((((2 ^ k:Nat):Int):Int):Rat)
def pwS(n i:Nat):Nat:=2 ^ (n / 2 ^ (13-i))
theorem pwS_0{n:Nat}(h:n≤4096):[1]=ofNat (pwS n 0):=by
 have e:n / 2 ^ (13-0)=0:=Nat.div_eq_of_lt (by show n<8192;omega)
 unfold pwS;rw[e,Nat.pow_zero,nR (by decide)]
 have:ofNat (1 / 1000000000)=[]:=by rw[show 1 / 1000000000=0 from rfl,uA]
 rw[this]
theorem pwS_13(n:Nat):pwS n 13=2 ^ n:=by unfold pwS;simp
theorem bit_eq{i:Nat}(h:i≤12):4096 / 2 ^ i=2 ^ (12-i):=by
 rw[show (4096:Nat)=2 ^ 12 from rfl,Nat.pow_div h (by decide)]
theorem bit_13:4096 / 2 ^ 13=0:=by decide
theorem bit_pos{i:Nat}(hi:i≤13)(h:(0:Int)<((4096 / 2 ^ i:Nat):Int)):i<13:=by
 by_cases e:i=13
 ·subst e;rw[bit_13] at h;omega
 ·omega
theorem bit_end{i:Nat}(hi:i≤13)(h:¬ (0:Int)<((4096 / 2 ^ i:Nat):Int)):i=13:=by
 by_cases e:i=13
 ·exact e
 ·rw[bit_eq (by omega)] at h
  have:=Nat.pow_pos (n:=12-i) (show 0<2 by decide)
  omega
theorem bit_half(i:Nat):4096 / 2 ^ i / 2=4096 / 2 ^ (i+1):=by rw[Nat.div_div_eq_div_mul,Nat.pow_succ]
theorem pw_half{n i:Nat}(hi:i<13):n / 2 ^ (12-i)=2*(n / 2 ^ (13-i))+n / 2 ^ (12-i) % 2:=by
 have e:n / 2 ^ (13-i)=n / 2 ^ (12-i) / 2:=by
  rw[Nat.div_div_eq_div_mul,← Nat.pow_succ,show (12-i).succ=13-i by omega]
 rw[e];omega
theorem pwS_even{n i:Nat}(hi:i<13)(h:(n &&& 4096 / 2 ^ i)=0):pwS n i*pwS n i=pwS n (i+1):=by
 rw[bit_eq (by omega),bit_and] at h
 have e:=pw_half (n:=n) hi
 unfold pwS
 rw[show 13-(i+1)=12-i by omega,e,h,Nat.add_zero,Nat.two_mul,Nat.pow_add]
theorem pwS_odd{n i:Nat}(hi:i<13)(h:¬ (n &&& 4096 / 2 ^ i)=0):pwS n i*pwS n i*2=pwS n (i+1):=by
 rw[bit_eq (by omega),bit_and] at h
 have e:=pw_half (n:=n) hi
 have h2:n / 2 ^ (12-i) % 2=1:=by omega
 unfold pwS
 rw[show 13-(i+1)=12-i by omega,e,h2,Nat.pow_add,Nat.two_mul,Nat.pow_add,Nat.pow_one]
theorem two_pw(e:Nat):2 ^ e<pw (e+1):=by
 induction e with
 |zero=>simp [pw]
 |succ e ih=>rw[Nat.pow_succ,uJ];omega
theorem len_two(e:Nat):(ofNat (2 ^ e)).length≤e+1:=qV (two_pw e)
theorem len_pwS{n:Nat}(h:n≤4096)(i:Nat):(ofNat (pwS n i)).length≤4097:=by
 have:=len_two (n / 2 ^ (13-i))
 have h2:n / 2 ^ (13-i)≤n:=Nat.div_le_self _ _
 unfold pwS;omega
theorem g2:kR (kD 2)=[2]:=by
 rw[grpI_ofZ]
 show ofNat 2=[2]
 rw[nR (by decide),show 2 / 1000000000=0 from rfl,uA]
theorem g2n:ofNat (Int.natAbs 2)=[2]:=by rw[← grpI_ofZ];exact g2
theorem g2len:(kD 2).gs.length=1:=by
 show (ofNat 2).length=1
 rw[show ofNat 2=[2] from g2n];rfl
theorem neg2:(kD 2).neg=false:=rfl
theorem len_sq{n i:Nat}{out:List Nat}(hv:val out=pwS n i)(hn:n≤4096)(hi:i<13):(ofNat (val out*val out)).length≤8195:=by
 rw[hv]
 unfold pwS
 rw[← Nat.pow_add]
 have:=len_two (n / 2 ^ (13-i)+n / 2 ^ (13-i))
 have h2:n / 2 ^ (13-i)≤n:=Nat.div_le_self _ _
 omega
theorem mk_two(n:Nat):xB false (val (ofNat (pwS n 13)))=kD ((2 ^ n:Nat):Int):=by
 rw[kA,pwS_13]
 unfold kD
 rw[Int.natAbs_natCast,decide_eq_false (Int.not_lt.2 (Int.natCast_nonneg _))]
def qR(z:Int):Int:=((rootN z.toNat:Nat):Int)
theorem rootI_0(z:Int):0≤qR z:=Int.natCast_nonneg _
theorem rootI_le{z:Int}(h:0≤z):qR z*qR z≤z:=by
 obtain ⟨x,rfl⟩:=Int.eq_ofNat_of_zero_le h
 have:=rootN_le x
 unfold qR;rw[Int.toNat_natCast]
 have e:((rootN x*rootN x:Nat):Int)≤(x:Int):=by omega
 simpa using e
theorem lt_rootI{z:Int}(h:0≤z):z<(qR z+1)*(qR z+1):=by
 obtain ⟨x,rfl⟩:=Int.eq_ofNat_of_zero_le h
 have:=lt_rootN x
 unfold qR;rw[Int.toNat_natCast]
 have e:(x:Int)<(((rootN x+1)*(rootN x+1):Nat):Int):=by omega
 simpa using e
theorem rootI_self{z:Int}(h:0≤z):qR z≤z:=by
 have h1:=rootI_le h
 have h2:=rootI_0 z
 by_cases h3:qR z=0
 ·omega
 ·have:qR z*1≤qR z*qR z:=Int.mul_le_mul_of_nonneg_left (by omega) h2
  omega
theorem iok_root{z:Int}{n:Nat}{x:kU}(h:0≤z)(hz:yZ x z n):yZ (kD (qR z)) (qR z) n:=mS (Nat.le_trans (fJ (by have:=rootI_0 z;have:=rootI_self h;omega)) hz.ln)
theorem nw_val(X:Nat)(r:List Nat):val (ofNat (val (ofNat (val r+val (ofNat (val (ofNat X) / val r)))) / 2))=(val r+X / val r) / 2:=by
 rw[kA,kA,kA,kA]
theorem val_app(a b:List Nat):val (a++b)=val a+pw a.length*val b:=by
 induction a with
 |nil=>simp [val,pw]
 |cons d a ih=>
  show d+1000000000*val (a++b)=d+1000000000*val a+pw (a.length+1)*val b
  rw[ih,uJ,Nat.mul_add,Nat.mul_assoc];omega
theorem val_zeros(n:Nat):val (List.replicate n 0)=0:=by
 induction n with
 |zero=>rfl
 |succ n ih=>rw[List.replicate_succ];show 0+1000000000*val (List.replicate n 0)=0;rw[ih]
theorem nw_start(n:Nat):val (List.replicate n 0++[1])=pw n:=by
 rw[val_app,val_zeros,List.length_replicate]
 show 0+pw n*(1+1000000000*0)=pw n
 omega
theorem nw_cano(n:Nat):zW (List.replicate n 0++[1]):=by
 refine ⟨fun d hd=>?_,?_⟩
 ·rcases List.mem_append.1 hd with h | h
  ·rw[(List.mem_replicate.1 h).2];decide
  ·rw[List.mem_singleton.1 h];decide
 ·unfold Top
  rw[List.getD_eq_getElem?_getD]
  simp
theorem nw_top{X:Nat}:X<(val (List.replicate (((ofNat X).length+1) / 2) 0++[1])+1)*(val (List.replicate (((ofNat X).length+1) / 2) 0++[1])+1):=by
 rw[nw_start]
 have h:=aD X
 have h2:pw (ofNat X).length≤pw (((ofNat X).length+1) / 2+((ofNat X).length+1) / 2):=by unfold pw;exact Nat.pow_le_pow_right (by decide) (by omega)
 rw[pw_add] at h2
 have h3:pw (((ofNat X).length+1) / 2)*pw (((ofNat X).length+1) / 2)≤(pw (((ofNat X).length+1) / 2)+1)*(pw (((ofNat X).length+1) / 2)+1):=Nat.mul_le_mul (by omega) (by omega)
 omega
theorem cmpI_ge0{a b:Int}:0≤uP a b↔b≤a:=by
 unfold uP
 by_cases h:a<b
 ·rw[if_pos h];omega
 ·rw[if_neg h];split<;>omega
theorem nw_end{z:Int}{r:List Nat}(z0:0≤z)(h0:0<val r)(hu:z.natAbs<(val r+1)*(val r+1))(h:val r≤(val r+z.natAbs / val r) / 2):xB false (val r)=kD (qR z):=by
 have e:=newton_root h0 hu h
 obtain ⟨x,rfl⟩:=Int.eq_ofNat_of_zero_le z0
 rw[Int.natAbs_natCast] at e
 unfold qR kD
 rw[Int.toNat_natCast,← e,Int.natAbs_natCast,decide_eq_false (by omega)]
theorem two_pos(n:Nat):(0:Int)<((2 ^ n:Nat):Int):=by
 have:=Nat.pow_pos (n:=n) (show 0<2 by decide)
 exact Int.natCast_pos.2 this
theorem neg_abs{z:Int}(z0:0≤z)(h:(kD z).neg=true):False:=by
 have:(decide (z<0)&&z.natAbs != 0)=true:=h
 rw[decide_eq_false (show ¬ z<0 by omega)] at this
 cases this
theorem root_nil{z:Int}(h:(((ofNat z.natAbs).length:Nat):Int)=((0:Nat):Int)):kD (qR z)=kU.mk false []:=by
 have e:ofNat z.natAbs=[]:=List.eq_nil_of_length_eq_zero (by omega)
 have e2:=aN.1 e
 have e3:z=0:=by omega
 subst e3
 have:qR 0=0:=by
  have:=rootI_self (z:=0) (by decide);have:=rootI_0 0;omega
 rw[this]
 show kU.mk (decide ((0:Int)<0)&&(Int.natAbs 0 != 0)) (ofNat (Int.natAbs 0))=_
 rw[show Int.natAbs 0=0 from rfl,uA];rfl
theorem nw_ok(X:Nat){r:List Nat}(hr:0<val r)(hX:0<X)(hc:¬ (0:Int)≤uP (((val (ofNat (val (ofNat (val r+val (ofNat (val (ofNat X) / val r)))) / 2)):Nat)):Int) ((val r:Nat):Int)) :
  zW (ofNat (val (ofNat (val r+val (ofNat (val (ofNat X) / val r)))) / 2))∧0<val (ofNat (val (ofNat (val r+val (ofNat (val (ofNat X) / val r)))) / 2))∧X<(val (ofNat (val (ofNat (val r+val (ofNat (val (ofNat X) / val r)))) / 2))+1)*(val (ofNat (val (ofNat (val r+val (ofNat (val (ofNat X) / val r)))) / 2))+1)∧val (ofNat (val (ofNat (val r+val (ofNat (val (ofNat X) / val r)))) / 2))<val r:=by
 rw[cmpI_ge0,nw_val] at hc
 refine ⟨qB _,?_,?_,?_⟩
 ·rw[nw_val];exact newton_pos hX hr
 ·rw[nw_val];exact newton_up hr
 ·rw[nw_val];omega
theorem nw_stop{X:Nat}{r:List Nat}(hc:(0:Int)≤uP (((val (ofNat (val (ofNat (val r+val (ofNat (val (ofNat X) / val r)))) / 2)):Nat)):Int) ((val r:Nat):Int)):val r≤(val r+X / val r) / 2:=by
 rw[cmpI_ge0,nw_val] at hc;omega
theorem can_len{r s:List Nat}(hr:zW r)(hs:zW s)(h:val r≤val s):r.length≤s.length:=by
 rw[can_eq hr,can_eq hs];exact uX h
theorem nw_lens{X:Nat}{r:List Nat}(hx:(ofNat X).length≤400)(hr:r.length≤400)(hc:zW r):(ofNat (val (ofNat X) / val r)).length≤400∧(ofNat (val r+val (ofNat (val (ofNat X) / val r)))).length≤401∧(ofNat (val (ofNat (val r+val (ofNat (val (ofNat X) / val r)))) / 2)).length≤401:=by
 have h1:(ofNat (val (ofNat X) / val r)).length≤400:=by
  rw[kA];exact Nat.le_trans (uX (Nat.div_le_self _ _)) hx
 have h2:(ofNat (val r+val (ofNat (val (ofNat X) / val r)))).length≤401:=by
  apply qV
  have a1:=vQ hc.1
  have a2:=aD (val (ofNat X) / val r)
  have a3:pw r.length≤pw 400:=gE hr
  have a4:pw (ofNat (val (ofNat X) / val r)).length≤pw 400:=gE h1
  rw[kA (val (ofNat X) / val r),uJ]
  omega
 refine ⟨h1,h2,?_⟩
 have h3:=kA (val r+val (ofNat (val (ofNat X) / val r)))
 exact Nat.le_trans (uX (by rw[h3];exact Nat.div_le_self _ _)) h2
theorem cQ{k:Nat}(h:k≤512):yZ (kD ((2 ^ k:Nat):Int)) ((2 ^ k:Nat):Int) 20:=mS (by
 rw[cE,Int.natAbs_natCast]
 refine Nat.lt_of_le_of_lt (Nat.pow_le_pow_right (by decide) h) ?_
 unfold pw
 decide +kernel)
theorem eD{k:Nat}(h:k≤512):QL (((2 ^ k:Nat):Int):Rat) 20:=zI (cQ h).ln (by decide)
def mR(x:Rat):Int:=x.num.fdiv ((x.den:Nat):Int)
theorem fR{x:Rat}{n k:Nat}(h:QL x n)(hk:n+1≤k):yZ (kD (mR x)) (mR x) k:=mS (Nat.le_trans (lenZ_fdiv _ _) (Nat.le_trans (Nat.succ_le_succ h.1) hk))
theorem flZ_floor(x:Rat):mR x=x.floor:=by
 unfold mR;rw[Rat.floor_def,Int.fdiv_eq_ediv_of_nonneg _ (by omega)]
theorem fl_nn{x:Rat}(h:0≤x):0≤mR x:=by
 rw[flZ_floor,Rat.le_floor_iff];exact h
theorem aK{x:Rat}{k:Nat}(h:0≤x):0≤x*((((2 ^ k:Nat):Int):Rat)*(((2 ^ k:Nat):Int):Rat)):=by
 have h2:(0:Rat)≤(((2 ^ k:Nat):Int):Rat):=by
  rw[← Rat.intCast_zero];exact Rat.intCast_le_intCast.2 (Int.le_of_lt (two_pos k))
 exact Rat.mul_nonneg h (Rat.mul_nonneg h2 h2)
theorem sgn_nn{x:Rat}(h:0≤x):¬ (nI x)<0:=by
 unfold nI
 have h2:0≤x.num:=Rat.num_nonneg.2 h
 unfold qY
 by_cases e:x.num=0
 ·rw[if_pos e];decide
 ·rw[if_neg e,if_neg (by omega)];decide
def upI(y:Rat):Int:=if ((qR (mR y)*qR (mR y):Int):Rat)<y then qR (mR y)+1 else qR (mR y)
theorem iok_upI{y:Rat}{n k:Nat}(h:0≤mR y)(hz:yZ (kD (mR y)) (mR y) n)(hk:n+1≤k)(hn:1≤n):yZ (kD (upI y)) (upI y) k:=mS (by
 have h1:=(iok_root h hz).ln
 unfold upI
 by_cases e:((qR (mR y)*qR (mR y):Int):Rat)<y
 ·rw[if_pos e]
  exact lenZ_add h1 (xL (z:=1) (by decide)) (by omega)
 ·rw[if_neg e];omega)
theorem cmpQ_ltR{a b:Rat}:yW a b<0↔a<b:=by
 unfold yW
 by_cases h:a<b
 ·rw[if_pos h];exact ⟨fun _=>h,fun _=>by decide⟩
 ·rw[if_neg h];refine ⟨fun hh=>?_,fun hh=>absurd hh h⟩
  by_cases h2:b<a
  ·rw[if_pos h2] at hh;exact absurd hh (by decide)
  ·rw[if_neg h2] at hh;exact absurd hh (by decide)
theorem upI_t{y:Rat}(h:yW ((qR (mR y)*qR (mR y):Int):Rat) y<0):upI y=qR (mR y)+1:=if_pos (cmpQ_ltR.1 h)
theorem upI_f{y:Rat}(h:¬ yW ((qR (mR y)*qR (mR y):Int):Rat) y<0):upI y=qR (mR y):=if_neg (fun hh=>h (cmpQ_ltR.2 hh))
theorem p2_ne(k:Nat):(((2 ^ k:Nat):Int):Rat)≠0:=by
 intro h
 have:((2 ^ k:Nat):Int)=0:=by rw[← Rat.intCast_zero] at h;exact Rat.intCast_inj.1 h
 have:=two_pos k;omega
theorem divP(a:Int)(k:Nat):Rat.divInt a ((2 ^ k:Nat):Int)=((a:Int):Rat) / (((2 ^ k:Nat):Int):Rat):=by rw[Rat.divInt_eq_div]
theorem p2_pos(k:Nat):(0:Rat)<(((2 ^ k:Nat):Int):Rat):=by
 rw[← Rat.intCast_zero];exact Rat.intCast_lt_intCast.2 (two_pos k)
theorem divP_le{a:Int}{k:Nat}{c:Rat}(h:((a:Int):Rat)≤c*(((2 ^ k:Nat):Int):Rat)):Rat.divInt a ((2 ^ k:Nat):Int)≤c:=by
 rw[divP,← Rat.not_lt,Rat.lt_div_iff (p2_pos k),Rat.not_lt];exact h
theorem flZ_le(x:Rat):((mR x:Int):Rat)≤x:=by rw[flZ_floor];exact Rat.floor_le x
theorem divP_mul(a:Int)(k:Nat):Rat.divInt a ((2 ^ k:Nat):Int)*(((2 ^ k:Nat):Int):Rat)=((a:Int):Rat):=by
 rw[divP,Rat.div_mul_cancel (p2_ne k)]
theorem rt_lo{y:Rat}(hy:0≤y):((qR (mR y)*qR (mR y):Int):Rat)≤y:=Rat.le_trans (Rat.intCast_le_intCast.2 (rootI_le (fl_nn hy))) (flZ_le y)
theorem upI_nn(y:Rat):0≤upI y:=by
 have:=rootI_0 (mR y)
 unfold upI;split<;>omega
theorem rt_hi{y:Rat}(hy:0≤y):y≤((upI y*upI y:Int):Rat):=by
 unfold upI
 by_cases e:((qR (mR y)*qR (mR y):Int):Rat)<y
 ·rw[if_pos e]
  have h1:=lt_rootI (fl_nn hy)
  have h2:y<((mR y+1:Int):Rat):=by rw[flZ_floor];exact Rat.lt_floor_add_one y
  exact Rat.le_trans (Rat.le_of_lt h2) (Rat.intCast_le_intCast.2 h1)
 ·rw[if_neg e];exact Rat.not_lt.1 e
theorem sq_int{a b:Int}(b0:0≤b)(h:a*a≤b*b):a≤b:=by
 by_cases hh:a≤b
 ·exact hh
 ·have h1:b<a:=by omega
  have h2:b*b<a*a:=by
   have q1:b*b≤b*a:=Int.mul_le_mul_of_nonneg_left (by omega) b0
   have q2:b*a<a*a:=Int.mul_lt_mul_of_pos_right h1 (by omega)
   omega
  omega
theorem rt_valid{p q:Rat}(k:Nat)(hp:0≤p)(h:p≤q):Rat.divInt (qR (mR (p*((((2 ^ k:Nat):Int):Rat)*(((2 ^ k:Nat):Int):Rat))))) ((2 ^ k:Nat):Int)≤Rat.divInt (upI (q*((((2 ^ k:Nat):Int):Rat)*(((2 ^ k:Nat):Int):Rat)))) ((2 ^ k:Nat):Int):=by
 refine divP_le ?_
 rw[divP_mul]
 refine Rat.intCast_le_intCast.2 (sq_int (upI_nn _) (Rat.intCast_le_intCast.1 ?_))
 have hq:0≤q:=Rat.le_trans hp h
 have hPP:(0:Rat)≤(((2 ^ k:Nat):Int):Rat)*(((2 ^ k:Nat):Int):Rat):=Rat.mul_nonneg (Rat.le_of_lt (p2_pos k)) (Rat.le_of_lt (p2_pos k))
 exact Rat.le_trans (rt_lo (aK hp)) (Rat.le_trans (Rat.mul_le_mul_of_nonneg_right h hPP) (rt_hi (aK hq)))
end Go.Fid
