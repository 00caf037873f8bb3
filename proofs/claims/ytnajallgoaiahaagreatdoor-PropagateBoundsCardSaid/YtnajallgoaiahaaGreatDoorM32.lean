/- Part 32 of a proof: rules, plain facts, and functions walked. -/
import Derived.Test.YtnajallgoaiahaaGreatDoorM31
import Derived.Test.YtnajallgoaiahaaGreatDoorM11
import Derived.Test.YtnajallgoaiahaaGreatDoorM24
import Derived.Test.YtnajallgoaiahaaGreatDoorM19
import Derived.Test.YtnajallgoaiahaaGreatDoorM20
import Derived.Test.YtnajallgoaiahaaGreatDoorM10
set_option linter.all false
set_option maxRecDepth 4000
namespace Go.Fid
theorem zeroR_uns(x:jR):iG x=unsB x:=rfl
def unuB(x:qB):Bool:=if x.op=0 then (((x.a != 0)||(x.b != 0))||!(kR x.n)) else ((decide (xG x.op<0)||(decide (xG x.op<2)&&(x.b != 0)))||!(iG x.n))
theorem unu_iff{x:qB}:unuB x=true↔fZ x:=by
 unfold unuB fZ
 by_cases h:x.op=0
 ·rw[if_pos h,h]
  simp only[Bool.or_eq_true,bne_iff_ne,Bool.not_eq_true',ne_eq,not_true_eq_false,false_and,or_false,true_and,show xG 0=0 by decide]
  constructor
  ·rintro ((h1 | h1) | h1)
   ·exact .inr (.inr (.inl h1))
   ·exact .inr (.inl ⟨by decide,h1⟩)
   ·exact .inr (.inr (.inr h1))
  ·rintro (h1 | ⟨_,h1⟩ | h1 | h1)
   ·exact absurd h1 (by decide)
   ·exact .inl (.inr h1)
   ·exact .inl (.inl h1)
   ·exact .inr h1
 ·rw[if_neg h]
  simp only[Bool.or_eq_true,Bool.and_eq_true,decide_eq_true_eq,bne_iff_ne,Bool.not_eq_true',ne_eq,h,not_false_eq_true,false_and,false_or,true_and,zeroR_uns]
  exact or_assoc
theorem unu_bad(x:qB):unuB x=badB x:=by
 cases h:unuB x with
 |true=>exact (lB.2 (unu_iff.1 h)).symm
 |false=>
  cases h2:badB x with
  |false=>rfl
  |true=>rw[unu_iff.2 (lB.1 h2)] at h;cases h
def orD(k:Int)(x:qB):Bool:=((decide (1<=xG x.op)&&(decide (x.a<0)||decide (k<=x.a)))||((xG x.op == 2)&&(decide (x.b<0)||decide (k<=x.b))))
theorem orD_eq(k:Int)(x:qB):orD k x=ordB k x:=by
 unfold orD ordB
 rcases fH x.op with ⟨e,_⟩ | ⟨e,_⟩ | ⟨e,_⟩ | ⟨e,_⟩<;>rw[e]<;>rfl
theorem NdR.a2{z:Int}{t:List qB}{k:Nat}(h:NdR z t k)(h0:1<=xG (t.getD k tz).op):0<=(t.getD k tz).a/\(t.getD k tz).a.toNat<k/\1<=(cW t k).getD (t.getD k tz).a.toNat 0/\(cW t k).getD (t.getD k tz).a.toNat 0<=4096:=by
 have h2:=h.ord
 unfold bA at h2
 have ha:(t.getD k tz).a.toNat<k:=by omega
 exact ⟨by omega,ha,sz_rng h.tm.up _ ha⟩
theorem NdR.b2{z:Int}{t:List qB}{k:Nat}(h:NdR z t k)(h0:xG (t.getD k tz).op=2):0<=(t.getD k tz).b/\(t.getD k tz).b.toNat<k/\1<=(cW t k).getD (t.getD k tz).b.toNat 0/\(cW t k).getD (t.getD k tz).b.toNat 0<=4096:=by
 have h2:=h.ord
 unfold bA at h2
 have ha:(t.getD k tz).b.toNat<k:=by omega
 exact ⟨by omega,ha,sz_rng h.tm.up _ ha⟩
theorem NdR.nx{z:Int}{t:List qB}{k:Nat}(h:NdR z t k){v:Int}(hv:v=szN (cW t k) (t.getD k tz))(hb:¬ 4096<v):lT z t (k+1)/\cW t k++[v]=cW t (k+1):=by
 rw[hv] at hb
 exact ⟨szUp_s h.tm.up (nd_y h.bad (by rw[gY];exact h.ord) h.rng hb),by rw[hv];rfl⟩
theorem NdR.bg{z:Int}{t:List qB}{k:Nat}(h:NdR z t k){v:Int}(hv:v=szN (cW t k) (t.getD k tz))(hb:4096<v):gK z t=3/\eG z t=[]:=by
 rw[hv] at hb
 have e:=nd_3 (z:=z) (ss:=cW t k) h.bad (by rw[gY];exact h.ord) h.rng hb
 have:=tm_no h.tm.z0 h.tm.kl h.tm.tl h.tm.up (by rw[e];decide)
 rwa [e] at this
theorem kd_7{o:Int}(h:o=7):xG o=1:=by rw[h];decide
theorem szD_c{ss:List Int}{x:qB}(hb:¬ fZ x)(h:¬ 1<=xG x.op):(1:Int)=szN ss x:=szN_c (by unfold fZ at hb;omega)
theorem szD_n{ss:List Int}{x:qB}(h:1<=xG x.op)(h7:x.op≠7)(h2:xG x.op≠2):ss.getD x.a.toNat 0=szN ss x:=szN_n (by omega) (by rcases fH x.op with ⟨e,f⟩ | ⟨e,f⟩ | ⟨e,f⟩ | ⟨e,f⟩<;>omega) rfl
theorem szD_q{ss:List Int}{x:qB}(h:1<=xG x.op)(h7:x.op=7):2*ss.getD x.a.toNat 0=szN ss x:=szN_q (by omega) h7 rfl
theorem szD_b{ss:List Int}{x:qB}(h2:xG x.op=2):ss.getD x.a.toNat 0+ss.getD x.b.toNat 0=szN ss x:=szN_b (by omega) (by intro h;rw[h] at h2;revert h2;decide) (by intro h;rw[h] at h2;revert h2;decide) rfl rfl
theorem szD_all{ss:List Int}{x:qB}(hb:¬ fZ x){v w:Int}(h1:(¬ 1<=xG x.op->v=1)/\(1<=xG x.op->v=ss.getD x.a.toNat 0))(h2:(x.op=7->w=2*v)/\(x.op≠7->w=v)) :
  (xG x.op=2->w+ss.getD x.b.toNat 0=szN ss x)/\(xG x.op≠2->w=szN ss x):=by
 refine ⟨fun hk=>?_,fun hk=>?_⟩
 ·rw[h2.2 (fun e=>by have:=kd_7 e;omega),h1.2 (by omega)];exact szD_b hk
 ·by_cases h7:x.op=7
  ·have:=kd_7 h7
   rw[h2.1 h7,h1.2 (by omega)];exact szD_q (by omega) h7
  ·rw[h2.2 h7]
   by_cases hk1:1<=xG x.op
   ·rw[h1.2 hk1];exact szD_n hk1 h7 hk
   ·rw[h1.1 hk1];exact szD_c hb hk1
theorem tm_end2{z:Int}{t:List qB}{k:Nat}(h:(decide (z<0)||decide (64<z))=false)(h0:((t.length:Nat):Int)≠0)(h4:¬ 400<((t.length:Nat):Int))(hk:k<=t.length)(h5:¬ ((k:Nat):Int)<((t.length:Nat):Int))(hu:lT z t k):gK z t=0/\eG z t=cW t k:=by
 obtain rfl:k=t.length:=by omega
 exact tm_yes (zb_f h) (by omega) (by omega) hu
theorem NdR.var{z:Int}{t:List qB}{k:Nat}(h:NdR z t k)(h1:(t.getD k tz).op=1):0<=(t.getD k tz).a/\(t.getD k tz).a<z:=by
 have:=h.rng
 unfold rngN at this
 omega
theorem NdR.con{z:Int}{t:List qB}{k:Nat}(h:NdR z t k)(h1:(t.getD k tz).op=0):kR (t.getD k tz).n=true:=by
 have:=h.bad
 unfold fZ at this
 cases hv:kR (t.getD k tz).n with
 |true=>rfl
 |false=>exact absurd (.inr (.inr (.inl ⟨h1,.inr hv⟩))) this
theorem NdR.op{z:Int}{t:List qB}{k:Nat}(h:NdR z t k):(t.getD k tz).op=0\/(t.getD k tz).op=1\/(t.getD k tz).op=2\/(t.getD k tz).op=3\/(t.getD k tz).op=4\/(t.getD k tz).op=5\/(t.getD k tz).op=6\/(t.getD k tz).op=7:=by
 have:=h.kd
 rcases fH (t.getD k tz).op with ⟨e,f⟩ | ⟨e,f⟩ | ⟨e,f⟩ | ⟨e,f⟩<;>omega
theorem NdR.un{z:Int}{t:List qB}{k:Nat}(h:NdR z t k)(h1:(t.getD k tz).op=6\/(t.getD k tz).op=7):0<=(t.getD k tz).a/\(t.getD k tz).a<k:=by
 have e:xG (t.getD k tz).op=1:=by rcases h1 with h1 | h1<;>rw[h1]<;>decide
 have a:=h.a2 (by omega)
 omega
structure VEnd (xs:List Rat) (t:List qB) (k0:Nat):Prop where
 c0:gK ((xs.length:Nat):Int) t=0
 hk:k0<=t.length
 up:VUp xs t k0
 en:k0<t.length->(t.getD k0 tz).op=5/\(vU xs t k0).getD (t.getD k0 tz).b.toNat 0=0
theorem VRun.fin{xs:List Rat}{t:List qB}(h:VRun xs t):VEnd xs t t.length:=⟨h.c0,Nat.le_refl _,h.up,fun h=>absurd h (Nat.lt_irrefl _)⟩
theorem VFail.fin{xs:List Rat}{t:List qB}{k:Nat}(h:VFail xs t k):VEnd xs t k:=⟨h.c0,Nat.le_of_lt h.hk,h.up,fun _=>⟨h.op,h.z⟩⟩
def vlR(xs:List Rat)(t:List qB)(k:Nat):jR:=if k=t.length then jN (lastV xs t) else zr
def vlC(t:List qB)(k:Nat):Int:=if k=t.length then ((0:Nat):Int) else ((14:Nat):Int)
theorem VEnd.no2{xs:List Rat}{t:List qB}{k:Nat}(h:VEnd xs t k)(hk:k<t.length):vlR xs t k=zr/\vlC t k=((14:Nat):Int):=⟨if_neg (by omega),if_neg (by omega)⟩
theorem VEnd.eq{xs:List Rat}{t:List qB}{k0 k:Nat}(h:VEnd xs t k0)(hk:k<=k0)(hn:decide (k<k0)=false):k0=k:=by
 have:=of_decide_eq_false hn
 omega
theorem VEnd.at{xs:List Rat}{t:List qB}{k0 k:Nat}(h:VEnd xs t k0)(hk:k<=k0)(hl:k<t.length)(hn:decide (k<k0)=false):(vU xs t k).getD (t.getD k tz).b.toNat 0=0:=by
 have e:=h.eq hk hn
 subst e
 exact (h.en hl).2
theorem VEnd.no{xs:List Rat}{t:List qB}{k0 k:Nat}(h:VEnd xs t k0)(hk:k<=k0)(hl:k<t.length)(hn:decide (k<k0)=false):vlR xs t k0=zr/\vlC t k0=((14:Nat):Int):=by
 have e:=h.eq hk hn
 subst e
 exact h.no2 hl
theorem VEnd.lt{xs:List Rat}{t:List qB}{k0 k:Nat}(h:VEnd xs t k0)(hk:k<=k0)(hl:k<t.length)(ho:(t.getD k tz).op≠5):k<k0:=by
 rcases Nat.lt_or_ge k k0 with h1 | h1
 ·exact h1
 ·obtain rfl:k=k0:=by omega
  exact absurd (h.en hl).1 ho
structure CrLaw (xs:List Rat) (ls:List (List Int)) (n:Nat):Prop where
 ok:CrOk ls n
 hx:∀ q∈xs,QL q 3
 hl:xs.length=9
 hb:∀ a∈ls,∀ z∈a,¬ (8<z/\z<64)
theorem CrLaw.le{xs:List Rat}{ls:List (List Int)}{n:Nat}(h:CrLaw xs ls n){a:List Int}(ha:a∈ls):okL ((xs.length:Nat):Int) n a:=h.ok.le ha (h.hb a ha) (by rw[h.hl];rfl)
end Go.Fid
namespace Go.Proofs.YtnajallgoaiahaaGreatDoor
open Go.Fid
theorem u_uns(x:qB)(hx:hP x.n (qS x.n) 1048576):jO Tryz.prog 133 [(kS x)] (.val (.bool ((unuB x)))):=by
 refine qY Tryz.func133 ?_
 refine jB<|kx [(1,(.ref 0 0))] [(0,some (bx (kS x)))] (zN (uU 0)<|zM<|zZ) ?_
 refine jB<|kx [(3,(vi (xG x.op)))] [] (zE (kV gB)<|zR (uE fM)<|zE (jV (r_kids x.op))<|zM<|zZ) ?_
 refine jB<|jB<|kx [(9,(vb (x.op == 0)))] [] (zE (kV gB)<|zR (uE fM)<|zE xR<|zZ) ?_
 refine jG (b:=(x.op == 0)) rfl (fun h1=>?_) (fun h1=>?_)
 ·replace h1:=eq_of_beq h1
  refine jB<|kx [(2,(vb (((x.a != 0)||(x.b != 0))||!(kR x.n))))] [] ?_ ?_
  ·refine zE (kV gS)<|zR (uE cL)<|zE mF<|zE (oV (vb (x.a != 0)) (qC (by kernel_rfl)))<|?_
   rcases hb2:(x.a != 0) with _ | _
   ·replace hb2:=bne_eq_false_iff_eq.1 hb2
    refine zE (kV mT)<|zR (uE cL)<|zE mF<|zE dG<|zE (oV (vb (false||(x.b != 0))) (qC (by kernel_rfl)))<|?_
    rcases hb3:(false||(x.b != 0)) with _ | _
    ·exact zE (kV dP)<|zR (kJ jQ)<|zE (jV (bU x.n (qS x.n) (jM hx)))<|zE gD<|zE dG<|zM<|zZ
    ·exact zK<|zK<|zK<|zK<|zE yR<|zM<|zZ
   ·replace hb2:=bne_iff_ne.1 hb2
    exact zK<|zK<|zK<|zE yR<|zM<|zK<|zK<|zK<|zK<|zE yR<|zM<|zZ
  refine jE ⟨_,(.tmp (d:=(.val (.bool ((((x.a != 0)||(x.b != 0))||!(kR x.n)))))) rfl .nil),?_⟩
  rw[show unuB x=_ from if_pos h1];rfl
 ·replace h1:=ne_of_beq_false h1
  refine jC<|jB<|kx [(2,(vb ((decide ((xG x.op)<0)||(decide ((xG x.op)<2)&&(x.b != 0)))||!(iG x.n))))] [] ?_ ?_
  ·refine zM<|zE xK<|zE (oV (vb (decide ((xG x.op)<0))) (qC (by kernel_rfl)))<|?_
   rcases hb4:(decide ((xG x.op)<0)) with _ | _
   ·replace hb4:=vB hb4
    refine zM<|zE xK<|zE (oV (vb (decide ((xG x.op)<2))) (qC (by kernel_rfl)))<|?_
    rcases hb5:(decide ((xG x.op)<2)) with _ | _
    ·replace hb5:=vB hb5
     exact zK<|zK<|zK<|zE xQ<|zE xQ<|zM<|zE (kV dP)<|zR (kJ jQ)<|zE (jV (g_zero x.n (qS x.n) (jM hx)))<|zE gD<|zE dG<|zM<|zZ
    ·replace hb5:=uV hb5
     refine zE (kV mT)<|zR (uE cL)<|zE mF<|zE fR<|zE dG<|zE (oV (vb (false||(true&&(x.b != 0)))) (qC (by kernel_rfl)))<|?_
     rcases hb6:(false||(true&&(x.b != 0))) with _ | _
     ·exact zE (kV dP)<|zR (kJ jQ)<|zE (jV (g_zero x.n (qS x.n) (jM hx)))<|zE gD<|zE dG<|zM<|zZ
     ·exact zK<|zK<|zK<|zK<|zE yR<|zM<|zZ
   ·replace hb4:=uV hb4
    exact zK<|zK<|zK<|zK<|zK<|zK<|zK<|zE yR<|zM<|zK<|zK<|zK<|zK<|zE yR<|zM<|zZ
  refine jE ⟨_,(.tmp (d:=(.val (.bool (((decide ((xG x.op)<0)||(decide ((xG x.op)<2)&&(x.b != 0)))||!(iG x.n)))))) rfl .nil),?_⟩
  rw[show unuB x=_ from if_neg h1];rfl
theorem u_sizes(t:List qB)(ht:zL 1048576 t)(z:Int):jO Tryz.prog 76 [(.sl 83 7 (List.map kS t)),(.val (.int .i64 (z)))] (.tup [(.sl 3 1 (List.map qK (eG z t))),(.val (.int .i64 ((((gK z t):Nat):Int))))]):=by
 refine qY Tryz.func76 ?_
 refine jB<|kx [] [] (zE (aZ 3 1)<|zM<|zZ) ?_
 refine jB<|jB<|kx [(16,(vb (decide (z<0)||decide (64<z))))] [] ?_ ?_
 ·refine zM<|zE xK<|zE (oV (vb (decide (z<0))) (qC (by kernel_rfl)))<|?_
  rcases hb1:(decide (z<0)) with _ | _
  ·replace hb1:=vB hb1
   exact zM<|zE hH<|zE dG<|zZ
  ·replace hb1:=uV hb1
   exact zK<|zK<|zE yR<|zZ
 refine jG (b:=(decide (z<0)||decide (64<z))) rfl (fun h2=>?_) (fun h2=>?_)
 ·refine jB<|kx [(4,(vl 3 1 qK [])),(5,(jS 2))] [] (zE (aZ 3 1)<|zM<|zZ) ?_
  refine jE ⟨_,(.tmp (d:=(.sl 3 1 (List.map qK []))) rfl (.tmp (d:=(.val (.int .i64 (2)))) rfl .nil)),?_⟩
  have he:=zb_t (t:=t) h2
  rw[he.1,he.2];rfl
 ·have hz0:=h2
  refine jC<|jB<|jB<|kx [(19,(vb (((t.length:Nat):Int) == 0)))] [] (zM<|zE (vP iW)<|zE xR<|zZ) ?_
  refine jG (b:=(((t.length:Nat):Int) == 0)) rfl (fun h3=>?_) (fun h3=>?_)
  ·replace h3:=eq_of_beq h3
   refine jB<|kx [(4,(vl 3 1 qK [])),(5,(jS 1))] [] (zE (aZ 3 1)<|zM<|zZ) ?_
   refine jE ⟨_,(.tmp (d:=(.sl 3 1 (List.map qK []))) rfl (.tmp (d:=(.val (.int .i64 (1)))) rfl .nil)),?_⟩
   have he:=tm_l0 hz0 (show t.length=0 by omega)
   rw[he.1,he.2];rfl
  ·replace h3:=ne_of_beq_false h3
   have h0:=h3
   refine jC<|jB<|jB<|kx [(22,(vb (decide (400<((t.length:Nat):Int)))))] [] (zM<|zE (vP iW)<|zE hH<|zZ) ?_
   refine jG (b:=decide (400<((t.length:Nat):Int))) rfl (fun h4=>?_) (fun h4=>?_)
   ·replace h4:=uV h4
    refine jB<|kx [(4,(vl 3 1 qK [])),(5,(jS 3))] [] (zE (aZ 3 1)<|zM<|zZ) ?_
    refine jE ⟨_,(.tmp (d:=(.sl 3 1 (List.map qK []))) rfl (.tmp (d:=(.val (.int .i64 (3)))) rfl .nil)),?_⟩
    have he:=tm_lb hz0 (show 400<t.length by omega)
    rw[he.1,he.2];rfl
   ·replace h4:=vB h4
    have h400:=h4
    refine jC<|jB<|kx [(6,(.own 0 3 1 0))] [(0,some (bm qK []))] (zN (oBo 0 nW ze3 zo3)<|zM<|zZ) ?_
    refine jB<|jB<|kx [(24,(vl 83 7 kS t)),(25,(jS t.length)),(26,(jS 0))] [] (zM<|zE (vP iW)<|zM<|zZ) ?_
    refine jH<|kF (α:=Nat × List Int) (fun (k,o)=>⟨[(1,(vi z)),(6,(.own 0 3 1 o.length)),(24,(vl 83 7 kS t)),(25,(jS t.length)),(26,(jS k))],[(0,some (bm qK o))]⟩) (fun (k,o)=>k<=t.length/\o=cW t k/\lT z t k) (fun (k,o)=>t.length-k) (0,[]) wk ⟨Nat.zero_le _,rfl,szUp_0 _ _⟩ ?_
    rintro ⟨k,o⟩ ⟨hk,ho,hu⟩
    have hol:o.length=k:=by rw[ho];exact gY _ _
    refine jB<|kx [(27,(vb (decide (((k:Nat):Int)<((t.length:Nat):Int)))))] [] (zE xK<|zZ) ?_
    refine jB<|jG rfl (fun h5=>?_) (fun h5=>?_)
    ·replace h5:=uV h5
     have hR:=tmr hz0 h5 h400 hu
     have hkl:=hR.kl
     refine jC<|jB<|jH<|jB<|kx [(7,(jS k)),(8,(.ref 1 0))] [(1,some (bx (kS (t.getD k tz))))] (zM<|zE (yE iW k (tz:qB))<|zE (yJ iR)<|zH (qR 1 ze83 zo83)<|zM<|zT (qA iR)<|zZ) ?_
     refine jB<|jB<|kx [(32,(vb (unuB (t.getD k tz))))] [] (zR (kJ iR)<|zE (jV (u_uns (t.getD k tz) (tn_get ht (show k<t.length by omega))))<|zZ) ?_
     refine jG (b:=(unuB (t.getD k tz))) rfl (fun h6=>?_) (fun h6=>?_)
     ·refine jB<|kx [(4,(vl 3 1 qK [])),(5,(jS 1))] [] (zE (aZ 3 1)<|zM<|zZ) ?_
      refine jE ⟨_,(.tmp (d:=(.sl 3 1 (List.map qK []))) rfl (.tmp (d:=(.val (.int .i64 (1)))) rfl .nil)),?_⟩
      have he:=hR.bad (by rw[<- unu_bad];exact h6)
      rw[he.1,he.2];rfl
     ·have hB:badB (t.getD k tz)=false:=by rw[<- unu_bad];exact h6
      refine jC<|jB<|kx [(9,(vi (xG ((t.getD k tz).op))))] [] (zE (kV gB)<|zR (uE fM)<|zE (jV (r_kids ((t.getD k tz).op)))<|zM<|zZ) ?_
      refine jB<|jB<|kx [(63,(vb ((decide (1<=(xG ((t.getD k tz).op)))&&(decide ((t.getD k tz).a<0)||decide (((k:Nat):Int)<=(t.getD k tz).a)))||(((xG ((t.getD k tz).op)) == 2)&&(decide ((t.getD k tz).b<0)||decide (((k:Nat):Int)<=(t.getD k tz).b))))))] [] ?_ ?_
      ·refine zM<|zE oGe<|zE (oV (vb (decide (1<=(xG ((t.getD k tz).op))))) (qC (by kernel_rfl)))<|?_
       rcases hb7:(decide (1<=(xG ((t.getD k tz).op)))) with _ | _
       ·replace hb7:=vB hb7
        refine zK<|zK<|zK<|zK<|zK<|zK<|zK<|zK<|zK<|zE xQ<|zM<|zM<|zE xR<|zE (oV (vb ((xG ((t.getD k tz).op)) == 2)) (qC (by kernel_rfl)))<|?_
        rcases hb8:((xG ((t.getD k tz).op)) == 2) with _ | _
        ·replace hb8:=ne_of_beq_false hb8
         exact zK<|zK<|zK<|zK<|zK<|zK<|zK<|zK<|zK<|zE xQ<|zE xQ<|zZ
        ·replace hb8:=eq_of_beq hb8
         refine zE (kV mT)<|zR (uE cL)<|zE xK<|zE (oV (vb (decide ((t.getD k tz).b<0))) (qC (by kernel_rfl)))<|?_
         rcases hb9:(decide ((t.getD k tz).b<0)) with _ | _
         ·replace hb9:=vB hb9
          exact zE (kV mT)<|zR (uE cL)<|zM<|zE oGe<|zE dG<|zE fR<|zE dG<|zZ
         ·replace hb9:=uV hb9
          exact zK<|zK<|zK<|zK<|zE yR<|zE yR<|zE xQ<|zZ
       ·replace hb7:=uV hb7
        refine zE (kV gS)<|zR (uE cL)<|zE xK<|zE (oV (vb (decide ((t.getD k tz).a<0))) (qC (by kernel_rfl)))<|?_
        rcases hb10:(decide ((t.getD k tz).a<0)) with _ | _
        ·replace hb10:=vB hb10
         refine zE (kV gS)<|zR (uE cL)<|zM<|zE oGe<|zE dG<|zE fR<|zE (oV (vb (true&&(false||decide (((k:Nat):Int)<=(t.getD k tz).a)))) (qC (by kernel_rfl)))<|?_
         rcases hb11:(decide (((k:Nat):Int)<=(t.getD k tz).a)) with _ | _
         ·replace hb11:=vB hb11
          refine zM<|zE xR<|zE (oV (vb ((xG ((t.getD k tz).op)) == 2)) (qC (by kernel_rfl)))<|?_
          rcases hb12:((xG ((t.getD k tz).op)) == 2) with _ | _
          ·replace hb12:=ne_of_beq_false hb12
           exact zK<|zK<|zK<|zK<|zK<|zK<|zK<|zK<|zK<|zE xQ<|zE xQ<|zZ
          ·replace hb12:=eq_of_beq hb12
           refine zE (kV mT)<|zR (uE cL)<|zE xK<|zE (oV (vb (decide ((t.getD k tz).b<0))) (qC (by kernel_rfl)))<|?_
           rcases hb13:(decide ((t.getD k tz).b<0)) with _ | _
           ·replace hb13:=vB hb13
            exact zE (kV mT)<|zR (uE cL)<|zM<|zE oGe<|zE dG<|zE fR<|zE dG<|zZ
           ·replace hb13:=uV hb13
            exact zK<|zK<|zK<|zK<|zE yR<|zE yR<|zE xQ<|zZ
         ·replace hb11:=uV hb11
          exact zK<|zK<|zK<|zK<|zK<|zK<|zK<|zK<|zK<|zK<|zK<|zK<|zK<|zE yR<|zZ
        ·replace hb10:=uV hb10
         exact zK<|zK<|zK<|zK<|zE yR<|zE yR<|zM<|zK<|zK<|zK<|zK<|zK<|zK<|zK<|zK<|zK<|zK<|zK<|zK<|zK<|zE yR<|zZ
      refine jG rfl (fun h14=>?_) (fun h14=>?_)
      ·refine jB<|kx [(4,(vl 3 1 qK [])),(5,(jS 5))] [] (zE (aZ 3 1)<|zM<|zZ) ?_
       refine jE ⟨_,(.tmp (d:=(.sl 3 1 (List.map qK []))) rfl (.tmp (d:=(.val (.int .i64 (5)))) rfl .nil)),?_⟩
       have he:=hR.ord hB (by rw[<- orD_eq];exact h14)
       rw[he.1,he.2];rfl
      ·have hO:ordB ((k:Nat):Int) (t.getD k tz)=false:=by rw[<- orD_eq];exact h14
       refine jC<|jB<|jB<|kx [(77,(vb (((t.getD k tz).op == 1)&&(decide ((t.getD k tz).a<0)||decide (z<=(t.getD k tz).a)))))] [] ?_ ?_
       ·refine zE (kV gB)<|zR (uE fM)<|zE xR<|zE (oV (vb ((t.getD k tz).op == 1)) (qC (by kernel_rfl)))<|?_
        rcases hb15:((t.getD k tz).op == 1) with _ | _
        ·replace hb15:=ne_of_beq_false hb15
         exact zK<|zK<|zK<|zK<|zK<|zK<|zK<|zK<|zK<|zE xQ<|zZ
        ·replace hb15:=eq_of_beq hb15
         refine zE (kV gS)<|zR (uE cL)<|zE xK<|zE (oV (vb (decide ((t.getD k tz).a<0))) (qC (by kernel_rfl)))<|?_
         rcases hb16:(decide ((t.getD k tz).a<0)) with _ | _
         ·replace hb16:=vB hb16
          exact zE (kV gS)<|zR (uE cL)<|zM<|zE oGe<|zE dG<|zE fR<|zZ
         ·replace hb16:=uV hb16
          exact zK<|zK<|zK<|zK<|zE yR<|zE yR<|zZ
       refine jG rfl (fun h17=>?_) (fun h17=>?_)
       ·refine jB<|kx [(4,(vl 3 1 qK [])),(5,(jS 2))] [] (zE (aZ 3 1)<|zM<|zZ) ?_
        refine jE ⟨_,(.tmp (d:=(.sl 3 1 (List.map qK []))) rfl (.tmp (d:=(.val (.int .i64 (2)))) rfl .nil)),?_⟩
        have he:=hR.rng hB hO h17
        rw[he.1,he.2];rfl
       ·have hN:=ndr hR hB hO h17
        refine jC<|jB<|kx [(10,(jS 1))] [] (zM<|zZ) ?_
        refine pwp_meet (α:=Int) (fun v=>⟨[(1,(vi z)),(6,(.own 0 3 1 o.length)),(8,(.ref 1 0)),(9,(vi (xG ((t.getD k tz).op)))),(10,(vi v)),(24,(vl 83 7 kS t)),(25,(jS t.length)),(26,(jS k))],[(0,some (bm qK o)),(1,some (bx (kS (t.getD k tz))))]⟩) (fun v=>((¬ 1<=xG (t.getD k tz).op->v=1)/\(1<=xG (t.getD k tz).op->v=(o.getD (((t.getD k tz).a).toNat) 0)))/\1<=v/\v<=4096) ?_ ?_
        ·refine jB<|kx [(79,(vb (decide (1<=(xG ((t.getD k tz).op))))))] [] (zM<|zE oGe<|zZ) ?_
         refine jG (b:=decide (1<=(xG ((t.getD k tz).op)))) rfl (fun h18=>?_) (fun h18=>?_)
         ·replace h18:=uV h18
          have hka:=h18
          obtain ⟨a1,a2,a3,a4⟩:=hN.a2 h18
          rw[<- ho] at a3 a4
          refine kx [(10,(vi (o.getD (((t.getD k tz).a).toNat) 0)))] [] (zM<|zE (kV gS)<|zR (uE cL)<|zE (iE nW (((t.getD k tz).a).toNat))<|zR (oLp cL (((t.getD k tz).a).toNat) (0:Int))<|zM<|zZ) ?_
          exact met (o.getD (((t.getD k tz).a).toNat) 0) wk (⟨⟨fun hx=>absurd hka hx,fun _=>rfl⟩,a3,a4⟩)
         ·replace h18:=vB h18
          have hka:=h18
          refine jC ?_
          exact met 1 wk (⟨⟨fun _=>rfl,fun hx=>absurd hx hka⟩,by decide,by decide⟩)
        ·rintro v ⟨hv1,hv2,hv3⟩
         refine pwp_meet (α:=Int) (fun w=>⟨[(1,(vi z)),(6,(.own 0 3 1 o.length)),(8,(.ref 1 0)),(9,(vi (xG ((t.getD k tz).op)))),(10,(vi w)),(24,(vl 83 7 kS t)),(25,(jS t.length)),(26,(jS k))],[(0,some (bm qK o)),(1,some (bx (kS (t.getD k tz))))]⟩) (fun w=>(((t.getD k tz).op=7->w=2*v)/\((t.getD k tz).op≠7->w=v))/\1<=w/\w<=8192) ?_ ?_
         ·refine jB<|kx [(87,(vb ((t.getD k tz).op == 7)))] [] (zE (kV gB)<|zR (uE fM)<|zE xR<|zZ) ?_
          refine jG (b:=((t.getD k tz).op == 7)) rfl (fun h19=>?_) (fun h19=>?_)
          ·replace h19:=eq_of_beq h19
           refine kx [(10,(vi (2*v)))] [] (zM<|zE (zMl (2*v))<|zM<|zZ) ?_
           exact met (2*v) wk (⟨⟨fun _=>rfl,fun hx=>absurd h19 hx⟩,by omega,by omega⟩)
          ·replace h19:=ne_of_beq_false h19
           refine jC ?_
           exact met v wk (⟨⟨fun hx=>absurd hx h19,fun _=>rfl⟩,hv2,by omega⟩)
         ·rintro w ⟨hw1,hw2,hw3⟩
          refine pwp_meet (α:=Int) (fun u=>⟨[(1,(vi z)),(6,(.own 0 3 1 o.length)),(10,(vi u)),(24,(vl 83 7 kS t)),(25,(jS t.length)),(26,(jS k))],[(0,some (bm qK o))]⟩) (fun u=>u=szN (cW t k) (t.getD k tz)) ?_ ?_
          ·refine jB<|kx [(91,(vb ((xG ((t.getD k tz).op)) == 2)))] [] (zM<|zE xR<|zZ) ?_
           refine jG (b:=((xG ((t.getD k tz).op)) == 2)) rfl (fun h20=>?_) (fun h20=>?_)
           ·replace h20:=eq_of_beq h20
            have hk2:=h20
            obtain ⟨b1,b2,b3,b4⟩:=hN.b2 h20
            rw[<- ho] at b3 b4
            refine kx [(10,(vi (w+(o.getD (((t.getD k tz).b).toNat) 0))))] [] (zM<|zM<|zE (kV mT)<|zR (uE cL)<|zE (iE nW (((t.getD k tz).b).toNat))<|zR (oLp cL (((t.getD k tz).b).toNat) (0:Int))<|zE (zAd (w+(o.getD (((t.getD k tz).b).toNat) 0)))<|zM<|zZ) ?_
            exact met (w+(o.getD (((t.getD k tz).b).toNat) 0)) wk (by rw[ho];rw[ho] at hv1;exact (szD_all hN.bad hv1 hw1).1 hk2)
           ·replace h20:=ne_of_beq_false h20
            refine jC ?_
            exact met w wk (by rw[ho] at hv1;exact (szD_all hN.bad hv1 hw1).2 h20)
          ·rintro u hv
           refine jB<|jB<|kx [(100,(vb (decide (4096<u))))] [] (zM<|zE hH<|zZ) ?_
           refine jG (b:=decide (4096<u)) rfl (fun h21=>?_) (fun h21=>?_)
           ·replace h21:=uV h21
            refine jB<|kx [(4,(vl 3 1 qK [])),(5,(jS 3))] [] (zE (aZ 3 1)<|zM<|zZ) ?_
            refine jE ⟨_,(.tmp (d:=(.sl 3 1 (List.map qK []))) rfl (.tmp (d:=(.val (.int .i64 (3)))) rfl .nil)),?_⟩
            have he:=hN.bg hv h21
            rw[he.1,he.2];rfl
           ·replace h21:=vB h21
            refine jC<|kf [(6,(.own 0 3 1 ((o++[u]).length)))] [(0,some (bm qK (o++[u])))] (zM<|zM<|zE (eE nW ze3 zo3)<|zA qK o [u] rfl nW ze3 by3<|zM<|zF) ?_
            refine kx [(26,(jS (k+1)))] [] (zE (vO (k+1))<|zM<|zZ) ?_
            exact ⟨(k+1,o++[u]),wk,(by obtain ⟨q1,q2⟩:=hN.nx hv h21;exact ⟨by omega,by rw[<- q2,ho],q1⟩),(by first|omega|(dsimp only;omega))⟩
    ·replace h5:=vB h5
     refine kD<|jB<|kx [(4,(.own 0 3 1 o.length)),(5,(jS 0))] [] (zM<|zM<|zM<|zZ) ?_
     refine kU (xC (t:=4) (k:=0) (es:=List.map qK o) rfl rfl (vD _ _ (fun _=>rfl)) (uW _ _ rfl) (xE _ _ (fun _=>rfl) rfl)) ?_
     refine jE ⟨_,(.tmp (d:=(.sl 3 1 (List.map qK o))) rfl (.tmp (d:=(.val (.int .i64 (0)))) rfl .nil)),?_⟩
     have he:=tm_end2 hz0 h0 h400 hk h5 hu
     rw[he.1,he.2,<- ho];rfl
theorem u_chk(t:List qB)(ht:zL 1048576 t)(z:Int):jO Tryz.prog 20 [(.sl 83 7 (List.map kS t)),(.val (.int .i64 (z)))] (.val (.int .i64 ((((gK z t):Nat):Int)))):=by
 refine qY Tryz.func20 ?_
 refine jB<|kx [] [] (zM<|zZ) ?_
 refine jB<|kx [(6,(jS (gK z t)))] [] (zM<|zM<|zE (jV (u_sizes t ht z))<|zM<|zE uX<|zE uX<|zM<|zM<|zZ) ?_
 refine jB<|kx [(4,(jS (gK z t)))] [] (zM<|zM<|zZ) ?_
 refine jE ⟨_,(.tmp (d:=(.val (.int .i64 ((((gK z t):Nat):Int))))) rfl .nil),?_⟩
 rfl
theorem u_wF(x:qB)(y z:jL)(bv:List R2)(hbx:∀ x∈bv,GL 1048576 x)(L:List JV)(hdz:DzOk L x)(hLk:∀ e9∈L,nZ 1048576 bv.length e9)(hy:1<=xG x.op->y=jY (jA L x.a).v)(hz:xG x.op=2->z=jY (jA L x.b).v):jO Tryz.prog 110 [(kS x),(jF y),(jF z),(.sl 61 8 (List.map jF (List.map jY bv)))] (.tup [(jF (jL.mk kH kH)),(.val (.int .i64 (((14:Nat):Int))))]):=by
 have hk:=hdz.kd
 obtain ⟨a,b,rfl,ha,hb,hz0⟩:=hdz
 rw[hy (by omega),hz hk]
 exact u_vF _ _ _ (cY hLk ha).1 _ (cY hLk hb).1 _ hz0
theorem u_vlR(rb:List jL)(hrb:∀ a∈rb,GOk 1048576 a)(hbl:rb.length<=1000000):jO Tryz.prog 50 [(.sl 61 8 (List.map jF rb))] (.val (.bool ((List.all rb uJ)))):=by
 let y1:=(jL.mk kH kH)
 refine qY Tryz.func50 ?_
 refine jB<|kx [] [] (zM<|zZ) ?_
 refine jB<|jB<|kx [(5,(vl 61 8 jF rb)),(6,(jS rb.length)),(7,(jS 0))] [] (zM<|zE (vP uA)<|zM<|zZ) ?_
 refine jH<|kF (α:=Nat) (fun i=>⟨[(5,(vl 61 8 jF rb)),(6,(jS rb.length)),(7,(jS i))],[]⟩) (fun i=>i<=rb.length/\(rb.take i).all uJ=true) (fun i=>rb.length-i) 0 wk ⟨Nat.zero_le _,by simp⟩ ?_
 rintro i ⟨hi,hal⟩
 refine jB<|kx [(8,(vb (decide (((i:Nat):Int)<((rb.length:Nat):Int)))))] [] (zE xK<|zZ) ?_
 refine jB<|jG rfl (fun h1=>?_) (fun h1=>?_)
 ·replace h1:=uV h1
  refine jC<|jB<|jH<|jB<|kx [(4,(.ref 0 0))] [(0,some (bx (jF (rb.getD i y1))))] (zE (yE uA i y1)<|zE (yJ jP)<|zN (qR 0 qJ qL)<|zT (qA jP)<|zZ) ?_
  refine jB<|kx [(13,(vb (!(uJ (rb.getD i y1)))))] [] (zR (kJ jP)<|zE (jV (h_valid (rb.getD i y1) (zU (bE hrb (show i<rb.length by omega)))))<|zE gD<|zZ) ?_
  refine jG rfl (fun h2=>?_) (fun h2=>?_)
  ·refine jB<|kx [(2,(vb false))] [] (zM<|zZ) ?_
   refine jE ⟨_,(.tmp (d:=(.val (.bool (false)))) rfl .nil),?_⟩
   rw[all_not (f:=uJ) (l:=rb) (i:=i) (d:=(jL.mk kH kH)) (by omega) (by simpa using h2)];rfl
  ·refine jC<|kx [(7,(jS (i+1)))] [] (zE (vO (i+1))<|zM<|zZ) ?_
   exact ⟨(i+1),wk,⟨by omega,all_take (d:=(jL.mk kH kH)) (by omega) hal (by simpa using h2)⟩,(by first|omega|(dsimp only;omega))⟩
 ·replace h1:=vB h1
  have hie:i=rb.length:=by omega
  rw[hie,List.take_length] at hal
  refine kD<|jB<|kx [(2,(vb true))] [] (zM<|zZ) ?_
  refine jE ⟨_,(.tmp (d:=(.val (.bool (true)))) rfl .nil),?_⟩
  rw[hal];rfl
theorem u_vlB(bv:List R2)(hbx:∀ x∈bv,GL 1048576 x)(hbl:bv.length<=1000000):jO Tryz.prog 50 [(.sl 61 8 (List.map jF (List.map jY bv)))] (.val (.bool true)):=by
 have h:=u_vlR (List.map jY bv) (gok_map hbx) (by rw[List.length_map];exact hbl)
 rw[valid_map hbx] at h
 exact h
theorem u_jetsU(t:List qB)(ht:zL 1048576 t)(bv:List R2)(hbx:∀ x∈bv,GL 1048576 x)(k0:Nat)(hr:DEnd bv t k0)(hbl:bv.length<=1000000):jO Tryz.prog 51 [(.sl 83 7 (List.map kS t)),(.sl 61 8 (List.map jF (List.map jY bv))),(.val (.int .i64 (((1:Nat):Int)))),(.val (.int .i64 (-1)))] (.tup [(jI (dJ bv t k0)),(.val (.int .i64 ((((dC t k0):Nat):Int))))]):=by
 have h0:=tm_0 hr.c0
 have hle:=hr.le
 let y2:=(jL.mk kH kH)
 let y1:=(bx (jI (vX.mk y2 [] [])))
 refine qY Tryz.func51 ?_
 refine jB<|kx [(8,(.ref 0 0))] [(0,some y1)] (zN (qR 0 mE cG)<|zM<|zZ) ?_
 refine jB<|jB<|kx [(25,(vb false))] [] (zM<|zE (jV (u_vlB bv hbx hbl))<|zE gD<|zZ) ?_
 refine kM ?_
 refine jC<|jB<|jB<|kx [(36,(vb false))] [] (zM<|zE (uP false xK)<|zM<|zM<|zE (uP false hH)<|zE xQ<|zM<|zM<|zE (uP false hH)<|zE xQ<|zZ) ?_
 refine kM ?_
 refine jC<|jB<|jB<|kx [(10,(jS (gK ((bv.length:Nat):Int) t)))] [] (zM<|zM<|zE (fO uA bv.length)<|zE (jV (u_chk t ht ((bv.length:Nat):Int)))<|zM<|zZ) ?_
 refine jB<|kx [(43,(vb ((((gK ((bv.length:Nat):Int) t):Nat):Int) != ((0:Nat):Int))))] [] (zM<|zE mF<|zZ) ?_
 refine jG rfl (fun h=>absurd (Eq.trans (Eq.symm (show (((((gK ((bv.length:Nat):Int) t):Nat):Int) != ((0:Nat):Int)))=false from bne_eq_false_iff_eq.2 (by rw[show (gK ((bv.length:Nat):Int) t)=0 from hr.c0]<;>rfl))) h) (by decide)) (fun _=>?_)
 refine jC<|jB<|kx [(11,(.own 1 95 10 0))] [(1,some (yU jI []))] (zN (oBo 1 dY mE cG)<|zM<|zZ) ?_
 refine jB<|jB<|kx [(47,(vl 83 7 kS t)),(48,(jS t.length)),(49,(jS 0))] [] (zM<|zE (vP iW)<|zM<|zZ) ?_
 refine jH<|kF (α:=Nat × List vX) (fun (k,o)=>⟨[(1,(vl 61 8 jF (List.map jY bv))),(2,(jS 1)),(3,(vi (-1))),(8,(.ref 0 0)),(11,(.own 1 95 10 o.length)),(47,(vl 83 7 kS t)),(48,(jS t.length)),(49,(jS k))],[(0,some y1),(1,some (yU jI o))]⟩) (fun (k,o)=>k<=k0/\o=List.map qW (jU bv t k)) (fun (k,o)=>t.length-k) (0,[]) wk ⟨Nat.zero_le _,rfl⟩ ?_
 rintro ⟨k,o⟩ ⟨hk,ho⟩
 have hju:=cX bv t k
 have hol:o.length=k:=by rw[ho,List.length_map,hju]
 have hget:∀ j,j<k->o.getD j (vX.mk (jL.mk kH kH) [] [])=qW ((jU bv t k).getD j jz):=fun j hj=>by rw[ho];exact cP qW _ jz _ (by omega)
 refine jB<|kx [(50,(vb (decide (((k:Nat):Int)<((t.length:Nat):Int)))))] [] (zE xK<|zZ) ?_
 refine jB<|jG rfl (fun h1=>?_) (fun h1=>?_)
 ·replace h1:=uV h1
  have hl9:k<t.length:=by omega
  have hS:=hr.st hk hl9
  refine jC<|jB<|jH<|jB<|kx [(13,(.ref 2 0))] [(2,some (bx (kS (t.getD k tz))))] (zE (yE iW k (tz:qB))<|zE (yJ iR)<|zH (qR 2 ze83 zo83)<|zT (qA iR)<|zZ) ?_
  refine jB<|kx [(14,(.ref 3 0)),(15,(.ref 4 0))] [(3,some y1),(4,some y1)] (zE (eD pl95 mE cG)<|zE (eD pl95 mE cG)<|zH (qR 3 mE cG)<|zH (qR 4 mE cG)<|zT (qA gU)<|zT (qA gU)<|zZ) ?_
  refine pwp_meet (α:=vX) (fun y=>⟨[(1,(vl 61 8 jF (List.map jY bv))),(2,(jS 1)),(3,(vi (-1))),(8,(.ref 0 0)),(11,(.own 1 95 10 o.length)),(13,(.ref 2 0)),(14,(.ref 3 0)),(15,(.ref 4 0)),(47,(vl 83 7 kS t)),(48,(jS t.length)),(49,(jS k))],[(0,some y1),(1,some (yU jI o)),(2,some (bx (kS (t.getD k tz)))),(3,some (bx (jI y))),(4,some y1)]⟩) (fun y=>1<=xG (t.getD k tz).op->y=qW (jA (jU bv t k) (t.getD k tz).a)) ?_ ?_
  ·refine jB<|kx [(58,(vb (decide (((1:Nat):Int)<=(xG ((t.getD k tz).op))))))] [] (zE (kV gB)<|zR (uE fM)<|zE (jV (r_kids ((t.getD k tz).op)))<|zE oGe<|zZ) ?_
   refine jG rfl (fun h2=>?_) (fun h2=>?_)
   ·replace h2:=uV h2
    obtain ⟨a1,a2⟩:=hS.a (by omega)
    refine kx [] [(3,some (bx (jI (qW ((jU bv t k).getD (t.getD k tz).a.toNat jz)))))] (zM<|zE (kV gS)<|zR (uE cL)<|zE (oXO dY (((t.getD k tz).a).toNat))<|zR (oQr (jI (o.getD (((t.getD k tz).a).toNat) (vX.mk y2 [] []))) (jI (qW ((jU bv t k).getD (t.getD k tz).a.toNat jz))) (oLA gU (((t.getD k tz).a).toNat) (vX.mk y2 [] [])) (by exact (congrArg jI (hget _ (show (t.getD k tz).a.toNat<k by omega)))))<|zT (qA gU)<|zZ) ?_
    exact met (qW (jA (jU bv t k) (t.getD k tz).a)) wk (fun _=>rfl)
   ·replace h2:=vB h2
    refine jC ?_
    exact met (vX.mk (jL.mk kH kH) [] []) wk (fun hx=>absurd hx (by omega))
  ·rintro y hy
   refine pwp_meet (α:=vX) (fun z=>⟨[(1,(vl 61 8 jF (List.map jY bv))),(2,(jS 1)),(3,(vi (-1))),(8,(.ref 0 0)),(11,(.own 1 95 10 o.length)),(13,(.ref 2 0)),(14,(.ref 3 0)),(15,(.ref 4 0)),(47,(vl 83 7 kS t)),(48,(jS t.length)),(49,(jS k))],[(0,some y1),(1,some (yU jI o)),(2,some (bx (kS (t.getD k tz)))),(3,some (bx (jI y))),(4,some (bx (jI z)))]⟩) (fun z=>xG (t.getD k tz).op=2->z=qW (jA (jU bv t k) (t.getD k tz).b)) ?_ ?_
   ·refine jB<|kx [(67,(vb ((xG ((t.getD k tz).op)) == ((2:Nat):Int))))] [] (zE (kV gB)<|zR (uE fM)<|zE (jV (r_kids ((t.getD k tz).op)))<|zE xR<|zZ) ?_
    refine jG rfl (fun h3=>?_) (fun h3=>?_)
    ·replace h3:=eq_of_beq h3
     obtain ⟨b1,b2⟩:=hS.b h3
     refine kx [] [(4,some (bx (jI (qW ((jU bv t k).getD (t.getD k tz).b.toNat jz)))))] (zM<|zE (kV mT)<|zR (uE cL)<|zE (oXO dY (((t.getD k tz).b).toNat))<|zR (oQr (jI (o.getD (((t.getD k tz).b).toNat) (vX.mk y2 [] []))) (jI (qW ((jU bv t k).getD (t.getD k tz).b.toNat jz))) (oLA gU (((t.getD k tz).b).toNat) (vX.mk y2 [] [])) (by exact (congrArg jI (hget _ (show (t.getD k tz).b.toNat<k by omega)))))<|zT (qA gU)<|zZ) ?_
     exact met (qW (jA (jU bv t k) (t.getD k tz).b)) wk (fun _=>rfl)
    ·replace h3:=ne_of_beq_false h3
     refine jC ?_
     exact met (vX.mk (jL.mk kH kH) [] []) wk (fun hx=>absurd hx h3)
   ·rintro z hz
    refine jB ?_
    rcases hlt0:(decide (k<k0)) with _ | _
    ·have hd9:=hr.dzk hk hl9 (vB hlt0)
     refine kx [(16,(.ref 5 0)),(17,(jS 14))] [(5,some (bx (jF y2)))] (zR (kJ iR)<|zE (kV zJ)<|zR (kJ jP)<|zE (kV zJ)<|zR (kJ jP)<|zM<|zE (jV (u_wF (t.getD k tz) y.value z.value bv hbx (jU bv t k) hd9 (hr.ok k hk) (fun hx=>congrArg vX.value (hy hx)) (fun hx=>congrArg vX.value (hz hx))))<|zM<|zE uX<|zE uX<|zH (qR 5 qJ qL)<|zT (qA jP)<|zM<|zZ) ?_
     refine jB<|jB<|kx [(84,(vb true))] [] (zM<|zE (uP true mF)<|zZ) ?_
     refine uI ?_
     refine jB<|kx [(9,(jS 14))] [(0,some y1)] (zE (eD pl95 mE cG)<|zM<|zT (qA gU)<|zM<|zZ) ?_
     refine jE ⟨_,(kI (cs:=y1) (d:=(jI (vX.mk y2 [] []))) rfl rfl gU rfl rfl (.tmp (d:=(.val (.int .i64 (((14:Nat):Int))))) rfl .nil)),?_⟩
     have hk0:k0=k:=by have:=vB hlt0;omega
     rw[hk0,dJ_n hl9,dC_n hl9];rfl
    ·refine kx [(16,(.ref 5 0)),(17,(jS 0))] [(5,some (bx (jF (jY (nV bv (jU bv t k) (t.getD k tz))))))] (zR (kJ iR)<|zE (kV zJ)<|zR (kJ jP)<|zE (kV zJ)<|zR (kJ jP)<|zM<|zE (jV (u_w (t.getD k tz) y.value z.value bv hbx (jU bv t k) hbl (hr.nd k (uV hlt0)) (hr.ok k hk) (hr.nv k (uV hlt0)) (fun hx=>congrArg vX.value (hy hx)) (fun hx=>congrArg vX.value (hz hx))))<|zM<|zE uX<|zE uX<|zH (qR 5 qJ qL)<|zT (qA jP)<|zM<|zZ) ?_
     refine jB<|jB<|kx [(84,(vb false))] [] (zM<|zE (uP false mF)<|zZ) ?_
     refine kM ?_
     refine jC<|jB<|kx [(18,(.ref 6 0))] [(6,some (bx (.agg (jZ.cells (jF (jY (nV bv (jU bv t k) (t.getD k tz))))++[(.val (.slice none 0 0)),(.val (.slice none 0 0))]))))] (zR (kJ jP)<|zM<|zE (jV (u_held (nV bv (jU bv t k) (t.getD k tz)) (kW ((hr.nv k (uV hlt0)).1))))<|zE (eD pl95 mE zn95)<|zH (qR 6 mE cG)<|zT (qA gU)<|zZ) ?_
     refine jB<|jB<|kx [(92,(vb true))] [] (zM<|zE (uP true oGe)<|zZ) ?_
     refine uI ?_
     refine jB<|bN 6 8 7 61 8 (cs:=(bx (.agg (jZ.cells (jF (jY (nV bv (jU bv t k) (t.getD k tz))))++[(.val (.slice none 0 0)),(.val (.slice none 0 0))])))) (h:=?_)
     refine kU (wk (l:=[(1,(vl 61 8 jF (List.map jY bv))),(2,(jS 1)),(3,(vi (-1))),(8,(.ref 0 0)),(11,(.own 1 95 10 o.length)),(13,(.ref 2 0)),(14,(.ref 3 0)),(15,(.ref 4 0)),(18,(.ref 6 0)),(47,(vl 83 7 kS t)),(48,(jS t.length)),(49,(jS k)),(92,(vb true))]) (b:=[(0,some y1),(1,some (yU jI o)),(2,some (bx (kS (t.getD k tz)))),(3,some (bx (jI y))),(4,some (bx (jI z))),(6,some (bx (jF (jY (nV bv (jU bv t k) (t.getD k tz))))++[(.own 7 61 8 0),(.d (.val (.slice none 0 0)))])),(7,some (yU jF []))])) ?_
     refine bN 6 9 8 86 1 (cs:=(bx (jF (jY (nV bv (jU bv t k) (t.getD k tz))))++[(.own 7 61 8 0),(.d (.val (.slice none 0 0)))])) (h:=?_)
     refine kU (wk (l:=[(1,(vl 61 8 jF (List.map jY bv))),(2,(jS 1)),(3,(vi (-1))),(8,(.ref 0 0)),(11,(.own 1 95 10 o.length)),(13,(.ref 2 0)),(14,(.ref 3 0)),(15,(.ref 4 0)),(18,(.ref 6 0)),(47,(vl 83 7 kS t)),(48,(jS t.length)),(49,(jS k)),(92,(vb true))]) (b:=[(0,some y1),(1,some (yU jI o)),(2,some (bx (kS (t.getD k tz)))),(3,some (bx (jI y))),(4,some (bx (jI z))),(6,some (bx (jF (jY (nV bv (jU bv t k) (t.getD k tz))))++[(.own 7 61 8 0),(.own 8 86 1 0)])),(7,some (yU jF [])),(8,some (bm uN []))])) ?_
     refine kx [(94,(jS bv.length)),(95,(jS 0))] [] (zM<|zE (fO uA bv.length)<|zM<|zZ) ?_
     refine jH<|kF (α:=Nat × List jL) (fun (i,gl)=>⟨[(1,(vl 61 8 jF (List.map jY bv))),(2,(jS 1)),(3,(vi (-1))),(8,(.ref 0 0)),(11,(.own 1 95 10 o.length)),(13,(.ref 2 0)),(14,(.ref 3 0)),(15,(.ref 4 0)),(18,(.ref 6 0)),(47,(vl 83 7 kS t)),(48,(jS t.length)),(49,(jS k)),(94,(jS bv.length)),(95,(jS i))],[(0,some y1),(1,some (yU jI o)),(2,some (bx (kS (t.getD k tz)))),(3,some (bx (jI y))),(4,some (bx (jI z))),(6,some (bx (jF (jY (nV bv (jU bv t k) (t.getD k tz))))++[(.own 7 61 8 gl.length),(.own 8 86 1 0)])),(7,some (yU jF gl)),(8,some (bm uN []))]⟩) (fun (i,gl)=>i<=bv.length/\gl=List.map jY (List.map (fun (i:Nat)=>nG bv (jU bv t k) (t.getD k tz) i) (List.range i))) (fun (i,gl)=>bv.length-i) (0,[]) wk ⟨Nat.zero_le _,rfl⟩ ?_
     rintro ⟨i,gl⟩ ⟨hi,hg⟩
     have hgl:gl.length=i:=jk_len (G:=(fun (i:Nat)=>nG bv (jU bv t k) (t.getD k tz) i)) hg
     refine jB<|kx [(96,(vb (decide (((i:Nat):Int)<((bv.length:Nat):Int)))))] [] (zE xK<|zZ) ?_
     refine jB<|jG rfl (fun h4=>?_) (fun h4=>?_)
     ·replace h4:=uV h4
      refine jC<|jB<|jH<|jB<|kx [(19,(jS i))] [] (zM<|zM<|zZ) ?_
      refine kd [] [(6,some (bx (jF (jY (nV bv (jU bv t k) (t.getD k tz))))++[(.own 9 61 8 ((gl++[(jY (nG bv (jU bv t k) (t.getD k tz) i))]).length)),(.own 8 86 1 0)])),(9,some (yU jF (gl++[(jY (nG bv (jU bv t k) (t.getD k tz) i))]))),(7,none)] mo (wE (kV xO)<|wR (uE cB)<|wR (kJ iR)<|wR (kJ gU)<|wR (kJ gU)<|wE (kV zJ)<|wR (kJ jP)<|wM<|wE (jV (u_x (t.getD k tz) y z (jY (nV bv (jU bv t k) (t.getD k tz))) i bv (jU bv t k) (hr.nd k (uV hlt0)) (hr.ok k hk) (hr.nv k (uV hlt0)) (by omega) (by assumption) (by assumption) rfl))<|wM<|wE (jV (u_held (nG bv (jU bv t k) (t.getD k tz) i) (kW (nG_gl (hr.nv k (uV hlt0)) (by omega)))))<|wE (eE uA qJ qL)<|wAS (k:=7) 9 jF gl [(jY (nG bv (jU bv t k) (t.getD k tz) i))] rfl uA qJ by61<|wE (kV xO)<|wT (oSx cB)<|wZ) ?_
      refine kU (wk (l:=[(1,(vl 61 8 jF (List.map jY bv))),(2,(jS 1)),(3,(vi (-1))),(8,(.ref 0 0)),(11,(.own 1 95 10 o.length)),(13,(.ref 2 0)),(14,(.ref 3 0)),(15,(.ref 4 0)),(18,(.ref 6 0)),(47,(vl 83 7 kS t)),(48,(jS t.length)),(49,(jS k)),(94,(jS bv.length)),(95,(jS i))]) (b:=[(0,some y1),(1,some (yU jI o)),(2,some (bx (kS (t.getD k tz)))),(3,some (bx (jI y))),(4,some (bx (jI z))),(6,some (bx (jF (jY (nV bv (jU bv t k) (t.getD k tz))))++[(.own 9 61 8 ((gl++[(jY (nG bv (jU bv t k) (t.getD k tz) i))]).length)),(.own 8 86 1 0)])),(8,some (bm uN [])),(9,some (yU jF (gl++[(jY (nG bv (jU bv t k) (t.getD k tz) i))])))])) ?_
      refine kU (iY (S':=[(1,(vl 61 8 jF (List.map jY bv))),(2,(jS 1)),(3,(vi (-1))),(8,(.ref 0 0)),(11,(.own 1 95 10 o.length)),(13,(.ref 2 0)),(14,(.ref 3 0)),(15,(.ref 4 0)),(18,(.ref 6 0)),(47,(vl 83 7 kS t)),(48,(jS t.length)),(49,(jS k)),(94,(jS bv.length)),(95,(jS i))]) (B':=[(0,some y1),(1,some (yU jI o)),(2,some (bx (kS (t.getD k tz)))),(3,some (bx (jI y))),(4,some (bx (jI z))),(6,some (bx (jF (jY (nV bv (jU bv t k) (t.getD k tz))))++[(.own 7 61 8 ((gl++[(jY (nG bv (jU bv t k) (t.getD k tz) i))]).length)),(.own 8 86 1 0)])),(7,some (yU jF (gl++[(jY (nG bv (jU bv t k) (t.getD k tz) i))]))),(8,some (bm uN []))]) 7 9 6) ?_
      refine kx [(95,(jS (i+1)))] [] (zE (vO (i+1))<|zM<|zZ) ?_
      exact ⟨(i+1,gl++[jY (nG bv (jU bv t k) (t.getD k tz) i)]),wk,⟨by omega,jk_push (G:=(fun (i:Nat)=>nG bv (jU bv t k) (t.getD k tz) i)) hg⟩,(by first|omega|(dsimp only;omega))⟩
     ·replace h4:=vB h4
      refine kD<|jB<|jB<|kx [(114,(vb false))] [] (zM<|zE (uP false xR)<|zZ) ?_
      refine kM ?_
      refine jC<|kU (eJ (j:=6) (k:=7) (pre:=(bx (jF (jY (nV bv (jU bv t k) (t.getD k tz)))))) (post:=[(.own 8 86 1 0)]) (es:=List.map jF gl) rfl (by decide) rfl (gC _ _ (fun _=>rfl)) (uW _ _ rfl) (hZ jF gl (fun _=>rfl) rfl)) ?_
      refine kU (wk (l:=[(1,(vl 61 8 jF (List.map jY bv))),(2,(jS 1)),(3,(vi (-1))),(8,(.ref 0 0)),(11,(.own 1 95 10 o.length)),(13,(.ref 2 0)),(14,(.ref 3 0)),(15,(.ref 4 0)),(18,(.ref 6 0)),(47,(vl 83 7 kS t)),(48,(jS t.length)),(49,(jS k)),(114,(vb false))]) (b:=[(0,some y1),(1,some (yU jI o)),(2,some (bx (kS (t.getD k tz)))),(3,some (bx (jI y))),(4,some (bx (jI z))),(6,some (bx (jF (jY (nV bv (jU bv t k) (t.getD k tz))))++[(vl 61 8 jF gl),(.own 8 86 1 0)])),(8,some (bm uN []))])) ?_
      refine kU (eJ (j:=6) (k:=8) (pre:=(bx (jF (jY (nV bv (jU bv t k) (t.getD k tz))))++[(vl 61 8 jF gl)])) (post:=[]) (es:=List.map uN []) rfl (by decide) rfl (vD _ _ (fun _=>rfl)) (uW _ _ rfl) (xE _ _ (fun _=>rfl) rfl)) ?_
      refine kU (wk (l:=[(1,(vl 61 8 jF (List.map jY bv))),(2,(jS 1)),(3,(vi (-1))),(8,(.ref 0 0)),(11,(.own 1 95 10 o.length)),(13,(.ref 2 0)),(14,(.ref 3 0)),(15,(.ref 4 0)),(18,(.ref 6 0)),(47,(vl 83 7 kS t)),(48,(jS t.length)),(49,(jS k)),(114,(vb false))]) (b:=[(0,some y1),(1,some (yU jI o)),(2,some (bx (kS (t.getD k tz)))),(3,some (bx (jI y))),(4,some (bx (jI z))),(6,some (bx (jI (vX.mk (jY (nV bv (jU bv t k) (t.getD k tz))) gl []))))])) ?_
      refine kf [(11,(.own 1 95 10 ((o++[(vX.mk (jY (nV bv (jU bv t k) (t.getD k tz))) gl [])]).length)))] [(1,some (yU jI (o++[(vX.mk (jY (nV bv (jU bv t k) (t.getD k tz))) gl [])])))] (zM<|zR (kJ gU)<|zE (eE dY mE cG)<|zAS jI o [(vX.mk (jY (nV bv (jU bv t k) (t.getD k tz))) gl [])] rfl dY mE by95<|zM<|zF) ?_
      refine kx [(49,(jS (k+1)))] [] (zE (vO (k+1))<|zM<|zZ) ?_
      exact ⟨(k+1,o++[vX.mk (jY (nV bv (jU bv t k) (t.getD k tz))) gl []]),wk,⟨by have:=uV hlt0;omega,jU_nx ho hg (by omega)⟩,(by first|omega|(dsimp only;omega))⟩
 ·replace h1:=vB h1
  refine kD<|jB<|kx [(9,(jS 0))] [(0,some (bx (jI (o.getD (o.length-1) (vX.mk y2 [] [])))))] (zM<|zM<|zE (oLo dY)<|zE (oSb (o.length-1))<|zE (oXO dY (o.length-1))<|zR (oLA gU (o.length-1) (vX.mk y2 [] []))<|zT (qA gU)<|zM<|zZ) ?_
  refine jE ⟨_,(kI (cs:=(bx (jI (o.getD (o.length-1) (vX.mk y2 [] []))))) (d:=(jI (o.getD (o.length-1) (vX.mk y2 [] [])))) rfl rfl gU rfl rfl (.tmp (d:=(.val (.int .i64 (((0:Nat):Int))))) rfl .nil)),?_⟩
  obtain rfl:k=t.length:=by omega
  obtain rfl:k0=t.length:=by omega
  rw[hol,hget _ (show t.length-1<t.length by omega),dJ_y,dC_y];rfl
theorem u_jetsO(t:List qB)(ht:zL 1048576 t)(bv:List R2)(hbx:∀ x∈bv,GL 1048576 x)(hT:mR bv t)(hd:dzT bv t=false)(hbl:bv.length<=1000000):jO Tryz.prog 51 [(.sl 83 7 (List.map kS t)),(.sl 61 8 (List.map jF (List.map jY bv))),(.val (.int .i64 (((1:Nat):Int)))),(.val (.int .i64 (-1)))] (.tup [(jI (qW (kA bv t))),(.val (.int .i64 (((0:Nat):Int))))]):=by
 have h:=u_jetsU t ht bv hbx t.length (hT.dend hd) hbl
 rw[dJ_y,dC_y] at h
 exact h
theorem u_jetsZ(t:List qB)(ht:zL 1048576 t)(bv:List R2)(hbx:∀ x∈bv,GL 1048576 x)(hT:mR bv t)(hd:dzT bv t=true)(hbl:bv.length<=1000000):jO Tryz.prog 51 [(.sl 83 7 (List.map kS t)),(.sl 61 8 (List.map jF (List.map jY bv))),(.val (.int .i64 (((1:Nat):Int)))),(.val (.int .i64 (-1)))] (.tup [(jI (vX.mk (jL.mk kH kH) [] [])),(.val (.int .i64 (((14:Nat):Int))))]):=by
 obtain ⟨k,hk⟩:=dz_fst hd
 have h:=u_jetsU t ht bv hbx k (hT.dfail hk) hbl
 rw[dJ_n hk.lt,dC_n hk.lt] at h
 exact h
theorem i_makeO(x:jR)(p:Rat)(hx:hP x p 17179869184)(y:jR)(q:Rat)(hy:hP y q 17179869184)(hv:(kR x&&kR y)=true)(hc:p<=q):jO Tryz.prog 149 [(jJ x),(jJ y)] (.tup [(jF (jL.mk x y)),(.val (.int .i64 (0)))]):=by
 refine qY Tryz.func149 ?_
 refine jB<|kx [(2,(.ref 0 0)),(3,(.ref 1 0)),(4,(.ref 2 0))] [(0,some (bx (jJ x))),(1,some (bx (jJ y))),(2,some (bx (jF (jL.mk kH kH))))] (zN (uU 0)<|zN (uU 1)<|zN (qR 2 qJ qL)<|zM<|zZ) ?_
 refine jB<|jB<|kx [(13,(vb (!(kR x)||!(kR y))))] [] ?_ ?_
 ·refine zR (kJ jQ)<|zE (jV (cQ x p hx))<|zE gD<|zE (oV (vb (!(kR x))) (qC (by kernel_rfl)))<|?_
  rcases hb1:(!(kR x)) with _ | _
  ·exact zR (kJ jQ)<|zE (jV (cQ y q hy))<|zE gD<|zE dG<|zZ
  ·exact zK<|zK<|zK<|zE yR<|zZ
 refine jG (b:=(!(kR x)||!(kR y))) rfl (fun h2=>?_) (fun h2=>?_)
 ·exfalso;revert h2 hv;cases kR x<;>cases kR y<;>simp
 ·refine jC<|jB<|jB<|kx [(18,(vb (decide (0<(yB p q)))))] [] (zR (kJ jQ)<|zR (kJ jQ)<|zE (jV (dD x y p q hx hy))<|zE hH<|zZ) ?_
  refine jG (b:=decide (0<(yB p q))) rfl (fun h3=>?_) (fun h3=>?_)
  ·replace h3:=uV h3
   exact absurd (cmpQ_gt.1 h3) (Rat.not_lt.2 hc)
  ·replace h3:=vB h3
   refine jC<|jB<|kx [(5,(jS 0))] [(2,some (bx (jF (jL.mk x y))))] (zR (kJ jQ)<|zR (kJ jQ)<|zE (eD iJ qJ qL)<|zT (qA jP)<|zM<|zZ) ?_
   refine jE ⟨_,(kI (cs:=(bx (jF (jL.mk x y)))) (d:=(jF (jL.mk x y))) rfl rfl jP rfl rfl (.tmp (d:=(.val (.int .i64 (0)))) rfl .nil)),?_⟩
   rfl
end Go.Proofs.YtnajallgoaiahaaGreatDoor
namespace Go.Fid
def rootN(x:Nat):Nat:=Nat.rec (motive:=fun _=>Nat) 0 (fun _ r=>if (r+1)*(r+1)<=x then r+1 else r) x
theorem rootN_go(x:Nat):∀ k,let r:Nat:=Nat.rec (motive:=fun _=>Nat) 0 (fun _ r=>if (r+1)*(r+1)<=x then r+1 else r) k;r*r<=x/\(x<(r+1)*(r+1)\/r=k)
 |0=>⟨Nat.zero_le _,.inr rfl⟩
 |k+1=>by
  obtain ⟨h1,h2⟩:=rootN_go x k
  dsimp only at h1 h2 ⊢
  generalize hr:(Nat.rec (motive:=fun _=>Nat) 0 (fun _ r=>if (r+1)*(r+1)<=x then r+1 else r) k:Nat)=r at h1 h2
  split
  ·rename_i h
   refine ⟨h,?_⟩
   rcases h2 with h2 | h2
   ·omega
   ·right;omega
  ·rename_i h;exact ⟨h1,.inl (by omega)⟩
theorem rootN_le(x:Nat):rootN x*rootN x<=x:=(rootN_go x x).1
theorem lt_rootN(x:Nat):x<(rootN x+1)*(rootN x+1):=by
 rcases (rootN_go x x).2 with h | h
 ·exact h
 ·have h:rootN x=x:=h
  rw[h]
  have:(x+1)*(x+1)=x*x+2*x+1:=by rw[Nat.add_mul,Nat.mul_add];omega
  omega
theorem sq_lt{a b:Nat}(h:a*a<b*b):a<b:=by
 rcases Nat.lt_or_ge a b with h1 | h1
 ·exact h1
 ·have:=Nat.mul_le_mul h1 h1;omega
theorem root_uniq{x r:Nat}(h1:r*r<=x)(h2:x<(r+1)*(r+1)):r=rootN x:=by
 have a1:=sq_lt (Nat.lt_of_le_of_lt h1 (lt_rootN x))
 have a2:=sq_lt (Nat.lt_of_le_of_lt (rootN_le x) h2)
 omega
theorem newton_up{x r:Nat}(hr:0<r):x<((r+x / r) / 2+1)*((r+x / r) / 2+1):=by
 have h1:x<r*(x / r+1):=by
  have:=Nat.div_add_mod x r
  have:=Nat.mod_lt x hr
  rw[Nat.mul_add,Nat.mul_one];omega
 generalize x / r=q at *
 generalize hn:(r+q) / 2=n at *
 have h2:r+(q+1)<=2*(n+1):=by omega
 have h3:4*(r*(q+1))<=(r+(q+1))*(r+(q+1)):=by
  generalize q+1=b
  rcases Nat.le_total r b with h | h
  ·obtain ⟨d,rfl⟩:=Nat.exists_eq_add_of_le h
   have:(r+(r+d))*(r+(r+d))=4*(r*(r+d))+d*d:=by grind
   omega
  ·obtain ⟨d,rfl⟩:=Nat.exists_eq_add_of_le h
   have:(b+d+b)*(b+d+b)=4*((b+d)*b)+d*d:=by grind
   omega
 have h4:=Nat.mul_le_mul h2 h2
 have h5:2*(n+1)*(2*(n+1))=4*((n+1)*(n+1)):=by grind
 omega
theorem newton_end{x r:Nat}(hr:0<r)(h:r<=(r+x / r) / 2):r*r<=x:=by
 have h1:r<=x / r:=by omega
 exact Nat.le_trans (Nat.mul_le_mul_left r h1) (Nat.mul_div_le x r)
theorem newton_pos{x r:Nat}(hx:0<x)(hr:0<r):0<(r+x / r) / 2:=by
 have:=newton_up (x:=x) hr
 rcases Nat.eq_zero_or_pos ((r+x / r) / 2) with h | h
 ·rw[h] at this;omega
 ·exact h
theorem newton_root{x r:Nat}(hr:0<r)(hu:x<(r+1)*(r+1))(h:r<=(r+x / r) / 2):r=rootN x:=root_uniq (newton_end hr h) hu
theorem bit_and(n b:Nat):(n &&& 2 ^ b=0)↔n / 2 ^ b % 2=0:=by
 have hb:n.testBit b=decide (n / 2 ^ b % 2=1):=Nat.testBit_eq_decide_div_mod_eq
 have key:(n &&& 2 ^ b=0)↔n.testBit b=false:=by
  constructor
  ·intro h
   have:=congrArg (fun m:Nat=>m.testBit b) h
   simpa [Nat.testBit_and,Nat.testBit_two_pow] using this
  ·intro h
   apply Nat.eq_of_testBit_eq
   intro i
   rw[Nat.testBit_and,Nat.testBit_two_pow,Nat.zero_testBit]
   by_cases e:b=i
   ·subst e;rw[h];rfl
   ·simp [e]
 rw[key,hb,decide_eq_false_iff_not]
 omega
end Go.Fid
