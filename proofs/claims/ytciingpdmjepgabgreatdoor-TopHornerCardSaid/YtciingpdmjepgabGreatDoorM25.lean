/- Part 25 of a proof: rules, plain facts, and functions walked. -/
import Derived.Test.YtciingpdmjepgabGreatDoorM24
import Derived.Test.YtciingpdmjepgabGreatDoorM21
import Derived.Test.YtciingpdmjepgabGreatDoorM12
import Derived.Test.YtciingpdmjepgabGreatDoorM18
import Derived.Test.YtciingpdmjepgabGreatDoorM23
import Derived.Test.YtciingpdmjepgabGreatDoorM22
set_option linter.all false
set_option maxRecDepth 4000
namespace Go.Fid
abbrev HF:=Nat->Nat->R2
def hz0:HF:=fun _ _=>z2
def hA(H:List HF)(z:Int):HF:=H.getD z.toNat hz0
def gA(L:List JV)(z:Int)(i:Nat):R2:=(jA L z).g.getD i z2
def nH(bx:List R2)(L:List JV)(H:List HF)(x:kI)(i j:Nat):R2 :=
 if x.op=2 then jO (hA H x.a i j) (hA H x.b i j)
 else if x.op=3 then dB (hA H x.a i j) (hA H x.b i j)
 else if x.op=4 then jO (jO (jO (jN (jA L x.a).v (hA H x.b i j)) (jN (jA L x.b).v (hA H x.a i j))) (jN (gA L x.a i) (gA L x.b j))) (jN (gA L x.a j) (gA L x.b i))
 else if x.op=6 then gneg (hA H x.a i j)
 else if x.op=7 then jN (gw 2) (jO (jN (jA L x.a).v (hA H x.a i j)) (if i=j then gsq (gA L x.a i) else jN (gA L x.a i) (gA L x.a j)))
 else if x.op=5 then gdiv (dB (hA H x.a i j) (jO (jO (jN (nG bx L x i) (gA L x.b j)) (jN (nG bx L x j) (gA L x.b i))) (jN (nV bx L x) (hA H x.b i j)))) (jA L x.b).v
 else gw 0
def hU(bx:List R2)(t:List kI):Nat->List HF
 |0=>[]
 |k+1=>hU bx t k++[nH bx (jU bx t k) (hU bx t k) (t.getD k tz)]
theorem hU_len(bx:List R2)(t:List kI):∀ k,(hU bx t k).length=k
 |0=>rfl
 |k+1=>by rw[hU,List.length_append,hU_len bx t k];rfl
def bH(s:Nat):Nat:=180*(s*s*s)
theorem bH_sum{a b:Nat}(ha:1<=a)(hb:1<=b):bH a+bH b+270*((a+b)*(a+b))<=bH (a+b):=by
 have e:(a+b)*(a+b)*(a+b)=a*a*a+b*b*b+3*(a*b*(a+b)):=by
  have h1:(a+b)*(a+b)=a*a+b*b+2*(a*b):=sq_sum a b
  rw[h1]
  simp only[Nat.add_mul,Nat.mul_add]
  have m1:a*a*b=a*b*a:=Nat.mul_right_comm a a b
  have m2:b*b*a=a*b*b:=by rw[Nat.mul_comm a b];exact Nat.mul_right_comm b b a
  have m3:2*(a*b)*a=2*(a*b*a):=Nat.mul_assoc ..
  have m4:2*(a*b)*b=2*(a*b*b):=Nat.mul_assoc ..
  omega
 have h2:(a+b)*(a+b)<=2*(a*b)*(a+b):=Nat.mul_le_mul_right _ (sr_le ha hb)
 have h3:2*(a*b)*(a+b)=2*(a*b*(a+b)):=Nat.mul_assoc ..
 unfold bH
 rw[e]
 omega
theorem bH_1{s:Nat}(h:1<=s):180*s<=bH s/\s<=s*s:=by
 have h1:s*1<=s*s:=Nat.mul_le_mul_left _ h
 have h2:s*1<=s*s*s:=by
  have:s*s*1<=s*s*s:=Nat.mul_le_mul_left _ h
  omega
 unfold bH;omega
def Bd2(ss:List Int)(L:List JV)(H:List HF)(k:Nat):Prop:=∀ j,j<k->∃ s:Nat,ss.getD j 0=(s:Int)/\1<=s/\nQ (L.getD j jz).v (fun i=>(L.getD j jz).g.getD i z2) s/\∀ p q,GL (bH s) (H.getD j hz0 p q)
theorem bd2_node{z:Int}{ss:List Int}{L:List JV}{H:List HF}{bx:List R2}{x:kI}(hk:ndC z ss x=0)(hl:ss.length=L.length)(hq:gD x.n (xZ x.n) 8)(hb:∀ y∈bx,GL 24 y)(h:Bd2 ss L H L.length) :
  ∃ s:Nat,eD ss x=(s:Int)/\1<=s/\nQ (nV bx L x) (nG bx L x) s/\∀ p q,GL (bH s) (nH bx L H x p q):=by
 obtain ⟨s0,s1,s2,s3⟩:=bd_node (bx:=bx) hk hl hq hb (fun j hj=>by obtain ⟨s,a,b,c,_⟩:=h j hj;exact ⟨s,a,b,c⟩)
 refine ⟨s0,s1,s2,s3,fun p q=>?_⟩
 obtain ⟨h1,h2,h3,_⟩:=nd_0 hk
 unfold cC at h1
 unfold nP at h2
 have at2:∀ {a:Int},0<=a->a<L.length->∃ s:Nat,ss.getD a.toNat 0=(s:Int)/\1<=s/\GL (bV s) (jA L a).v/\(∀ i,GL (bG s) (gA L a i))/\∀ p q,GL (bH s) (hA H a p q):=fun {a} q0 q1=>by
  obtain ⟨s,a1,a2,a3,a4⟩:=h a.toNat (by omega)
  exact ⟨s,a1,a2,a3.1,a3.2,a4⟩
 have b0:=(bH_1 s2).1
 rcases nC x.op with ⟨e,f⟩ | ⟨e,f⟩ | ⟨e,f⟩ | ⟨e,f⟩
 ·have e0:nH bx L H x p q=gw 0:=by unfold nH;rcases f with f | f<;>simp only[f]<;>rfl
  rw[e0];exact qG gl_0 (by omega)
 ·obtain ⟨s,e1,e2,e3,e4,e5⟩:=at2 (a:=x.a) (by omega) (by omega)
  rcases f with f | f
  ·have es:s0=s:=by unfold eD at s1;rw[if_neg (by omega),if_pos f,e1] at s1;omega
   have e0:nH bx L H x p q=gneg (hA H x.a p q):=by unfold nH;simp only[f];rfl
   rw[e0,es];exact gl_neg (e5 p q)
  ·have es:s0=s+s:=by unfold eD at s1;rw[if_neg (by omega),if_neg (by omega),if_pos f,e1] at s1;omega
   have e0:nH bx L H x p q=jN (gw 2) (jO (jN (jA L x.a).v (hA H x.a p q)) (if p=q then gsq (gA L x.a p) else jN (gA L x.a p) (gA L x.a q))):=by unfold nH;simp only[f];rfl
   have sm:=bH_sum e2 e2
   have e6:=sq_sum s s
   have e7:=(bH_1 e2).2
   have e8:GL (bG s+bG s) (if p=q then gsq (gA L x.a p) else jN (gA L x.a p) (gA L x.a q)):=by
    split
    ·exact gl_sq (e4 p) (Nat.le_refl _)
    ·exact qN (e4 p) (e4 q) (Nat.le_refl _)
   rw[e0,es]
   exact qN gl_2 (vL (qN e3 (e5 p q) (Nat.le_refl _)) e8 (Nat.le_refl _)) (by unfold bV bG;omega)
 ·obtain ⟨s,e1,e2,e3,e4,e5⟩:=at2 (a:=x.a) (by omega) (by omega)
  obtain ⟨r,g1,g2,g3,g4,g5⟩:=at2 (a:=x.b) (by omega) (by omega)
  have es:s0=s+r:=by unfold eD at s1;rw[if_neg (by omega),if_neg (by omega),if_neg (by omega),e1,g1] at s1;omega
  have sm:=bH_sum e2 g2
  have e6:=sq_sum s r
  have e7:=(bH_1 e2).2
  have e8:=(bH_1 g2).2
  have e9:=sr_le e2 g2
  subst es
  rcases f with f | f | f | f
  ·have e0:nH bx L H x p q=jO (hA H x.a p q) (hA H x.b p q):=by unfold nH;simp only[f];rfl
   rw[e0];exact vL (e5 p q) (g5 p q) (by omega)
  ·have e0:nH bx L H x p q=dB (hA H x.a p q) (hA H x.b p q):=by unfold nH;simp only[f];rfl
   rw[e0];exact fN (e5 p q) (g5 p q) (by omega)
  ·have e0:nH bx L H x p q=jO (jO (jO (jN (jA L x.a).v (hA H x.b p q)) (jN (jA L x.b).v (hA H x.a p q))) (jN (gA L x.a p) (gA L x.b q))) (jN (gA L x.a q) (gA L x.b p)):=by unfold nH;simp only[f];rfl
   rw[e0]
   exact vL (vL (vL (qN e3 (g5 p q) (Nat.le_refl _)) (qN g3 (e5 p q) (Nat.le_refl _)) (Nat.le_refl _)) (qN (e4 p) (g4 q) (Nat.le_refl _)) (Nat.le_refl _)) (qN (e4 q) (g4 p) (Nat.le_refl _)) (by unfold bV bG;omega)
  ·have e0:nH bx L H x p q=gdiv (dB (hA H x.a p q) (jO (jO (jN (nG bx L x p) (gA L x.b q)) (jN (nG bx L x q) (gA L x.b p))) (jN (nV bx L x) (hA H x.b p q)))) (jA L x.b).v:=by unfold nH;simp only[f];rfl
   rw[e0]
   refine gl_div (fN (e5 p q) (vL (vL (qN (s3.2 p) (g4 q) (Nat.le_refl _)) (qN (s3.2 q) (g4 p) (Nat.le_refl _)) (Nat.le_refl _)) (qN s3.1 (g5 p q) (Nat.le_refl _)) (Nat.le_refl _)) (Nat.le_refl _)) g3 (k:=bH (s+r)) ?_
   unfold bV bG;omega
 ·omega
structure Tame2 (bx:List R2) (t:List kI):Prop where
 tm:Tame bx t
 s:∀ k,k<t.length->eD (gX t k) (t.getD k tz)<=17
theorem bh_17{s:Nat}(h:s<=17):bH s<=1048576:=by
 have h2:s*s<=17*17:=Nat.mul_le_mul h h
 have h3:s*s*s<=17*17*17:=Nat.mul_le_mul h2 h
 unfold bH;omega
section
variable {bx:List R2} {t:List kI}
theorem Tame2.bd(h:Tame2 bx t):∀ {k:Nat},k<=t.length->Bd2 (gX t k) (jU bx t k) (hU bx t k) k
 |0,_=>fun j hj=>absurd hj (Nat.not_lt_zero j)
 |k+1,hk=>fun j hj=>by
  have ih:=h.bd (k:=k) (by omega)
  have l1:=xT t k
  have l2:=aS bx t k
  have l3:=hU_len bx t k
  have g1:(gX t (k+1)).getD j 0=_:=gL
  have g2:(jU bx t (k+1)).getD j jz=_:=gL
  have g3:(hU bx t (k+1)).getD j hz0=_:=gL
  rcases Nat.lt_or_ge j k with hjk | hjk
  ·rw[if_pos (by omega)] at g1 g2 g3
   rw[g1,g2,g3];exact ih j (by omega)
  ·rw[if_neg (by omega),if_pos (by omega)] at g1 g2 g3
   rw[g1,g2,g3]
   obtain ⟨s,e1,e2,e3,e4⟩:=bd2_node (H:=hU bx t k) ((tm_0 h.tm.c0).2.2.2.2 k (by omega)) (l1.trans l2.symm) (h.tm.q _ (fX (by omega))) h.tm.b (by rw[l2];exact ih)
   exact ⟨s,e1,e2,nJ_get e2 e3,e4⟩
theorem Tame2.nh(h:Tame2 bx t){k:Nat}(hk:k<t.length)(i j:Nat):GL 1048576 (nH bx (jU bx t k) (hU bx t k) (t.getD k tz) i j):=by
 obtain ⟨s,e1,e2,e3,e4⟩:=bd2_node (H:=hU bx t k) ((tm_0 h.tm.c0).2.2.2.2 k hk) ((xT t k).trans (aS bx t k).symm) (h.tm.q _ (fX hk)) h.tm.b (by rw[aS];exact h.bd (Nat.le_of_lt hk))
 have e5:=h.s k hk
 exact qG (e4 i j) (bh_17 (by omega))
theorem gl_z2{n:Nat}(h:1<=n):GL n z2:=⟨kS mW h,kS mW h,Rat.le_refl⟩
theorem Tame2.ha(h:Tame2 bx t):∀ {k:Nat},k<=t.length->∀ (z:Int) (i j:Nat),GL 1048576 (hA (hU bx t k) z i j)
 |0,_,z,i,j=>gl_z2 (by decide)
 |k+1,hk,z,i,j=>by
  have g3:(hU bx t (k+1)).getD z.toNat hz0=_:=gL
  show GL 1048576 ((hU bx t (k+1)).getD z.toNat hz0 i j)
  rw[g3,hU_len]
  by_cases h1:z.toNat<k
  ·rw[if_pos h1];exact h.ha (k:=k) (by omega) z i j
  ·rw[if_neg h1]
   by_cases h2:z.toNat=k
   ·rw[if_pos h2];exact h.nh (by omega) i j
   ·rw[if_neg h2];exact gl_z2 (by decide)
end
section
variable {bx:List R2} {L:List JV} {H:List HF} {x:kI} {i j:Nat}
end
theorem min_same(x:Rat):min x x=x:=by rw[Rat.min_def];split<;>rfl
theorem max_same(x:Rat):max x x=x:=by rw[Rat.max_def];split<;>rfl
theorem mn4(x:Rat):fM x [x,x,x]=x:=by show min (min (min x x) x) x=x;rw[min_same,min_same,min_same]
theorem mx4(x:Rat):eP x [x,x,x]=x:=by show max (max (max x x) x) x=x;rw[max_same,max_same,max_same]
theorem pt_add(a b:Rat):jO (xV a) (xV b)=xV (a+b):=rfl
theorem pt_mul(a b:Rat):jN (xV a) (xV b)=xV (a*b):=by unfold jN xV;dsimp only;rw[mn4,mx4]
section
variable {xs:List Rat} {t:List kI}
end
def dnQ(q:Rat):Rat:=Rat.divInt (eM (q*((((2 ^ 20:Nat):Int):Int):Rat))) ((2 ^ 20:Nat):Int)
def upQ(q:Rat):Rat:=Rat.divInt (-(eM (-(q*((((2 ^ 20:Nat):Int):Int):Rat))))) ((2 ^ 20:Nat):Int)
def rd20(a:R2):R2:=(dnQ a.1,upQ a.2)
def kG(P:Int)(a:R2):R2:=if P<0 then a else rd20 a
theorem ql_p20:QL ((((2 ^ 20:Nat):Int):Int):Rat) 1:=mI (mM) (by decide)
theorem ql_dn{q:Rat}{n k:Nat}(h:QL q n)(hk:n+2<=k):QL (dnQ q) k :=
 xY (Nat.le_trans (mC (k:=n+2) (vW h ql_p20 (Nat.le_refl _)) (by omega)).ln hk) (Nat.le_trans (mM) (by omega)) (by omega)
theorem ql_upQ{q:Rat}{n k:Nat}(h:QL q n)(hk:n+2<=k):QL (upQ q) k :=
 xY (Nat.le_trans (zL (mC (k:=n+2) (nM (vW h ql_p20 (Nat.le_refl _))) (by omega))).ln hk) (Nat.le_trans (mM) (by omega)) (by omega)
theorem gl_rd{P:Int}{a:R2}{n k:Nat}(h:GL n a)(hk:n+2<=k):GL k (kG P a):=by
 unfold kG
 split
 ·exact qG h (by omega)
 ·exact ⟨ql_dn h.1 hk,ql_upQ h.2.1 hk,rd_valid 20 h.2.2⟩
structure J3 where
 v:R2
 g:R2
 h:R2
def uF:J3:=⟨z2,z2,z2⟩
def jL(u:J3):xI:=⟨kF u.v,[kF u.g],[[kF u.h]]⟩
structure nO (N:Nat) (u:J3):Prop where
 v:GL N u.v
 g:GL N u.g
 h:GL N u.h
def j3A(L:List J3)(z:Int):J3:=L.getD z.toNat uF
def n3(P:Int)(b:R2)(L:List J3)(x:kI):J3 :=
 if x.op=0 then ⟨kG P (xV (xZ x.n)),kG P (gw 0),kG P (gw 0)⟩
 else if x.op=1 then ⟨kG P b,kG P (gw 1),kG P (gw 0)⟩
 else if x.op=2 then ⟨kG P (jO (j3A L x.a).v (j3A L x.b).v),kG P (jO (j3A L x.a).g (j3A L x.b).g),kG P (jO (j3A L x.a).h (j3A L x.b).h)⟩
 else ⟨kG P (jN (j3A L x.a).v (j3A L x.b).v),kG P (jO (jN (j3A L x.a).v (j3A L x.b).g) (jN (j3A L x.b).v (j3A L x.a).g)),
  kG P (jO (jO (jN (j3A L x.a).v (j3A L x.b).h) (jN (j3A L x.b).v (j3A L x.a).h)) (jO (jN (j3A L x.a).g (j3A L x.b).g) (jN (j3A L x.a).g (j3A L x.b).g)))⟩
def dJ(P:Int)(b:R2)(t:List kI):Nat->List J3
 |0=>[]
 |k+1=>dJ P b t k++[n3 P b (dJ P b t k) (t.getD k tz)]
theorem j3U_len(P:Int)(b:R2)(t:List kI):∀ k,(dJ P b t k).length=k
 |0=>rfl
 |k+1=>by rw[dJ,List.length_append,j3U_len P b t k];rfl
end Go.Fid
namespace Go.Proofs.YtciingpdmjepgabGreatDoor
open Go.Fid
theorem uJ(h74:74≠1000000)(x:qB):xM 1000000 (jJ x):=.agg (cV (.val _) (cV (avo_vals h74 _) (cV (.val _) (cV (avo_vals h74 _) (cV (.val _) (cV (avo_vals h74 _) (cV (.val _) (cV (avo_vals h74 _) avo_nil))))))))
abbrev mcS (n k:Nat) (L:List JV) (b:Bool):List SV:=[(jS n),(jS 1),(vi (-1)),(.own k 48 10 ((List.map ofJ L).length)),(vb b)]
abbrev jxs (L:List JV):List SV:=qP jD (List.map ofJ L)
abbrev mcA (n:Nat) (x:jT) (b:Bool):jT:=.agg [(.val (.int .i64 ((n:Nat):Int))),(.val (.int .i64 ((1:Nat):Int))),(.val (.int .i64 (-1))),x,(.val (.bool b))]
theorem gl_ite{c:Prop}[Decidable c]{a b:R2}{n:Nat}(ha:GL n a)(hb:GL n b):GL n (if c then a else b):=by
 split
 ·exact ha
 ·exact hb
theorem j_whole(z:Int)(hz1:-9223372036854775808<=z)(hz2:z<=9223372036854775807):jW Tryz.prog 65 [(.val (.int .i64 (z)))] (jJ (kF (gw z))):=by
 refine uW Tryz.func65 ?_
 refine jB<|kx [(2,(.ref 0 0))] [(0,some (bx (jJ (qB.mk qY qY))))] (zN (uT 0 vI xB)<|zZ) ?_
 refine jB<|kx [] [(0,some (bx (jJ (qB.mk (jP ((z:Int):Rat)) (jP ((z:Int):Rat))))))] (zM<|zE (kH (f_whole z (by omega) (by omega)))<|zM<|zE (kH (f_whole z (by omega) (by omega)))<|zE (oBd pl44 vI xB)<|zT (qK qI)<|zZ) ?_
 refine jE ⟨_,(kQ (cs:=(bx (jJ (qB.mk (jP ((z:Int):Rat)) (jP ((z:Int):Rat)))))) (d:=(jJ (qB.mk (jP ((z:Int):Rat)) (jP ((z:Int):Rat))))) rfl rfl qI rfl rfl .nil),?_⟩
 rfl
theorem j_add(a:R2)(ha:GL 67108864 a)(b:R2)(hb:GL 67108864 b):jW Tryz.prog 77 [(jJ (kF a)),(jJ (kF b))] (jJ (kF (jO a b))):=by
 refine uW Tryz.func77 ?_
 refine jB<|kx [(2,(.ref 0 0)),(3,(.ref 1 0)),(4,(.ref 2 0))] [(0,some (bx (jJ (kF a)))),(1,some (bx (jJ (kF b)))),(2,some (bx (jJ (qB.mk qY qY))))] (zN (xA 0)<|zN (xA 1)<|zN (uT 2 vI xB)<|zZ) ?_
 refine jB<|kx [(5,(.ref 3 0))] [(3,some (bx (jJ (qB.mk (jP (a.1+b.1)) (jP (a.2+b.2))))))] (zR (kT qI)<|zR (kT qI)<|zE (kH (i_add a.1 a.2 b.1 b.2 (kS ha.1) (kS ha.2.1) (kS hb.1) (kS hb.2.1) ha.2.2 hb.2.2))<|zM<|zE xX<|zE xX<|zN (uT 3 vI xB)<|zT (qK qI)<|zM<|zZ) ?_
 refine jB<|kx [] [(2,some (bx (jJ (qB.mk (jP (a.1+b.1)) (jP (a.2+b.2))))))] (zR (kT qI)<|zT (qK qI)<|zZ) ?_
 refine jE ⟨_,(kQ (cs:=(bx (jJ (qB.mk (jP (a.1+b.1)) (jP (a.2+b.2)))))) (d:=(jJ (qB.mk (jP (a.1+b.1)) (jP (a.2+b.2))))) rfl rfl qI rfl rfl .nil),?_⟩
 rfl
theorem j_mul(a:R2)(ha:GL 67108864 a)(b:R2)(hb:GL 67108864 b):jW Tryz.prog 81 [(jJ (kF a)),(jJ (kF b))] (jJ (kF (jN a b))):=by
 let y1:=(bx (jJ (qB.mk (jP (fM (a.1*b.1) [(a.1*b.2),(a.2*b.1),(a.2*b.2)])) (jP (eP (a.1*b.1) [(a.1*b.2),(a.2*b.1),(a.2*b.2)])))))
 refine uW Tryz.func81 ?_
 refine jB<|kx [(2,(.ref 0 0)),(3,(.ref 1 0)),(4,(.ref 2 0))] [(0,some (bx (jJ (kF a)))),(1,some (bx (jJ (kF b)))),(2,some (bx (jJ (qB.mk qY qY))))] (zN (xA 0)<|zN (xA 1)<|zN (uT 2 vI xB)<|zZ) ?_
 refine jB<|kx [(5,(.ref 3 0))] [(3,some y1)] (zR (kT qI)<|zR (kT qI)<|zE (kH (i_mul a.1 a.2 b.1 b.2 (kS ha.1) (kS ha.2.1) (kS hb.1) (kS hb.2.1) ha.2.2 hb.2.2))<|zM<|zE xX<|zE xX<|zN (uT 3 vI xB)<|zT (qK qI)<|zM<|zZ) ?_
 refine jB<|kx [] [(2,some y1)] (zR (kT qI)<|zT (qK qI)<|zZ) ?_
 refine jE ⟨_,(kQ (cs:=y1) (d:=(jJ (qB.mk (jP (fM (a.1*b.1) [(a.1*b.2),(a.2*b.1),(a.2*b.2)])) (jP (eP (a.1*b.1) [(a.1*b.2),(a.2*b.1),(a.2*b.2)]))))) rfl rfl qI rfl rfl .nil),?_⟩
 rfl
theorem j_kids(o:Int):jW Tryz.prog 67 [(.val (.int .i64 (o)))] (.val (.int .i64 ((xE o)))):=by
 refine uW Tryz.func67 ?_
 refine jB<|kx [] [] (zM<|zZ) ?_
 refine jB<|jB<|kx [(3,(vi o))] [] (zM<|zZ) ?_
 refine jG<|jB<|jB<|kx [(4,(vb (o == 0)))] [] (zE nT<|zM<|zZ) ?_
 refine jH (b:=(o == 0)) rfl (fun h1=>?_) (fun h1=>?_)
 ·replace h1:=eq_of_beq h1
  refine jF<|jH rfl (fun _=>?_) (fun h=>absurd (Eq.trans (Eq.symm (show ((o == 0))=true from beq_iff_eq.2 h1)) h) (by decide))
  refine jB<|kx [(2,(jS 0))] [] (zM<|zZ) ?_
  refine jE ⟨_,(.tmp (d:=(.val (.int .i64 (0)))) rfl .nil),?_⟩
  show jT.val (.int .i64 _)=_
  unfold xE;simp [*]
 ·replace h1:=ne_of_beq_false h1
  refine kx [(4,(vb (o == 1)))] [] (zE nT<|zM<|zZ) ?_
  refine jH (b:=(o == 1)) rfl (fun h2=>?_) (fun h2=>?_)
  ·replace h2:=eq_of_beq h2
   refine jB<|kx [(2,(jS 0))] [] (zM<|zZ) ?_
   refine jE ⟨_,(.tmp (d:=(.val (.int .i64 (0)))) rfl .nil),?_⟩
   show jT.val (.int .i64 _)=_
   unfold xE;simp [*]
  ·replace h2:=ne_of_beq_false h2
   refine jB<|jB<|kx [(7,(vb (o == 6)))] [] (zE nT<|zM<|zZ) ?_
   refine jH (b:=(o == 6)) rfl (fun h3=>?_) (fun h3=>?_)
   ·replace h3:=eq_of_beq h3
    refine jF<|jH rfl (fun _=>?_) (fun h=>absurd (Eq.trans (Eq.symm (show ((o == 6))=true from beq_iff_eq.2 h3)) h) (by decide))
    refine jB<|kx [(2,(jS 1))] [] (zM<|zZ) ?_
    refine jE ⟨_,(.tmp (d:=(.val (.int .i64 (1)))) rfl .nil),?_⟩
    show jT.val (.int .i64 _)=_
    unfold xE;simp [*]
   ·replace h3:=ne_of_beq_false h3
    refine kx [(7,(vb (o == 7)))] [] (zE nT<|zM<|zZ) ?_
    refine jH (b:=(o == 7)) rfl (fun h4=>?_) (fun h4=>?_)
    ·replace h4:=eq_of_beq h4
     refine jB<|kx [(2,(jS 1))] [] (zM<|zZ) ?_
     refine jE ⟨_,(.tmp (d:=(.val (.int .i64 (1)))) rfl .nil),?_⟩
     show jT.val (.int .i64 _)=_
     unfold xE;simp [*]
    ·replace h4:=ne_of_beq_false h4
     refine jB<|jB<|kx [(10,(vb (o == 2)))] [] (zE nT<|zM<|zZ) ?_
     refine jH (b:=(o == 2)) rfl (fun h5=>?_) (fun h5=>?_)
     ·replace h5:=eq_of_beq h5
      refine jF<|jH rfl (fun _=>?_) (fun h=>absurd (Eq.trans (Eq.symm (show ((o == 2))=true from beq_iff_eq.2 h5)) h) (by decide))
      refine jB<|kx [(2,(jS 2))] [] (zM<|zZ) ?_
      refine jE ⟨_,(.tmp (d:=(.val (.int .i64 (2)))) rfl .nil),?_⟩
      show jT.val (.int .i64 _)=_
      unfold xE;simp [*]
     ·replace h5:=ne_of_beq_false h5
      refine jB<|kx [(10,(vb (o == 3)))] [] (zE nT<|zM<|zZ) ?_
      refine jH (b:=(o == 3)) rfl (fun h6=>?_) (fun h6=>?_)
      ·replace h6:=eq_of_beq h6
       refine jF<|jH rfl (fun _=>?_) (fun h=>absurd (Eq.trans (Eq.symm (show ((o == 3))=true from beq_iff_eq.2 h6)) h) (by decide))
       refine jB<|kx [(2,(jS 2))] [] (zM<|zZ) ?_
       refine jE ⟨_,(.tmp (d:=(.val (.int .i64 (2)))) rfl .nil),?_⟩
       show jT.val (.int .i64 _)=_
       unfold xE;simp [*]
      ·replace h6:=ne_of_beq_false h6
       refine jB<|kx [(10,(vb (o == 4)))] [] (zE nT<|zM<|zZ) ?_
       refine jH (b:=(o == 4)) rfl (fun h7=>?_) (fun h7=>?_)
       ·replace h7:=eq_of_beq h7
        refine jF<|jH rfl (fun _=>?_) (fun h=>absurd (Eq.trans (Eq.symm (show ((o == 4))=true from beq_iff_eq.2 h7)) h) (by decide))
        refine jB<|kx [(2,(jS 2))] [] (zM<|zZ) ?_
        refine jE ⟨_,(.tmp (d:=(.val (.int .i64 (2)))) rfl .nil),?_⟩
        show jT.val (.int .i64 _)=_
        unfold xE;simp [*]
       ·replace h7:=ne_of_beq_false h7
        refine kx [(10,(vb (o == 5)))] [] (zE nT<|zM<|zZ) ?_
        refine jH (b:=(o == 5)) rfl (fun h8=>?_) (fun h8=>?_)
        ·replace h8:=eq_of_beq h8
         refine jB<|kx [(2,(jS 2))] [] (zM<|zZ) ?_
         refine jE ⟨_,(.tmp (d:=(.val (.int .i64 (2)))) rfl .nil),?_⟩
         show jT.val (.int .i64 _)=_
         unfold xE;simp [*]
        ·replace h8:=ne_of_beq_false h8
         refine jF<|jB<|kx [(2,(vi (-1)))] [] (zM<|zZ) ?_
         refine jE ⟨_,(.tmp (d:=(.val (.int .i64 (-1)))) rfl .nil),?_⟩
         show jT.val (.int .i64 _)=_
         unfold xE;simp [*]
def TnsOk(N:Nat)(t:List kI):Prop:=∀ x∈t,gD x.n (xZ x.n) N
theorem tn_get{N:Nat}{t:List kI}(h:TnsOk N t){k:Nat}(hk:k<t.length):gD (t.getD k tz).n (xZ (t.getD k tz).n) N:=by
 rw[List.getD_eq_getElem?_getD,List.getElem?_eq_getElem hk];exact h _ (List.getElem_mem _)
theorem j_unset(x:kP)(p:Rat)(hx:gD x p 1048576):jW Tryz.prog 114 [(jK x)] (.val (.bool ((unsB x)))):=by
 refine uW Tryz.func114 ?_
 refine jB<|kx [(1,(.ref 0 0))] [(0,some (bx (jK x)))] (zN (xA 0)<|zM<|zZ) ?_
 refine jB<|kx [(2,(vb (((!x.num.neg&&!x.den.neg)&&(((x.num.gs.length:Nat):Int) == 0))&&(((x.den.gs.length:Nat):Int) == 0))))] [] ?_ ?_
 ·refine zE (kW xN)<|zE (kW uS)<|zR (qR sh4)<|zE eL<|zE (oV (vb (!x.num.neg)) (qF (by kernel_rfl)))<|?_
  rcases hb1:(!x.num.neg) with _ | _
  ·exact zK<|zK<|zK<|zK<|zE gK<|zM<|zK<|zK<|zK<|zK<|zK<|zE gK<|zM<|zK<|zK<|zK<|zK<|zK<|zE gK<|zM<|zZ
  ·refine zE (kW vQ)<|zE (kW uS)<|zR (qR sh4)<|zE eL<|zE oPa<|zE (oV (vb (true&&!x.den.neg)) (qF (by kernel_rfl)))<|?_
   rcases hb2:(true&&!x.den.neg) with _ | _
   ·exact zK<|zK<|zK<|zK<|zK<|zE gK<|zM<|zK<|zK<|zK<|zK<|zK<|zE gK<|zM<|zZ
   ·refine zE (kW xN)<|zE (kW uR)<|zR (qR vZ)<|zE (zV kC)<|zE nT<|zE oPa<|zE (oV (vb (true&&(((x.num.gs.length:Nat):Int) == 0))) (qF (by kernel_rfl)))<|?_
    rcases hb3:(true&&(((x.num.gs.length:Nat):Int) == 0)) with _ | _
    ·exact zK<|zK<|zK<|zK<|zK<|zE gK<|zM<|zZ
    ·exact zE (kW vQ)<|zE (kW uR)<|zR (qR vZ)<|zE (zV kC)<|zE nT<|zE oPa<|zM<|zZ
 refine jE ⟨_,(.tmp (d:=(.val (.bool ((((!x.num.neg&&!x.den.neg)&&(((x.num.gs.length:Nat):Int) == 0))&&(((x.den.gs.length:Nat):Int) == 0)))))) rfl .nil),?_⟩
 rfl
theorem fo71_2:uL Tryz.prog 71 2=some 2:=by kernel_rfl
theorem j_rnd20(a:R2)(ha:GL 100000 a):jW Tryz.prog 130 [(jJ (kF a)),(.val (.int .i64 (((20:Nat):Int))))] (.tup [(jJ (kF (rd20 a))),(.val (.int .i64 (0)))]):=di_round a.1 a.2 ha.1 ha.2.1 ha.2.2 20 (by decide)
theorem j_rdN(x:jT)(a:R2)(ha:GL 100000 a):jW Tryz.prog 115 [(.cptr 1000000 (jT.cells (.agg [(.val (.int .i64 (((1:Nat):Int)))),(.val (.int .i64 (((2:Nat):Int)))),(.val (.int .i64 (-1))),(x),(.val (.bool (false)))])) 0),(jJ (kF a))] (jJ (kF a)):=by
 refine uW Tryz.func115 ?_
 refine jB<|kx [(3,(.ref 0 0)),(4,(.ref 1 0))] [(0,some (bx (jJ (kF a)))),(1,some (bx (jJ (qB.mk qY qY))))] (zN (xA 0)<|zN (uT 1 vI xB)<|zZ) ?_
 refine jB<|jB<|kx [(9,(vb true))] [] (zM<|zE oNd<|zE (aK fo71_2)<|zE (gJ gN)<|zE (xC true xO)<|zZ) ?_
 refine uG ?_
 refine jB<|kx [] [(1,some (bx (jJ (kF a))))] (zR (kT qI)<|zT (qK qI)<|zZ) ?_
 refine jE ⟨_,(kQ (cs:=(bx (jJ (kF a)))) (d:=(jJ (kF a))) rfl rfl qI rfl rfl .nil),?_⟩
 rfl
theorem j_rdK(x:jT)(a:R2)(ha:GL 100000 a):jW Tryz.prog 115 [(.cptr 1000000 (jT.cells (.agg [(.val (.int .i64 (((1:Nat):Int)))),(.val (.int .i64 (((2:Nat):Int)))),(.val (.int .i64 (((20:Nat):Int)))),(x),(.val (.bool (false)))])) 0),(jJ (kF a))] (jJ (kF (rd20 a))):=by
 refine uW Tryz.func115 ?_
 refine jB<|kx [(3,(.ref 0 0)),(4,(.ref 1 0))] [(0,some (bx (jJ (kF a)))),(1,some (bx (jJ (qB.mk qY qY))))] (zN (xA 0)<|zN (uT 1 vI xB)<|zZ) ?_
 refine jB<|jB<|kx [(9,(vb false))] [] (zM<|zE oNd<|zE (aK fo71_2)<|zE (gJ gN)<|zE (xC false xO)<|zZ) ?_
 refine qH ?_
 refine jF<|jB<|kd [] [(0,some (bx (jJ (kF (rd20 a)))))] mo (wR (kT qI)<|wM<|wE oNd<|wE (aK fo71_2)<|wE (gJ gN)<|wE (kH (j_rnd20 a ha))<|wM<|wE xX<|wE xX<|wT (qK qI)<|wZ) ?_
 refine jB<|kx [] [(1,some (bx (jJ (kF (rd20 a)))))] (zR (kT qI)<|zT (qK qI)<|zZ) ?_
 refine jE ⟨_,(kQ (cs:=(bx (jJ (kF (rd20 a))))) (d:=(jJ (kF (rd20 a)))) rfl rfl qI rfl rfl .nil),?_⟩
 rfl
theorem j_rd(P:Int)(x:jT)(a:R2)(ha:GL 100000 a)(hP:P=-1\/P=20):jW Tryz.prog 115 [(.cptr 1000000 [(.val (.int .i64 (((1:Nat):Int)))),(.val (.int .i64 (((2:Nat):Int)))),(.val (.int .i64 P)),x,(.val (.bool false))] 0),(jJ (kF a))] (jJ (kF (kG P a))):=by
 rcases hP with rfl | rfl
 ·exact j_rdN x a ha
 ·exact j_rdK x a ha
theorem el46:uB Tryz.prog 46=some (45,1):=by kernel_rfl
theorem xP:uL Tryz.prog 35 1=some 1:=by kernel_rfl
theorem fG:uL Tryz.prog 35 3=some 3:=by kernel_rfl
theorem eC:uL Tryz.prog 48 0=some 0:=by kernel_rfl
theorem zQ:uL Tryz.prog 48 1=some 8:=by kernel_rfl
theorem yV:uL Tryz.prog 48 2=some 9:=by kernel_rfl
theorem mA:qD Tryz.prog 45=some (false,1):=by kernel_rfl
theorem sh46:qD Tryz.prog 46=some (false,1):=by kernel_rfl
theorem sh88:qD Tryz.prog 88=some (false,1):=by kernel_rfl
theorem h_vA(u:J3)(hu:nO 12000 u)(v:J3)(hv:nO 12000 v):jW Tryz.prog 70 [(.cptr 1000000 (jT.cells (.val (.func (.func 77) #[] #[]))) 0),(.cptr 1000000 (jT.cells (jD (jL u))) 0),(.cptr 1000000 (jT.cells (jD (jL v))) 0)] (jJ (kF (jO u.v v.v))):=by
 refine uW Tryz.func70 ?_
 refine jB<|kx [(3,(.ref 0 0))] [(0,some (bx (jJ (qB.mk qY qY))))] (zN (uT 0 vI xB)<|zZ) ?_
 refine jB<|kx [] [(0,some (bx (jJ (kF (jO u.v v.v)))))] (zE (gJ sh88)<|zE (aK eC)<|zE (nX qI)<|zE (aK eC)<|zE (nX qI)<|zE (kH (j_add u.v (qG hu.v) v.v (qG hv.v)))<|zT (qK qI)<|zZ) ?_
 refine jE ⟨_,(kQ (cs:=(bx (jJ (kF (jO u.v v.v))))) (d:=(jJ (kF (jO u.v v.v)))) rfl rfl qI rfl rfl .nil),?_⟩
 rfl
theorem h_gA(wp:jT)(u:J3)(hu:nO 12000 u)(v:J3)(hv:nO 12000 v):jW Tryz.prog 71 [(wp),(.val (.int .i64 (((0:Nat):Int)))),(.cptr 1000000 (jT.cells (.val (.func (.func 77) #[] #[]))) 0),(.cptr 1000000 (jT.cells (jD (jL u))) 0),(.cptr 1000000 (jT.cells (jD (jL v))) 0)] (jJ (kF (jO u.g v.g))):=by
 refine uW Tryz.func71 ?_
 refine jB<|kx [(7,(.ref 0 0))] [(0,some (bx (jJ (qB.mk qY qY))))] (zN (uT 0 vI xB)<|zZ) ?_
 refine jB<|kd [] [(0,some (bx (jJ (kF (jO u.g v.g)))))] mo (wE (gJ sh88)<|wE (aK zQ)<|wE (gJ mA)<|wM<|wE (fD vG 0)<|wE (nX qI)<|wE (aK zQ)<|wE (gJ mA)<|wM<|wE (fD vG 0)<|wE (nX qI)<|wE (kH (j_add u.g (qG hu.g) v.g (qG hv.g)))<|wT (qK qI)<|wZ) ?_
 refine jE ⟨_,(kQ (cs:=(bx (jJ (kF (jO u.g v.g))))) (d:=(jJ (kF (jO u.g v.g)))) rfl rfl qI rfl rfl .nil),?_⟩
 rfl
theorem h_hA(wp:jT)(u:J3)(hu:nO 12000 u)(v:J3)(hv:nO 12000 v):jW Tryz.prog 72 [(wp),(.val (.int .i64 (((0:Nat):Int)))),(.val (.int .i64 (((0:Nat):Int)))),(.cptr 1000000 (jT.cells (.val (.func (.func 77) #[] #[]))) 0),(.cptr 1000000 (jT.cells (jD (jL u))) 0),(.cptr 1000000 (jT.cells (jD (jL v))) 0)] (jJ (kF (jO u.h v.h))):=by
 refine uW Tryz.func72 ?_
 refine jB<|kx [(9,(.ref 0 0))] [(0,some (bx (jJ (qB.mk qY qY))))] (zN (uT 0 vI xB)<|zZ) ?_
 refine jB<|kd [] [(0,some (bx (jJ (kF (jO u.h v.h)))))] mo (wE (gJ sh88)<|wE (aK yV)<|wE (gJ sh46)<|wM<|wE (fD el46 0)<|wE (gJ mA)<|wM<|wE (fD vG 0)<|wE (nX qI)<|wE (aK yV)<|wE (gJ sh46)<|wM<|wE (fD el46 0)<|wE (gJ mA)<|wM<|wE (fD vG 0)<|wE (nX qI)<|wE (kH (j_add u.h (qG hu.h) v.h (qG hv.h)))<|wT (qK qI)<|wZ) ?_
 refine jE ⟨_,(kQ (cs:=(bx (jJ (kF (jO u.h v.h))))) (d:=(jJ (kF (jO u.h v.h)))) rfl rfl qI rfl rfl .nil),?_⟩
 rfl
theorem h_vC(p:Rat)(hp:QL p 12000):jW Tryz.prog 73 [(.cptr 1000000 (jT.cells (qE (kI.mk 0 0 0 (jP p)))) 0)] (jJ (kF (xV p))):=by
 refine uW Tryz.func73 ?_
 refine jB<|kx [(1,(.ref 0 0))] [(0,some (bx (jJ (qB.mk qY qY))))] (zN (uT 0 vI xB)<|zZ) ?_
 refine jB<|kx [] [(0,some (bx (jJ (qB.mk (jP p) (jP p)))))] (zE (aK fG)<|zE (nX jR)<|zE (aK fG)<|zE (nX jR)<|zE (oBd pl44 vI xB)<|zT (qK qI)<|zZ) ?_
 refine jE ⟨_,(kQ (cs:=(bx (jJ (qB.mk (jP p) (jP p))))) (d:=(jJ (qB.mk (jP p) (jP p)))) rfl rfl qI rfl rfl .nil),?_⟩
 rfl
theorem h_gC(wp:jT)(zz:R2)(hzz:GL 3 zz):jW Tryz.prog 74 [(wp),(.val (.int .i64 (((0:Nat):Int)))),(.cptr 1000000 (jT.cells (jJ (kF zz))) 0)] (jJ (kF zz)):=by
 refine uW Tryz.func74 ?_
 refine jB<|kx [(5,(.ref 0 0))] [(0,some (bx (jJ (qB.mk qY qY))))] (zN (uT 0 vI xB)<|zZ) ?_
 refine jB<|kx [] [(0,some (bx (jJ (kF zz))))] (zE (nX qI)<|zT (qK qI)<|zZ) ?_
 refine jE ⟨_,(kQ (cs:=(bx (jJ (kF zz)))) (d:=(jJ (kF zz))) rfl rfl qI rfl rfl .nil),?_⟩
 rfl
theorem h_none(wp:jT)(zz:R2)(hzz:GL 3 zz):jW Tryz.prog 66 [(wp),(.val (.int .i64 (((0:Nat):Int)))),(.val (.int .i64 (((0:Nat):Int)))),(.cptr 1000000 (jT.cells (jJ (kF zz))) 0)] (jJ (kF zz)):=by
 refine uW Tryz.func66 ?_
 refine jB<|kx [(7,(.ref 0 0))] [(0,some (bx (jJ (qB.mk qY qY))))] (zN (uT 0 vI xB)<|zZ) ?_
 refine jB<|kx [] [(0,some (bx (jJ (kF zz))))] (zE (nX qI)<|zT (qK qI)<|zZ) ?_
 refine jE ⟨_,(kQ (cs:=(bx (jJ (kF zz)))) (d:=(jJ (kF zz))) rfl rfl qI rfl rfl .nil),?_⟩
 rfl
theorem h_vV(b:R2)(hb:GL 12000 b):jW Tryz.prog 75 [(.cptr 1000000 (jT.cells (.sl 44 8 (List.map jJ [(kF b)]))) 0),(.cptr 1000000 (jT.cells (qE (kI.mk 1 ((0:Nat):Int) 0 qY))) 0)] (jJ (kF b)):=by
 refine uW Tryz.func75 ?_
 refine jB<|kx [(2,(.ref 0 0))] [(0,some (bx (jJ (qB.mk qY qY))))] (zN (uT 0 vI xB)<|zZ) ?_
 refine jB<|kx [] [(0,some (bx (jJ (kF b))))] (zE (gJ mA)<|zE (aK xP)<|zE (gJ gN)<|zE (fD vG 0)<|zE (nX qI)<|zT (qK qI)<|zZ) ?_
 refine jE ⟨_,(kQ (cs:=(bx (jJ (kF b)))) (d:=(jJ (kF b))) rfl rfl qI rfl rfl .nil),?_⟩
 rfl
theorem h_gV(wp:jT)(zz:R2)(hzz:GL 3 zz):jW Tryz.prog 76 [(wp),(.val (.int .i64 (((0:Nat):Int)))),(.cptr 1000000 (jT.cells (qE (kI.mk 1 ((0:Nat):Int) 0 qY))) 0),(.cptr 1000000 (jT.cells (jJ (kF zz))) 0)] (jJ (kF (gw 1))):=by
 refine uW Tryz.func76 ?_
 refine jB<|kx [(6,(.ref 0 0))] [(0,some (bx (jJ (qB.mk qY qY))))] (zN (uT 0 vI xB)<|zZ) ?_
 refine jB<|jB<|kx [(10,(vb true))] [] (zM<|zE (aK xP)<|zE (gJ gN)<|zE (xC true nT)<|zZ) ?_
 refine uG ?_
 refine jB<|kx [] [(0,some (bx (jJ (kF (gw 1)))))] (zE (kH (j_whole ((1:Nat):Int) (by omega) (by omega)))<|zT (qK qI)<|zZ) ?_
 refine jE ⟨_,(kQ (cs:=(bx (jJ (kF (gw 1))))) (d:=(jJ (kF (gw 1)))) rfl rfl qI rfl rfl .nil),?_⟩
 rfl
theorem h_vM(u:J3)(hu:nO 12000 u)(v:J3)(hv:nO 12000 v):jW Tryz.prog 80 [(.cptr 1000000 (jT.cells (jD (jL u))) 0),(.cptr 1000000 (jT.cells (jD (jL v))) 0)] (jJ (kF (jN u.v v.v))):=by
 refine uW Tryz.func80 ?_
 refine jB<|kx [(2,(.ref 0 0))] [(0,some (bx (jJ (qB.mk qY qY))))] (zN (uT 0 vI xB)<|zZ) ?_
 refine jB<|kx [] [(0,some (bx (jJ (kF (jN u.v v.v)))))] (zE (aK eC)<|zE (nX qI)<|zE (aK eC)<|zE (nX qI)<|zE (kH (j_mul u.v (qG hu.v) v.v (qG hv.v)))<|zT (qK qI)<|zZ) ?_
 refine jE ⟨_,(kQ (cs:=(bx (jJ (kF (jN u.v v.v))))) (d:=(jJ (kF (jN u.v v.v)))) rfl rfl qI rfl rfl .nil),?_⟩
 rfl
theorem h_gM(wp:jT)(u:J3)(hu:nO 12000 u)(v:J3)(hv:nO 12000 v):jW Tryz.prog 82 [(wp),(.val (.int .i64 (((0:Nat):Int)))),(.cptr 1000000 (jT.cells (jD (jL u))) 0),(.cptr 1000000 (jT.cells (jD (jL v))) 0)] (jJ (kF (jO (jN u.v v.g) (jN v.v u.g)))):=by
 refine uW Tryz.func82 ?_
 refine jB<|kx [(6,(.ref 0 0))] [(0,some (bx (jJ (qB.mk qY qY))))] (zN (uT 0 vI xB)<|zZ) ?_
 refine jB<|kd [] [(0,some (bx (jJ (kF (jO (jN u.v v.g) (jN v.v u.g))))))] mo (wE (aK eC)<|wE (nX qI)<|wE (aK zQ)<|wE (gJ mA)<|wM<|wE (fD vG 0)<|wE (nX qI)<|wE (kH (j_mul u.v (qG hu.v) v.g (qG hv.g)))<|wE (aK eC)<|wE (nX qI)<|wE (aK zQ)<|wE (gJ mA)<|wM<|wE (fD vG 0)<|wE (nX qI)<|wE (kH (j_mul v.v (qG hv.v) u.g (qG hu.g)))<|wE (kH (j_add (jN u.v v.g) (qG (qN (k:=24000) hu.v hv.g)) (jN v.v u.g) (qG (qN (k:=24000) hv.v hu.g))))<|wT (qK qI)<|wZ) ?_
 refine jE ⟨_,(kQ (cs:=(bx (jJ (kF (jO (jN u.v v.g) (jN v.v u.g)))))) (d:=(jJ (kF (jO (jN u.v v.g) (jN v.v u.g))))) rfl rfl qI rfl rfl .nil),?_⟩
 rfl
theorem h_hM(wp:jT)(u:J3)(hu:nO 12000 u)(v:J3)(hv:nO 12000 v):jW Tryz.prog 83 [(wp),(.val (.int .i64 (((0:Nat):Int)))),(.val (.int .i64 (((0:Nat):Int)))),(.cptr 1000000 (jT.cells (jD (jL u))) 0),(.cptr 1000000 (jT.cells (jD (jL v))) 0)] (jJ (kF (jO (jO (jN u.v v.h) (jN v.v u.h)) (jO (jN u.g v.g) (jN u.g v.g))))):=by
 refine uW Tryz.func83 ?_
 refine jB<|kx [(8,(.ref 0 0))] [(0,some (bx (jJ (qB.mk qY qY))))] (zN (uT 0 vI xB)<|zZ) ?_
 refine jB<|kd [] [(0,some (bx (jJ (kF (jO (jO (jN u.v v.h) (jN v.v u.h)) (jO (jN u.g v.g) (jN u.g v.g)))))))] mo (wE (aK eC)<|wE (nX qI)<|wE (aK yV)<|wE (gJ sh46)<|wM<|wE (fD el46 0)<|wE (gJ mA)<|wM<|wE (fD vG 0)<|wE (nX qI)<|wE (kH (j_mul u.v (qG hu.v) v.h (qG hv.h)))<|wE (aK eC)<|wE (nX qI)<|wE (aK yV)<|wE (gJ sh46)<|wM<|wE (fD el46 0)<|wE (gJ mA)<|wM<|wE (fD vG 0)<|wE (nX qI)<|wE (kH (j_mul v.v (qG hv.v) u.h (qG hu.h)))<|wE (kH (j_add (jN u.v v.h) (qG (qN (k:=24000) hu.v hv.h)) (jN v.v u.h) (qG (qN (k:=24000) hv.v hu.h))))<|wE (aK zQ)<|wE (gJ mA)<|wM<|wE (fD vG 0)<|wE (nX qI)<|wE (aK zQ)<|wE (gJ mA)<|wM<|wE (fD vG 0)<|wE (nX qI)<|wE (kH (j_mul u.g (qG hu.g) v.g (qG hv.g)))<|wE (aK zQ)<|wE (gJ mA)<|wM<|wE (fD vG 0)<|wE (nX qI)<|wE (aK zQ)<|wE (gJ mA)<|wM<|wE (fD vG 0)<|wE (nX qI)<|wE (kH (j_mul u.g (qG hu.g) v.g (qG hv.g)))<|wE (kH (j_add (jN u.g v.g) (qG (qN (k:=24000) hu.g hv.g)) (jN u.g v.g) (qG (qN (k:=24000) hu.g hv.g))))<|wE (kH (j_add (jO (jN u.v v.h) (jN v.v u.h)) (qG (vL (k:=48001) (qN (k:=24000) hu.v hv.h) (qN (k:=24000) hv.v hu.h))) (jO (jN u.g v.g) (jN u.g v.g)) (qG (vL (k:=48001) (qN (k:=24000) hu.g hv.g) (qN (k:=24000) hu.g hv.g)))))<|wT (qK qI)<|wZ) ?_
 refine jE ⟨_,(kQ (cs:=(bx (jJ (kF (jO (jO (jN u.v v.h) (jN v.v u.h)) (jO (jN u.g v.g) (jN u.g v.g))))))) (d:=(jJ (kF (jO (jO (jN u.v v.h) (jN v.v u.h)) (jO (jN u.g v.g) (jN u.g v.g)))))) rfl rfl qI rfl rfl .nil),?_⟩
 rfl
end Go.Proofs.YtciingpdmjepgabGreatDoor
