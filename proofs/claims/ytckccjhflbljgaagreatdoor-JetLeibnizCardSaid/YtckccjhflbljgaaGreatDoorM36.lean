/- Part 36 of a proof: rules, plain facts, and functions walked. -/
import Derived.Test.YtckccjhflbljgaaGreatDoorM35
import Derived.Test.YtckccjhflbljgaaGreatDoorM34
import Derived.Test.YtckccjhflbljgaaGreatDoorM19
set_option linter.all false
namespace Go.Fid
def uz(B:uQ)(i:Int):Int:=B.us.getD i.toNat 0
structure Ft (B B':uQ) (r:Int) (c:Nat) (s:Int):Prop where
 ov:B'.ov=false
 ln:B'.tm.length<=B.tm.length+c
 sb:SB B'
 ext:Ext B B'
 ix:gX B' r
 sz:uz B' r<=s
theorem uz_1{B:uQ}(hS:SB B){i:Int}(h:gX B i):1<=uz B i/\uz B i<=4096:=hS.hB.hs _ (by have:=hS.hB.hu;have:=qO h;omega)
theorem Ext.uz{B B':uQ}(hS:SB B)(h:Ext B B'){i:Int}(hi:gX B i):uz B' i=uz B i:=h.usz (by have:=hS.hB.hu;have:=qO hi;omega)
theorem Ft.self{B:uQ}(hS:SB B)(hov:B.ov=false){i:Int}(hi:gX B i){s:Int}(hs:uz B i<=s):Ft B B i 0 s:=⟨hov,Nat.le_refl _,hS,.refl B,hi,hs⟩
theorem Ft.le{B B':uQ}{r:Int}{c c':Nat}{s s':Int}(h:Ft B B' r c s)(hc:c<=c')(hs:s<=s'):Ft B B' r c' s':=⟨h.ov,by have:=h.ln;omega,h.sb,h.ext,h.ix,by have:=h.sz;omega⟩
theorem Got.uz{B B':uQ}{r:Int}{x:jO}(g:Got B B' r x):uz B' r=gN B'.us x:=by
 have:=g.sb.us r.toNat (qO g.ix)
 rw[g.nd] at this;exact this
theorem yK{B:uQ}{o i k:Int}(hS:SB B)(h:NdAr B o i k)(hov:B.ov=false)(hl:B.tm.length<400)(hs:bSz B o i k<=4096):Ft B (jJ B o i k).1 (jJ B o i k).2 1 (bSz B o i k)/\uz (jJ B o i k).1 (jJ B o i k).2=bSz B o i k:=by
 have key:(jJ B o i k).1.ov=false/\(jJ B o i k).1.tm.length<=B.tm.length+1:=by
  cases hg:((xF B.kn (o,i,k)).isSome||B.ov) with
  |true=>rw[iK hg];exact ⟨hov,Nat.le_succ _⟩
  |false=>
   rw[bNode_f hg rfl]
   have e:=bAdd_f (B:=B) (x:=⟨o,i,k,zr⟩) (z:=bSz B o i k) (by rw[Bool.or_eq_false_iff,decide_eq_false_iff_not,decide_eq_false_iff_not];omega)
   rw[e]
   exact ⟨hov,by show (B.tm++[_]).length<=_;rw[List.length_append];exact Nat.le_refl _⟩
 obtain ⟨_,g⟩:=bX hS h key.1
 obtain ⟨r1,r7⟩:=h.rng
 have e:uz (jJ B o i k).1 (jJ B o i k).2=bSz B o i k:=by
  rw[g.uz,bSz_szN r1 r7]
  obtain ⟨l,m,e1,e2⟩:=g.ext
  rw[e2]
  exact szN_app (kd_nn (o:=o) (by omega) r7) h.ord (by have:=hS.hB.hu;omega)
 exact ⟨⟨key.1,key.2,g.sb,g.ext,g.ix,by rw[e];exact Int.le_refl _⟩,e⟩
theorem bNum_fit(hT:TxI){B:uQ}{q:Rat}(hS:SB B)(hq:QL q 1048576)(hov:B.ov=false)(hl:B.tm.length<400):Ft B (vN B q).1 (vN B q).2 1 1/\uz (vN B q).1 (vN B q).2=1:=by
 have key:(vN B q).1.ov=false/\(vN B q).1.tm.length<=B.tm.length+1:=by
  cases hg:(xF B.os (txQ q)).isSome with
  |true=>rw[bNum_t hg];exact ⟨hov,Nat.le_succ _⟩
  |false=>
   rw[bNum_f hg]
   have e:=bAdd_f (B:=B) (x:=⟨0,0,0,jM q⟩) (z:=1) (by rw[Bool.or_eq_false_iff,decide_eq_false_iff_not,decide_eq_false_iff_not];omega)
   rw[e]
   exact ⟨hov,by show (B.tm++[_]).length<=_;rw[List.length_append];exact Nat.le_refl _⟩
 obtain ⟨_,g⟩:=bS hT hS hq key.1
 have e:uz (vN B q).1 (vN B q).2=1:=by rw[g.uz];rfl
 exact ⟨⟨key.1,key.2,g.sb,g.ext,g.ix,by rw[e];exact Int.le_refl _⟩,e⟩
theorem bSz2{B:uQ}{o i k:Int}(h:kZ o=2)(h6:o≠6)(h7:o≠7):bSz B o i k=uz B i+uz B k:=by unfold bSz;rw[if_neg h6,if_neg h7,if_pos h];rfl
theorem bSum_fit{B:uQ}{i k:Int}(hS:SB B)(hi:gX B i)(hk:gX B k)(hov:B.ov=false)(hl:B.tm.length<400)(hs:uz B i+uz B k<=4096):Ft B (yU B i k).1 (yU B i k).2 1 (uz B i+uz B k):=by
 have a:=uz_1 hS hi;have b:=uz_1 hS hk
 unfold yU
 split
 ·exact (Ft.self hS hov hk (Int.le_refl _)).le (by decide) (by omega)
 ·split
  ·exact (Ft.self hS hov hi (Int.le_refl _)).le (by decide) (by omega)
  ·have e:=bSz2 (B:=B) (o:=2) (i:=i) (k:=k) (by decide) (by decide) (by decide)
   have h:=(yK (o:=2) hS (.inr ⟨by decide,by decide,hi,hk⟩) hov hl (by omega)).1
   exact h.le (Nat.le_refl _) (by omega)
theorem bDif_fit{B:uQ}{i k:Int}(hS:SB B)(hi:gX B i)(hk:gX B k)(hov:B.ov=false)(hl:B.tm.length<400)(hs:uz B i+uz B k<=4096):Ft B (qU B i k).1 (qU B i k).2 1 (uz B i+uz B k):=by
 have a:=uz_1 hS hi;have b:=uz_1 hS hk
 unfold qU
 split
 ·exact (Ft.self hS hov hi (Int.le_refl _)).le (by decide) (by omega)
 ·split
  ·have e:bSz B 6 k 0=uz B k:=rfl
   have h:=(yK (o:=6) hS (.inr ⟨by decide,by decide,hk,hk.pos⟩) hov hl (by omega)).1
   exact h.le (Nat.le_refl _) (by omega)
  ·have e:=bSz2 (B:=B) (o:=3) (i:=i) (k:=k) (by decide) (by decide) (by decide)
   have h:=(yK (o:=3) hS (.inr ⟨by decide,by decide,hi,hk⟩) hov hl (by omega)).1
   exact h.le (Nat.le_refl _) (by omega)
theorem bPrd_fit{B:uQ}{i k:Int}(hS:SB B)(hi:gX B i)(hk:gX B k)(hov:B.ov=false)(hl:B.tm.length<400)(hs:uz B i+uz B k<=4096):Ft B (jX B i k).1 (jX B i k).2 1 (uz B i+uz B k):=by
 have a:=uz_1 hS hi;have b:=uz_1 hS hk
 unfold jX
 split
 ·exact (Ft.self hS hov hi (Int.le_refl _)).le (by decide) (by omega)
 ·split
  ·exact (Ft.self hS hov hk (Int.le_refl _)).le (by decide) (by omega)
  ·have e:=bSz2 (B:=B) (o:=4) (i:=i) (k:=k) (by decide) (by decide) (by decide)
   have h:=(yK (o:=4) hS (.inr ⟨by decide,by decide,hi,hk⟩) hov hl (by omega)).1
   exact h.le (Nat.le_refl _) (by omega)
theorem Ext.bIs{B B':uQ}(h:Ext B B'){i n:Int}(hi:gX B i)(hb:bIs B i n=true):bIs B' i n=true:=by
 unfold Go.Fid.bIs at hb ⊢
 rw[h.nd (qO hi)]
 rw[Bool.and_eq_true,Bool.and_eq_true,decide_eq_true_eq] at hb ⊢
 exact ⟨⟨by have:=h.len;omega,hb.1.2⟩,hb.2⟩
def szF(o a b:Int):Int:=if kZ o=0 then 1 else if o=6 then a else if o=7 then 2*a else a+b
theorem nl2{a b:Int}(h1:1<=a)(h2:1<=b):a<=a*b/\b<=a*b/\(a+b)*(a+b)=a*a+2*(a*b)+b*b/\a<=a*a/\b<=b*b:=by
 refine ⟨?_,?_,?_,?_,?_⟩
 ·have:=Int.mul_le_mul_of_nonneg_left h2 (show 0<=a by omega);rwa [Int.mul_one] at this
 ·have:=Int.mul_le_mul_of_nonneg_right h1 (show 0<=b by omega);rwa [Int.one_mul] at this
 ·rw[Int.add_mul,Int.mul_add,Int.mul_add,Int.mul_comm b a];omega
 ·have:=Int.mul_le_mul_of_nonneg_left h1 (show 0<=a by omega);rwa [Int.mul_one] at this
 ·have:=Int.mul_le_mul_of_nonneg_left h2 (show 0<=b by omega);rwa [Int.mul_one] at this
structure Ft2 (B:uQ) (r:uQ × Int × Int) (c:Nat) (s D:Int):Prop where
 ov:r.1.ov=false
 ln:r.1.tm.length<=B.tm.length+c
 sb:SB r.1
 ext:Ext B r.1
 v:uz r.1 r.2.1=s
 s:uz r.1 r.2.2<=D
theorem dNd_fit(hT:TxI){i z o:Int}{k:Nat}{B:uQ}{V S:List Int}{x:jO}(hS:SB B)(h:DPre k z o B V S x)(hov:B.ov=false)(hl:B.tm.length+4<=400)(hz:uz B z=1)(ho:uz B o=1)(hzb:bIs B z 0=true)
  (hs:2*(szF x.op (uz B (gI V x.a)) (uz B (gI V x.b))*szF x.op (uz B (gI V x.a)) (uz B (gI V x.b)))<=4096)
  (ha:0<kZ x.op->uz B (gI S x.a)<=2*(uz B (gI V x.a)*uz B (gI V x.a))) (hb:1<kZ x.op->uz B (gI S x.b)<=2*(uz B (gI V x.b)*uz B (gI V x.b))) :
  Ft2 B (aV i z o B V S x) 4 (szF x.op (uz B (gI V x.a)) (uz B (gI V x.b))) (2*(szF x.op (uz B (gI V x.a)) (uz B (gI V x.b))*szF x.op (uz B (gI V x.a)) (uz B (gI V x.b)))):=by
 have h0:=h.op0;have h7:=h.op7
 have hc:x.op=0\/x.op=1\/x.op=2\/x.op=3\/x.op=4\/x.op=5\/x.op=6\/x.op=7:=by omega
 have k1:x.op=2\/x.op=3\/x.op=4\/x.op=5\/x.op=6\/x.op=7->0<kZ x.op:=fun e=>by rcases e with e | e | e | e | e | e<;>rw[e]<;>decide
 have k2:x.op=2\/x.op=3\/x.op=4\/x.op=5->1<kZ x.op:=fun e=>by rcases e with e | e | e | e<;>rw[e]<;>decide
 rcases hc with e | e | e | e | e | e | e | e
 ·have es:szF x.op (uz B (gI V x.a)) (uz B (gI V x.b))=1:=by rw[e];rfl
  rw[es,dNd_0 e]
  obtain ⟨f,f2⟩:=bNum_fit hT hS (h.num e) hov (by omega)
  exact ⟨f.ov,by have:=f.ln;dsimp only;omega,f.sb,f.ext,f2,by dsimp only;rw[f.ext.uz hS h.hz,hz];decide⟩
 ·have es:szF x.op (uz B (gI V x.a)) (uz B (gI V x.b))=1:=by rw[e];rfl
  rw[es,dNd_1 e]
  obtain ⟨f,f2⟩:=yK (o:=1) (i:=x.a) (k:=0) hS (.inl ⟨rfl,rfl,by have:=qO h.hz;omega⟩) hov (by omega) (by show (1:Int)<=4096;decide)
  refine ⟨f.ov,by have:=f.ln;dsimp only;omega,f.sb,f.ext,f2,?_⟩
  dsimp only
  split
  ·rw[f.ext.uz hS h.ho,ho];decide
  ·rw[f.ext.uz hS h.hz,hz];decide
 ·have q1:=k1 (.inl e);have q2:=k2 (.inl e)
  have va:=h.va q1;have vb:=h.vb q2;have sa:=h.sa q1;have sb:=h.sb q2
  have da:=ha q1;have db:=hb q2
  have ua:=uz_1 hS va;have ub:=uz_1 hS vb
  have es:szF x.op (uz B (gI V x.a)) (uz B (gI V x.b))=uz B (gI V x.a)+uz B (gI V x.b):=by rw[e];rfl
  rw[es] at hs ⊢
  obtain ⟨n1,n2,n3,n4,n5⟩:=nl2 ua.1 ub.1
  have eb:=bSz2 (B:=B) (o:=2) (i:=gI V x.a) (k:=gI V x.b) (by decide) (by decide) (by decide)
  rw[dNd_2 e]
  obtain ⟨f,f2⟩:=yK (o:=2) hS (.inr ⟨by decide,by decide,va,vb⟩) hov (by omega) (by omega)
  have l1:=f.ln
  have w:=bSum_fit f.sb (f.ext.ix sa) (f.ext.ix sb) f.ov (by omega) (by rw[f.ext.uz hS sa,f.ext.uz hS sb];omega)
  have l2:=w.ln;have s2:=w.sz
  rw[f.ext.uz hS sa,f.ext.uz hS sb] at s2
  exact ⟨w.ov,by dsimp only;omega,w.sb,f.ext.trans w.ext,by dsimp only;rw[w.ext.uz f.sb f.ix,f2,eb],by dsimp only;omega⟩
 ·have q1:=k1 (.inr (.inl e));have q2:=k2 (.inr (.inl e))
  have va:=h.va q1;have vb:=h.vb q2;have sa:=h.sa q1;have sb:=h.sb q2
  have da:=ha q1;have db:=hb q2
  have ua:=uz_1 hS va;have ub:=uz_1 hS vb
  have es:szF x.op (uz B (gI V x.a)) (uz B (gI V x.b))=uz B (gI V x.a)+uz B (gI V x.b):=by rw[e];rfl
  rw[es] at hs ⊢
  obtain ⟨n1,n2,n3,n4,n5⟩:=nl2 ua.1 ub.1
  have eb:=bSz2 (B:=B) (o:=3) (i:=gI V x.a) (k:=gI V x.b) (by decide) (by decide) (by decide)
  rw[dNd_3 e]
  obtain ⟨f,f2⟩:=yK (o:=3) hS (.inr ⟨by decide,by decide,va,vb⟩) hov (by omega) (by omega)
  have l1:=f.ln
  have w:=bDif_fit f.sb (f.ext.ix sa) (f.ext.ix sb) f.ov (by omega) (by rw[f.ext.uz hS sa,f.ext.uz hS sb];omega)
  have l2:=w.ln;have s2:=w.sz
  rw[f.ext.uz hS sa,f.ext.uz hS sb] at s2
  exact ⟨w.ov,by dsimp only;omega,w.sb,f.ext.trans w.ext,by dsimp only;rw[w.ext.uz f.sb f.ix,f2,eb],by dsimp only;omega⟩
 ·have q1:=k1 (.inr (.inr (.inl e)));have q2:=k2 (.inr (.inr (.inl e)))
  have va:=h.va q1;have vb:=h.vb q2;have sa:=h.sa q1;have sb:=h.sb q2
  have da:=ha q1;have db:=hb q2
  have ua:=uz_1 hS va;have ub:=uz_1 hS vb
  have es:szF x.op (uz B (gI V x.a)) (uz B (gI V x.b))=uz B (gI V x.a)+uz B (gI V x.b):=by rw[e];rfl
  rw[es] at hs ⊢
  obtain ⟨n1,n2,n3,n4,n5⟩:=nl2 ua.1 ub.1
  have eb:=bSz2 (B:=B) (o:=4) (i:=gI V x.a) (k:=gI V x.b) (by decide) (by decide) (by decide)
  rw[dNd_4 e]
  obtain ⟨f,f2⟩:=yK (o:=4) hS (.inr ⟨by decide,by decide,va,vb⟩) hov (by omega) (by omega)
  have l1:=f.ln
  have w:=bPrd_fit f.sb (f.ext.ix va) (f.ext.ix sb) f.ov (by omega) (by rw[f.ext.uz hS va,f.ext.uz hS sb];omega)
  have l2:=w.ln;have s2:=w.sz
  rw[f.ext.uz hS va,f.ext.uz hS sb] at s2
  have x2:=f.ext.trans w.ext
  have w3:=bPrd_fit w.sb (x2.ix vb) (x2.ix sa) w.ov (by omega) (by rw[x2.uz hS vb,x2.uz hS sa];omega)
  have l3:=w3.ln;have s3:=w3.sz
  rw[x2.uz hS vb,x2.uz hS sa] at s3
  have w4:=bSum_fit w3.sb (w3.ext.ix w.ix) w3.ix w3.ov (by omega) (by rw[w3.ext.uz w.sb w.ix];omega)
  have l4:=w4.ln;have s4:=w4.sz
  rw[w3.ext.uz w.sb w.ix] at s4
  exact ⟨w4.ov,by dsimp only;omega,w4.sb,(x2.trans w3.ext).trans w4.ext,by dsimp only;rw[w4.ext.uz w3.sb (w3.ext.ix (w.ext.ix f.ix)),w3.ext.uz w.sb (w.ext.ix f.ix),w.ext.uz f.sb f.ix,f2,eb],by dsimp only;omega⟩
 ·have q1:=k1 (.inr (.inr (.inr (.inl e))));have q2:=k2 (.inr (.inr (.inr e)))
  have va:=h.va q1;have vb:=h.vb q2;have sa:=h.sa q1;have sb:=h.sb q2
  have da:=ha q1;have db:=hb q2
  have ua:=uz_1 hS va;have ub:=uz_1 hS vb
  have es:szF x.op (uz B (gI V x.a)) (uz B (gI V x.b))=uz B (gI V x.a)+uz B (gI V x.b):=by rw[e];rfl
  rw[es] at hs ⊢
  obtain ⟨n1,n2,n3,n4,n5⟩:=nl2 ua.1 ub.1
  have eb:=bSz2 (B:=B) (o:=5) (i:=gI V x.a) (k:=gI V x.b) (by decide) (by decide) (by decide)
  obtain ⟨f,f2⟩:=yK (o:=5) hS (.inr ⟨by decide,by decide,va,vb⟩) hov (by omega) (by omega)
  have l1:=f.ln
  have w:=bPrd_fit f.sb f.ix (f.ext.ix sb) f.ov (by omega) (by rw[f2,eb,f.ext.uz hS sb];omega)
  have l2:=w.ln;have s2:=w.sz
  rw[f2,eb,f.ext.uz hS sb] at s2
  have x2:=f.ext.trans w.ext
  have w3:=bDif_fit w.sb (x2.ix sa) w.ix w.ov (by omega) (by rw[x2.uz hS sa];omega)
  have l3:=w3.ln;have s3:=w3.sz
  rw[x2.uz hS sa] at s3
  have x3:=x2.trans w3.ext
  cases hzz:bIs (qU (jX (jJ B 5 (gI V x.a) (gI V x.b)).1 (jJ B 5 (gI V x.a) (gI V x.b)).2 (gI S x.b)).1 (gI S x.a) (jX (jJ B 5 (gI V x.a) (gI V x.b)).1 (jJ B 5 (gI V x.a) (gI V x.b)).2 (gI S x.b)).2).1 (qU (jX (jJ B 5 (gI V x.a) (gI V x.b)).1 (jJ B 5 (gI V x.a) (gI V x.b)).2 (gI S x.b)).1 (gI S x.a) (jX (jJ B 5 (gI V x.a) (gI V x.b)).1 (jJ B 5 (gI V x.a) (gI V x.b)).2 (gI S x.b)).2).2 0 with
  |true=>
   rw[dNd_5z e.symm hzz]
   exact ⟨w3.ov,by dsimp only;omega,w3.sb,x3,by dsimp only;rw[w3.ext.uz w.sb (w.ext.ix f.ix),w.ext.uz f.sb f.ix,f2,eb],by dsimp only;rw[x3.uz hS h.hz,hz];omega⟩
  |false=>
   rw[dNd_5 e.symm hzz]
   have e4:=bSz2 (B:=(qU (jX (jJ B 5 (gI V x.a) (gI V x.b)).1 (jJ B 5 (gI V x.a) (gI V x.b)).2 (gI S x.b)).1 (gI S x.a) (jX (jJ B 5 (gI V x.a) (gI V x.b)).1 (jJ B 5 (gI V x.a) (gI V x.b)).2 (gI S x.b)).2).1) (o:=5) (i:=(qU (jX (jJ B 5 (gI V x.a) (gI V x.b)).1 (jJ B 5 (gI V x.a) (gI V x.b)).2 (gI S x.b)).1 (gI S x.a) (jX (jJ B 5 (gI V x.a) (gI V x.b)).1 (jJ B 5 (gI V x.a) (gI V x.b)).2 (gI S x.b)).2).2) (k:=gI V x.b) (by decide) (by decide) (by decide)
   rw[x3.uz hS vb] at e4
   obtain ⟨w4,u4⟩:=yK (o:=5) w3.sb (.inr ⟨by decide,by decide,w3.ix,x3.ix vb⟩) w3.ov (by omega) (by omega)
   have l4:=w4.ln
   exact ⟨w4.ov,by dsimp only;omega,w4.sb,x3.trans w4.ext,by dsimp only;rw[w4.ext.uz w3.sb (w3.ext.ix (w.ext.ix f.ix)),w3.ext.uz w.sb (w.ext.ix f.ix),w.ext.uz f.sb f.ix,f2,eb],by dsimp only;omega⟩
 ·have q1:=k1 (.inr (.inr (.inr (.inr (.inl e)))))
  have va:=h.va q1;have sa:=h.sa q1
  have da:=ha q1
  have ua:=uz_1 hS va
  have es:szF x.op (uz B (gI V x.a)) (uz B (gI V x.b))=uz B (gI V x.a):=by rw[e];rfl
  rw[es] at hs ⊢
  obtain ⟨n1,n2,n3,n4,n5⟩:=nl2 ua.1 ua.1
  have eb:bSz B 6 (gI V x.a) 0=uz B (gI V x.a):=rfl
  rw[dNd_6 e]
  obtain ⟨f,f2⟩:=yK (o:=6) hS (.inr ⟨by decide,by decide,va,va.pos⟩) hov (by omega) (by omega)
  have l1:=f.ln
  have b1:=f.ext.bIs h.hz hzb
  have f3:uz (jJ B 6 (gI V x.a) 0).1 (jJ B 6 (gI V x.a) 0).2=uz B (gI V x.a):=f2
  cases hk:bIs (jJ B 6 (gI V x.a) 0).1 (gI S x.a) 0 with
  |true=>
   rw[bDif_1 hk]
   exact ⟨f.ov,by dsimp only;omega,f.sb,f.ext,f3,by dsimp only;rw[f.ext.uz hS h.hz,hz];omega⟩
  |false=>
   rw[bDif_2 hk b1]
   have e6:bSz (jJ B 6 (gI V x.a) 0).1 6 (gI S x.a) 0=uz (jJ B 6 (gI V x.a) 0).1 (gI S x.a):=rfl
   rw[f.ext.uz hS sa] at e6
   obtain ⟨w,u⟩:=yK (o:=6) f.sb (.inr ⟨by decide,by decide,f.ext.ix sa,(f.ext.ix sa).pos⟩) f.ov (by omega) (by omega)
   have l2:=w.ln
   exact ⟨w.ov,by dsimp only;omega,w.sb,f.ext.trans w.ext,by dsimp only;rw[w.ext.uz f.sb f.ix,f3],by dsimp only;omega⟩
 ·have q1:=k1 (.inr (.inr (.inr (.inr (.inr e)))))
  have va:=h.va q1;have sa:=h.sa q1
  have da:=ha q1
  have ua:=uz_1 hS va
  have es:szF x.op (uz B (gI V x.a)) (uz B (gI V x.b))=2*uz B (gI V x.a):=by rw[e];rfl
  rw[es] at hs ⊢
  obtain ⟨n1,n2,n3,n4,n5⟩:=nl2 ua.1 ua.1
  have n6:2*uz B (gI V x.a)*(2*uz B (gI V x.a))=4*(uz B (gI V x.a)*uz B (gI V x.a)):=by rw[show 2*uz B (gI V x.a)=uz B (gI V x.a)+uz B (gI V x.a) by omega,n3];omega
  rw[n6] at hs ⊢
  have eb:bSz B 7 (gI V x.a) 0=2*uz B (gI V x.a):=rfl
  obtain ⟨f,f2⟩:=yK (o:=7) hS (.inr ⟨by decide,by decide,va,va.pos⟩) hov (by omega) (by omega)
  have l1:=f.ln
  have f3:uz (jJ B 7 (gI V x.a) 0).1 (jJ B 7 (gI V x.a) 0).2=2*uz B (gI V x.a):=f2
  have w:=bPrd_fit f.sb (f.ext.ix va) (f.ext.ix sa) f.ov (by omega) (by rw[f.ext.uz hS va,f.ext.uz hS sa];omega)
  have l2:=w.ln;have s2:=w.sz
  rw[f.ext.uz hS va,f.ext.uz hS sa] at s2
  have x2:=f.ext.trans w.ext
  by_cases hzz:(jX (jJ B 7 (gI V x.a) 0).1 (gI V x.a) (gI S x.a)).2=z
  ·rw[dNd_7z e hzz]
   exact ⟨w.ov,by dsimp only;omega,w.sb,x2,by dsimp only;rw[w.ext.uz f.sb f.ix,f3],by dsimp only;rw[x2.uz hS h.hz,hz];omega⟩
  ·rw[dNd_7 e hzz]
   obtain ⟨w3,u3⟩:=bNum_fit (q:=((2:Int):Rat)) hT w.sb (ql_i (z:=2)) w.ov (by omega)
   have l3:=w3.ln
   have x3:=x2.trans w3.ext
   have w4:=bPrd_fit w3.sb w3.ix (w3.ext.ix w.ix) w3.ov (by omega) (by rw[u3,w3.ext.uz w.sb w.ix];omega)
   have l4:=w4.ln;have s4:=w4.sz
   rw[u3,w3.ext.uz w.sb w.ix] at s4
   exact ⟨w4.ov,by dsimp only;omega,w4.sb,x3.trans w4.ext,by dsimp only;rw[w4.ext.uz w3.sb (w3.ext.ix (w.ext.ix f.ix)),w3.ext.uz w.sb (w.ext.ix f.ix),w.ext.uz f.sb f.ix,f3],by dsimp only;omega⟩
structure FtU (i:Int) (t:List jO) (k:Nat):Prop where
 ov:(dU i t k).1.ov=false
 ln:(dU i t k).1.tm.length<=2+4*k
 sb:SB (dU i t k).1
 z:uz (dU i t k).1 gH.2=1
 o:uz (dU i t k).1 dOn.2=1
 zb:bIs (dU i t k).1 gH.2 0=true
 v:∀ j,j<k->uz (dU i t k).1 ((dU i t k).2.1.getD j 0)=(vZ t k).getD j 0
 s:∀ j,j<k->uz (dU i t k).1 ((dU i t k).2.2.getD j 0)<=2*((vZ t k).getD j 0*(vZ t k).getD j 0)
theorem szF_congr{o a b a' b':Int}(h1:0<kZ o->a=a')(h2:1<kZ o->b=b')(h0:0<=kZ o):szF o a b=szF o a' b':=by
 unfold szF
 rcases xS o with ⟨e,f⟩ | ⟨e,f⟩ | ⟨e,f⟩ | ⟨e,f1,f2,f3⟩
 ·rw[if_pos e,if_pos e]
 ·rw[h1 (by omega)]
  rcases f with f | f
  ·subst f;rfl
  ·subst f;rfl
 ·rw[h1 (by omega),h2 (by omega)]
 ·omega
theorem dU_fit(hT:TxI){i n:Int}{t:List jO}(h0:zP n t=0)(hq:∀ x∈t,yX x.n (vC x.n) 1048576)(hl:t.length<=99)(hs:∀ k,k<t.length->gN (vZ t k) (t.getD k tz)<=45):∀ k,k<=t.length->FtU i t k
 |0,_=>by
  obtain ⟨f,f2⟩:=bNum_fit (q:=((0:Int):Rat)) hT sb0 (ql_i (z:=0)) rfl (by decide)
  have l1:=f.ln
  have l0:rb0.tm.length=0:=rfl
  obtain ⟨g,g2⟩:=bNum_fit (q:=((1:Int):Rat)) hT f.sb (ql_i (z:=1)) f.ov (by omega)
  have l2:=g.ln
  have hzb:bIs gH.1 gH.2 0=true:=by
   obtain ⟨_,gg⟩:=bS hT sb0 (ql_i (z:=0)) f.ov
   unfold Go.Fid.bIs
   rw[show gH.1.tm.getD gH.2.toNat tz=_ from gg.nd]
   rw[Bool.and_eq_true,Bool.and_eq_true,decide_eq_true_eq]
   exact ⟨⟨f.ix.2,rfl⟩,by rw[nI,beq_iff_eq,cmpQ_eq]⟩
  exact ⟨g.ov,by show dOn.1.tm.length<=_;have:dOn.1.tm.length<=gH.1.tm.length+1:=l2;have:gH.1.tm.length<=rb0.tm.length+1:=l1;omega,g.sb,(g.ext.uz f.sb f.ix).trans f2,g2,g.ext.bIs f.ix hzb,fun j h=>absurd h (Nat.not_lt_zero j),fun j h=>absurd h (Nat.not_lt_zero j)⟩
 |k+1,hk=>by
  have ih:=dU_fit hT (i:=i) h0 hq hl hs k (by omega)
  have iv:=dInv (i:=i) h0 hq k (by omega)
  have hp:=iv.pre h0 hq (by omega)
  obtain ⟨c1,c2,c3,c4⟩:=nd_k h0 hq (show k<t.length by omega)
  have lz:=qM t k
  have ev1:∀ c:Int,0<=c->c<(k:Int)->uz (dU i t k).1 (gI (dU i t k).2.1 c)=(vZ t k).getD c.toNat 0:=fun c q1 q2=>ih.v c.toNat (by omega)
  have es1:∀ c:Int,0<=c->c<(k:Int)->uz (dU i t k).1 (gI (dU i t k).2.2 c)<=2*((vZ t k).getD c.toNat 0*(vZ t k).getD c.toNat 0):=fun c q1 q2=>ih.s c.toNat (by omega)
  have en:szF (t.getD k tz).op (uz (dU i t k).1 (gI (dU i t k).2.1 (t.getD k tz).a)) (uz (dU i t k).1 (gI (dU i t k).2.1 (t.getD k tz).b))=gN (vZ t k) (t.getD k tz) :=
   szF_congr (fun q=>ev1 _ (c1.1 q).1 (c1.1 q).2) (fun q=>ev1 _ (c1.2 q).1 (c1.2 q).2) (kd_nn c3 c4)
  have h45:=hs k (by omega)
  have hpos:1<=gN (vZ t k) (t.getD k tz):=by
   rw[<- en]
   unfold szF
   have u1:0<kZ (t.getD k tz).op->1<=uz (dU i t k).1 (gI (dU i t k).2.1 (t.getD k tz).a):=fun q=>(uz_1 ih.sb (hp.va q)).1
   have u2:1<kZ (t.getD k tz).op->1<=uz (dU i t k).1 (gI (dU i t k).2.1 (t.getD k tz).b):=fun q=>(uz_1 ih.sb (hp.vb q)).1
   rcases xS (t.getD k tz).op with ⟨e,f⟩ | ⟨e,f⟩ | ⟨e,f⟩ | ⟨e,f1,f2,f3⟩
   ·rw[if_pos e];decide
   ·have:=u1 (by omega)
    rw[if_neg (by omega)]
    split
    ·exact this
    ·rw[if_pos (by omega)];omega
   ·have:=u1 (by omega);have:=u2 (by omega)
    rw[if_neg (by omega),if_neg (by omega),if_neg (by omega)];omega
   ·have:=kd_nn c3 c4;omega
  have hb2:gN (vZ t k) (t.getD k tz)*gN (vZ t k) (t.getD k tz)<=45*45:=Int.mul_le_mul h45 h45 (by omega) (by decide)
  have w:=dNd_fit hT (i:=i) ih.sb hp ih.ov (by have:=ih.ln;omega) ih.z ih.o ih.zb (by rw[en];omega) (fun q=>by rw[ev1 _ (c1.1 q).1 (c1.1 q).2];exact es1 _ (c1.1 q).1 (c1.1 q).2) (fun q=>by rw[ev1 _ (c1.2 q).1 (c1.2 q).2];exact es1 _ (c1.2 q).1 (c1.2 q).2)
  rw[en] at w
  have ln:=w.ln;have ln2:=ih.ln
  have lV:=iv.lV
  have lS:=iv.lS
  refine ⟨w.ov,by show (aV i gH.2 dOn.2 (dU i t k).1 (dU i t k).2.1 (dU i t k).2.2 (t.getD k tz)).1.tm.length<=_;omega,w.sb,(w.ext.uz ih.sb iv.hz).trans ih.z,(w.ext.uz ih.sb iv.ho).trans ih.o,w.ext.bIs iv.hz ih.zb,fun j hj=>?_,fun j hj=>?_⟩
  ·show uz (aV i gH.2 dOn.2 (dU i t k).1 (dU i t k).2.1 (dU i t k).2.2 (t.getD k tz)).1 (((dU i t k).2.1++[(aV i gH.2 dOn.2 (dU i t k).1 (dU i t k).2.1 (dU i t k).2.2 (t.getD k tz)).2.1]).getD j 0)=_
   rw[vZ,uO,uO,lV,lz]
   rcases Nat.lt_or_ge j k with hjk | hjk
   ·rw[if_pos hjk,if_pos hjk,w.ext.uz ih.sb (iv.hV j hjk)];exact ih.v j hjk
   ·obtain rfl:j=k:=by omega
    rw[if_neg (Nat.lt_irrefl _),if_pos rfl,if_neg (Nat.lt_irrefl _),if_pos rfl];exact w.v
  ·show uz (aV i gH.2 dOn.2 (dU i t k).1 (dU i t k).2.1 (dU i t k).2.2 (t.getD k tz)).1 (((dU i t k).2.2++[(aV i gH.2 dOn.2 (dU i t k).1 (dU i t k).2.1 (dU i t k).2.2 (t.getD k tz)).2.2]).getD j 0)<=_
   rw[vZ,uO,uO,lS,lz]
   rcases Nat.lt_or_ge j k with hjk | hjk
   ·rw[if_pos hjk,if_pos hjk,w.ext.uz ih.sb (iv.hS j hjk)];exact ih.s j hjk
   ·obtain rfl:j=k:=by omega
    rw[if_neg (Nat.lt_irrefl _),if_pos rfl,if_neg (Nat.lt_irrefl _),if_pos rfl];exact w.s
theorem drc_0(hT:TxI){i n:Int}{t:List jO}(h0:zP n t=0)(hq:∀ x∈t,yX x.n (vC x.n) 1048576)(hl:t.length<=99)(hs:∀ k,k<t.length->gN (vZ t k) (t.getD k tz)<=45):DRC i t=0/\DRT i t=drvT i t:=by
 have e:dOv i t=false:=by
  unfold dOv
  rw[List.any_eq_false]
  intro k hk
  have:=(dU_fit hT (i:=i) h0 hq hl hs (k+1) (by have:=List.mem_range.1 hk;omega)).ov
  rw[this];decide
 unfold DRC DRT
 rw[e]
 exact ⟨if_neg (by decide),if_neg (by decide)⟩
def VBd(ss:List Int)(V:List Rat):Prop:=∀ j,j<V.length->∃ s:Nat,ss.getD j 0=(s:Int)/\1<=s/\QL (V.getD j 0) (bV s)
theorem vb_at{ss:List Int}{V:List Rat}(h:VBd ss V){a:Int}(h0:0<=a)(h1:a<V.length):∃ s:Nat,ss.getD a.toNat 0=(s:Int)/\1<=s/\QL (V.getD a.toNat 0) (bV s):=h a.toNat (by omega)
theorem vb_node{z:Int}{ss:List Int}{V xs:List Rat}{x:jO}(hk:ndC z ss x=0)(hl:ss.length=V.length)(hq:yX x.n (vC x.n) 8)(hb:∀ y∈xs,QL y 24)(h:VBd ss V) :
  ∃ s:Nat,gN ss x=(s:Int)/\1<=s/\QL (vV xs V x) (bV s):=by
 obtain ⟨h1,h2,h3,_⟩:=nd_0 hk
 unfold cM at h1
 unfold dJ at h2
 rcases xS x.op with ⟨e,f⟩ | ⟨e,f⟩ | ⟨e,f⟩ | ⟨e,f⟩
 ·refine ⟨1,by unfold gN;rw[if_pos e];rfl,Nat.le_refl _,?_⟩
  rcases f with f | f
  ·unfold vV;simp only[f];exact uE hq.ql (by decide)
  ·unfold vV;simp only[f];exact uE (qlg hb (by decide) _) (by decide)
 ·obtain ⟨s,e1,e2,e3⟩:=vb_at h (a:=x.a) (by omega) (by omega)
  rcases f with f | f
  ·refine ⟨s,by unfold gN;rw[if_neg (by omega),if_pos f];exact e1,e2,?_⟩
   unfold vV;simp only[f];exact ql_neg e3
  ·refine ⟨2*s,by unfold gN;rw[if_neg (by omega),if_neg (by omega),if_pos f,e1];omega,by omega,?_⟩
   unfold vV;simp only[f];exact gS e3 e3 (by unfold bV;omega)
 ·obtain ⟨s,e1,e2,e3⟩:=vb_at h (a:=x.a) (by omega) (by omega)
  obtain ⟨r,g1,g2,g3⟩:=vb_at h (a:=x.b) (by omega) (by omega)
  refine ⟨s+r,by unfold gN;rw[if_neg (by omega),if_neg (by omega),if_neg (by omega),e1,g1];omega,by omega,?_⟩
  rcases f with f | f | f | f
  ·unfold vV;simp only[f];exact ql_add e3 g3 (by unfold bV;omega)
  ·unfold vV;simp only[f];exact ql_sub e3 g3 (by unfold bV;omega)
  ·unfold vV;simp only[f];exact gS e3 g3 (by unfold bV;omega)
  ·unfold vV;simp only[f];exact lA e3 g3 (by unfold bV;omega)
 ·omega
theorem gl_ptb{xs:List Rat}{n:Nat}(h:∀ y∈List.map gpt xs,GL n y):∀ q∈xs,QL q n:=fun q hq=>(h _ (List.mem_map.2 ⟨q,hq,rfl⟩)).1
theorem eR.vb{xs:List Rat}{t:List jO}(h:eR (List.map gpt xs) t):∀ {k:Nat},k<=t.length->VBd (vZ t k) (vU xs t k)
 |0,_=>fun j hj=>by simp [vU] at hj
 |k+1,hk=>fun j hj=>by
  have ih:=h.vb (k:=k) (by omega)
  have l1:=qM t k
  have l2:=eU xs t k
  rw[eU] at hj
  have g1:(vZ t (k+1)).getD j 0=_:=dS
  have g2:(vU xs t (k+1)).getD j 0=_:=dS
  rcases Nat.lt_or_ge j k with hjk | hjk
  ·rw[if_pos (by omega)] at g1 g2
   rw[g1,g2];exact ih j (by omega)
  ·rw[if_neg (by omega),if_pos (by omega)] at g1 g2
   rw[g1,g2]
   exact vb_node ((mQ h.c0).2.2.2.2 k (by omega)) (l1.trans l2.symm) (h.q _ (cR (by omega))) (gl_ptb h.b) ih
theorem eR.vq{xs:List Rat}{t:List jO}(h:eR (List.map gpt xs) t){k:Nat}(hk:k<t.length):QL (vV xs (vU xs t k) (t.getD k tz)) 1048576:=by
 obtain ⟨s,e1,e2,e3⟩:=vb_node ((mQ h.c0).2.2.2.2 k hk) ((qM t k).trans (eU xs t k).symm) (h.q _ (cR hk)) (gl_ptb h.b) (h.vb (Nat.le_of_lt hk))
 have e4:=h.s k hk
 exact uE e3 (bd_200 (s:=s) (by omega)).1
def vzB(xs:List Rat)(t:List jO)(k:Nat):Bool:=decide ((t.getD k tz).op=5)&&decide ((vU xs t k).getD (t.getD k tz).b.toNat 0=0)
def vzT(xs:List Rat)(t:List jO):Bool:=(List.range t.length).any (vzB xs t)
theorem vz_at{xs:List Rat}{t:List jO}{k:Nat}(h:vzB xs t k=false)(ho:(t.getD k tz).op=5):(vU xs t k).getD (t.getD k tz).b.toNat 0≠0:=by
 unfold vzB at h;rw[decide_eq_true ho,Bool.true_and] at h;exact of_decide_eq_false h
theorem eR.vrun{xs:List Rat}{t:List jO}(h:eR (List.map gpt xs) t)(hz:vzT xs t=false):iB xs t :=
 ⟨by have:=h.c0;rwa [List.length_map] at this,fun k hk=>h.vq hk,fun k hk ho=>vz_at (by
  cases hp:vzB xs t k with
  |false=>rfl
  |true=>unfold vzT at hz;rw[List.any_eq_true.2 ⟨k,List.mem_range.2 hk,hp⟩] at hz;cases hz) ho⟩
theorem eR.vfail{xs:List Rat}{t:List jO}(h:eR (List.map gpt xs) t)(hz:vzT xs t=true):∃ k,VFail xs t k:=by
 obtain ⟨k,h1,h2,h3⟩:=fst_any hz
 unfold vzB at h3
 rw[Bool.and_eq_true,decide_eq_true_eq,decide_eq_true_eq] at h3
 exact ⟨k,by have:=h.c0;rwa [List.length_map] at this,h1,⟨fun i hi=>h.vq (by omega),fun i hi ho=>vz_at (h2 i hi) ho⟩,h3.1,h3.2⟩
structure NPx (n:Int) (m:Nat) (x:jO):Prop where
 o0:0<=x.op
 o7:x.op<=7
 b:kZ x.op<2->x.b=0
 c:x.op=0->x.a=0/\yX x.n (vC x.n) m/\kM x.n=true
 z:x.op≠0->x.n=zr
 v:x.op=1->0<=x.a/\x.a<n
theorem npx_of{n:Int}{m:Nat}{o i k:Int}{c:kT}(h0:0<=o)(h7:o<=7)(hb:kZ o<2->k=0)(hc:o=0->i=0/\yX c (vC c) m/\kM c=true)(hz:o≠0->c=zr)(hv:o=1->0<=i/\i<n):NPx n m ⟨o,i,k,c⟩:=⟨h0,h7,hb,hc,hz,hv⟩
section
variable {A:Type} {d:A} {f:Nf A} {R:A->Prop} {n:Int} {m:Nat}
def GdB(d:A)(f:Nf A)(R:A->Prop)(n:Int)(m:Nat)(B:uQ):Prop:=∀ j,j<B.tm.length->NPx n m (B.tm.getD j tz)/\((B.tm.getD j tz).op=5->R (eV d f B.tm (B.tm.getD j tz).b.toNat))
theorem bAdd_gd{B:uQ}{x:jO}{s:Int}(hB:RBI B)(hg:GdB d f R n m B)(hx:NPx n m x)(ho:eP x B.tm.length)(h5:x.op=5->R (eV d f B.tm x.b.toNat)):∀ j,j<(qQ B x s).1.tm.length->NPx n m ((qQ B x s).1.tm.getD j tz)/\(((qQ B x s).1.tm.getD j tz).op=5->R (eV d f (qQ B x s).1.tm ((qQ B x s).1.tm.getD j tz).b.toNat)):=by
 unfold qQ
 split
 ·exact hg
 ·intro j hj
  have hj:j<(B.tm++[x]).length:=hj
  rw[List.length_append,List.length_singleton] at hj
  show NPx n m ((B.tm++[x]).getD j tz)/\(((B.tm++[x]).getD j tz).op=5->R (eV d f (B.tm++[x]) ((B.tm++[x]).getD j tz).b.toNat))
  rcases Nat.lt_or_ge j B.tm.length with hl | hl
  ·rw[gU hl]
   refine ⟨(hg j hl).1,fun e=>?_⟩
   have:=(hB.ho j hl).2 (by rw[e];decide)
   rw[eV_app (by omega)];exact (hg j hl).2 e
  ·obtain rfl:j=B.tm.length:=by omega
   rw[uO,if_neg (Nat.lt_irrefl _),if_pos rfl]
   refine ⟨hx,fun e=>?_⟩
   have:=ho.2 (by rw[e];decide)
   rw[eV_app (by omega)];exact h5 e
theorem nK{B:uQ}{o i k:Int}(hB:RBI B)(hg:GdB d f R n m B)(h:NdAr B o i k)(hx:NPx n m ⟨o,i,k,zr⟩)(h5:o=5->R (eV d f B.tm k.toNat)):GdB d f R n m (jJ B o i k).1:=by
 cases hs:((xF B.kn (o,i,k)).isSome||B.ov) with
 |true=>rw[iK hs];exact hg
 |false=>rw[bNode_f hs rfl];exact bAdd_gd (x:=⟨o,i,k,zr⟩) (s:=bSz B o i k) hB hg hx h.ord h5
theorem bNum_gd{B:uQ}{q:Rat}(hB:RBI B)(hg:GdB d f R n m B)(hq:QL q m):GdB d f R n m (vN B q).1:=by
 cases hs:(xF B.os (txQ q)).isSome with
 |true=>rw[bNum_t hs];exact hg
 |false=>rw[bNum_f hs];exact bAdd_gd (x:=⟨0,0,0,jM q⟩) (s:=1) hB hg (npx_of (Int.le_refl _) (by decide) (fun _=>rfl) (fun _=>⟨rfl,qX (kC hq),cH q⟩) (fun h=>absurd rfl h) (fun h=>absurd h (by decide))) ⟨fun h=>absurd h (show ¬ 0<kZ 0 by decide),fun h=>absurd h (show ¬ 1<kZ 0 by decide)⟩ (fun h=>absurd h (show ¬ (0:Int)=5 by decide))
theorem npx2{o i k:Int}(h:o=2\/o=3\/o=4\/o=5):NPx n m ⟨o,i,k,zr⟩:=by
 rcases h with rfl | rfl | rfl | rfl<;>exact npx_of (by decide) (by decide) (fun h=>absurd h (by decide)) (fun h=>absurd h (by decide)) (fun _=>rfl) (fun h=>absurd h (by decide))
theorem npx1{o i:Int}(h:o=6\/o=7):NPx n m ⟨o,i,0,zr⟩:=by
 rcases h with rfl | rfl<;>exact npx_of (by decide) (by decide) (fun _=>rfl) (fun h=>absurd h (by decide)) (fun _=>rfl) (fun h=>absurd h (by decide))
theorem bSum_gd{B:uQ}{i k:Int}(hB:RBI B)(hg:GdB d f R n m B)(hi:gX B i)(hk:gX B k):GdB d f R n m (yU B i k).1:=by
 unfold yU
 split
 ·exact hg
 ·split
  ·exact hg
  ·exact nK hB hg (.inr ⟨by decide,by decide,hi,hk⟩) (npx2 (.inl rfl)) (fun h=>absurd h (by decide))
theorem bDif_gd{B:uQ}{i k:Int}(hB:RBI B)(hg:GdB d f R n m B)(hi:gX B i)(hk:gX B k):GdB d f R n m (qU B i k).1:=by
 unfold qU
 split
 ·exact hg
 ·split
  ·exact nK hB hg (.inr ⟨by decide,by decide,hk,hk.pos⟩) (npx1 (.inl rfl)) (fun h=>absurd h (by decide))
  ·exact nK hB hg (.inr ⟨by decide,by decide,hi,hk⟩) (npx2 (.inr (.inl rfl))) (fun h=>absurd h (by decide))
theorem bPrd_gd{B:uQ}{i k:Int}(hB:RBI B)(hg:GdB d f R n m B)(hi:gX B i)(hk:gX B k):GdB d f R n m (jX B i k).1:=by
 unfold jX
 split
 ·exact hg
 ·split
  ·exact hg
  ·exact nK hB hg (.inr ⟨by decide,by decide,hi,hk⟩) (npx2 (.inr (.inr (.inl rfl)))) (fun h=>absurd h (by decide))
theorem bAdd_ext(B:uQ)(x:jO)(s:Int):∃ l w,(qQ B x s).1.tm=B.tm++l/\(qQ B x s).1.us=B.us++w:=by
 unfold qQ;split
 ·exact ⟨[],[],by simp,by simp⟩
 ·exact ⟨[x],[s],rfl,rfl⟩
theorem bNode_ext(B:uQ)(o i k:Int):Ext B (jJ B o i k).1:=by
 cases hs:((xF B.kn (o,i,k)).isSome||B.ov) with
 |true=>rw[iK hs];exact .refl B
 |false=>rw[bNode_f hs rfl];exact bAdd_ext B ⟨o,i,k,zr⟩ (bSz B o i k)
theorem bDif_ext(B:uQ)(i k:Int):Ext B (qU B i k).1:=by
 unfold qU;split
 ·exact .refl B
 ·split<;>exact bNode_ext _ _ _ _
theorem bPrd_ext(B:uQ)(i k:Int):Ext B (jX B i k).1:=by
 unfold jX;split
 ·exact .refl B
 ·split
  ·exact .refl B
  ·exact bNode_ext _ _ _ _
theorem dNd_gd{i z o:Int}{k:Nat}{B:uQ}{V S:List Int}{x:jO}(h:DPre k z o B V S x)(hg:GdB d f R n m B)(hm:1<=m)(hR:x.op=5->R (eV d f B.tm (gI V x.b).toNat))(hv:x.op=1->0<=x.a/\x.a<n)(hq:x.op=0->QL (vC x.n) m):GdB d f R n m (aV i z o B V S x).1:=by
 have h0:=h.op0;have h7:=h.op7
 have hc:x.op=0\/x.op=1\/x.op=2\/x.op=3\/x.op=4\/x.op=5\/x.op=6\/x.op=7:=by omega
 have k1:x.op=2\/x.op=3\/x.op=4\/x.op=5\/x.op=6\/x.op=7->0<kZ x.op:=fun e=>by rcases e with e | e | e | e | e | e<;>rw[e]<;>decide
 have k2:x.op=2\/x.op=3\/x.op=4\/x.op=5->1<kZ x.op:=fun e=>by rcases e with e | e | e | e<;>rw[e]<;>decide
 rcases hc with e | e | e | e | e | e | e | e
 ·rw[dNd_0 e];exact bNum_gd h.hB hg (hq e)
 ·rw[dNd_1 e]
  exact nK h.hB hg (.inl ⟨rfl,rfl,by have:=qO h.hz;omega⟩) (npx_of (by decide) (by decide) (fun _=>rfl) (fun q=>absurd q (by decide)) (fun _=>rfl) (fun _=>hv e)) (fun q=>absurd q (by decide))
 ·have va:=h.va (k1 (.inl e));have vb:=h.vb (k2 (.inl e));have sa:=h.sa (k1 (.inl e));have sb:=h.sb (k2 (.inl e))
  rw[dNd_2 e]
  have r1:=nd2 h.hB (o:=2) (by decide) (by decide) va vb
  exact bSum_gd r1.1 (nK h.hB hg (.inr ⟨by decide,by decide,va,vb⟩) (npx2 (.inl rfl)) (fun q=>absurd q (by decide))) (r1.ix sa) (r1.ix sb)
 ·have va:=h.va (k1 (.inr (.inl e)));have vb:=h.vb (k2 (.inr (.inl e)));have sa:=h.sa (k1 (.inr (.inl e)));have sb:=h.sb (k2 (.inr (.inl e)))
  rw[dNd_3 e]
  have r1:=nd2 h.hB (o:=3) (by decide) (by decide) va vb
  exact bDif_gd r1.1 (nK h.hB hg (.inr ⟨by decide,by decide,va,vb⟩) (npx2 (.inr (.inl rfl))) (fun q=>absurd q (by decide))) (r1.ix sa) (r1.ix sb)
 ·have va:=h.va (k1 (.inr (.inr (.inl e))));have vb:=h.vb (k2 (.inr (.inr (.inl e))));have sa:=h.sa (k1 (.inr (.inr (.inl e))));have sb:=h.sb (k2 (.inr (.inr (.inl e))))
  rw[dNd_4 e]
  have r1:=nd2 h.hB (o:=4) (by decide) (by decide) va vb
  have g1:=nK h.hB hg (.inr ⟨by decide,by decide,va,vb⟩) (npx2 (.inr (.inr (.inl rfl)))) (fun q=>absurd q (by decide))
  have r2:=nW r1.1 (r1.ix va) (r1.ix sb)
  have g2:=bPrd_gd r1.1 g1 (r1.ix va) (r1.ix sb)
  have r3:=nW r2.1 (r2.ix (r1.ix vb)) (r2.ix (r1.ix sa))
  have g3:=bPrd_gd r2.1 g2 (r2.ix (r1.ix vb)) (r2.ix (r1.ix sa))
  exact bSum_gd r3.1 g3 (r3.ix r2.2.1) r3.2.1
 ·have va:=h.va (k1 (.inr (.inr (.inr (.inl e)))));have vb:=h.vb (k2 (.inr (.inr (.inr e))));have sa:=h.sa (k1 (.inr (.inr (.inr (.inl e)))));have sb:=h.sb (k2 (.inr (.inr (.inr e))))
  have r1:=nd2 h.hB (o:=5) (by decide) (by decide) va vb
  have g1:=nK h.hB hg (.inr ⟨by decide,by decide,va,vb⟩) (npx2 (.inr (.inr (.inr rfl)))) (fun _=>hR e)
  have r2:=nW r1.1 r1.2.1 (r1.ix sb)
  have g2:=bPrd_gd r1.1 g1 r1.2.1 (r1.ix sb)
  have r3:=lL r2.1 (r2.ix (r1.ix sa)) r2.2.1
  have g3:=bDif_gd r2.1 g2 (r2.ix (r1.ix sa)) r2.2.1
  cases hzz:bIs (qU (jX (jJ B 5 (gI V x.a) (gI V x.b)).1 (jJ B 5 (gI V x.a) (gI V x.b)).2 (gI S x.b)).1 (gI S x.a) (jX (jJ B 5 (gI V x.a) (gI V x.b)).1 (jJ B 5 (gI V x.a) (gI V x.b)).2 (gI S x.b)).2).1 (qU (jX (jJ B 5 (gI V x.a) (gI V x.b)).1 (jJ B 5 (gI V x.a) (gI V x.b)).2 (gI S x.b)).1 (gI S x.a) (jX (jJ B 5 (gI V x.a) (gI V x.b)).1 (jJ B 5 (gI V x.a) (gI V x.b)).2 (gI S x.b)).2).2 0 with
  |true=>rw[dNd_5z e.symm hzz];exact g3
  |false=>
   rw[dNd_5 e.symm hzz]
   have x3:=((bNode_ext B 5 (gI V x.a) (gI V x.b)).trans (bPrd_ext _ (jJ B 5 (gI V x.a) (gI V x.b)).2 (gI S x.b))).trans (bDif_ext _ (gI S x.a) (jX (jJ B 5 (gI V x.a) (gI V x.b)).1 (jJ B 5 (gI V x.a) (gI V x.b)).2 (gI S x.b)).2)
   exact nK r3.1 g3 (.inr ⟨by decide,by decide,r3.2.1,x3.ix vb⟩) (npx2 (.inr (.inr (.inr rfl)))) (fun _=>by rw[x3.ev (qO vb)];exact hR e)
 ·have va:=h.va (k1 (.inr (.inr (.inr (.inr (.inl e))))));have sa:=h.sa (k1 (.inr (.inr (.inr (.inr (.inl e))))))
  rw[dNd_6 e]
  have r1:=nd2 h.hB (o:=6) (by decide) (by decide) va va.pos
  exact bDif_gd r1.1 (nK h.hB hg (.inr ⟨by decide,by decide,va,va.pos⟩) (npx1 (.inl rfl)) (fun q=>absurd q (by decide))) (r1.ix h.hz) (r1.ix sa)
 ·have va:=h.va (k1 (.inr (.inr (.inr (.inr (.inr e))))));have sa:=h.sa (k1 (.inr (.inr (.inr (.inr (.inr e))))))
  have r1:=nd2 h.hB (o:=7) (by decide) (by decide) va va.pos
  have g1:=nK h.hB hg (.inr ⟨by decide,by decide,va,va.pos⟩) (npx1 (.inr rfl)) (fun q=>absurd q (by decide))
  have r2:=nW r1.1 (r1.ix va) (r1.ix sa)
  have g2:=bPrd_gd r1.1 g1 (r1.ix va) (r1.ix sa)
  by_cases hzz:(jX (jJ B 7 (gI V x.a) 0).1 (gI V x.a) (gI S x.a)).2=z
  ·rw[dNd_7z e hzz];exact g2
  ·rw[dNd_7 e hzz]
   have r3:=bNum_ok r2.1 (ql_i (z:=2))
   have g3:=bNum_gd (q:=((2:Int):Rat)) r2.1 g2 (zW (z:=2) (Nat.le_trans (xB) hm) hm)
   exact bPrd_gd r3.1 g3 r3.2.1 (r3.ix r2.2.1)
theorem dU_gd(hA:Alg A d f)(hT:TxI){i n:Int}{t:List jO}(h0:zP n t=0)(hq:∀ x∈t,yX x.n (vC x.n) 1048576)(hm:1<=m)(h8:∀ x∈t,x.op=0->QL (vC x.n) m)
  (hR:∀ k,k<t.length->(t.getD k tz).op=5->R ((cU d f t k).getD (t.getD k tz).b.toNat d)):∀ k,k<=t.length->(dU i t k).1.ov=false->GdB d f R n m (dU i t k).1
 |0,_,_=>bNum_gd dz_ok.1 (bNum_gd rbi0 (fun j h=>absurd h (Nat.not_lt_zero j)) (zW (z:=0) (Nat.le_trans (xB) hm) hm)) (zW (z:=1) (Nat.le_trans (xB) hm) hm)
 |k+1,hk,hov=>by
  have hov:(aV i gH.2 dOn.2 (dU i t k).1 (dU i t k).2.1 (dU i t k).2.2 (t.getD k tz)).1.ov=false:=hov
  have ih:=dU_gd hA hT (i:=i) h0 hq hm h8 hR k (by omega) (dNd_ov hov)
  have iv:=dInv (i:=i) h0 hq k (by omega)
  have sm:=dU_sem hA hT (i:=i) h0 hq k (by omega) (dNd_ov hov)
  obtain ⟨c1,c2,c3,c4⟩:=nd_k h0 hq (show k<t.length by omega)
  have hmem:t.getD k tz∈t:=cR (by omega)
  obtain ⟨_,_,h3,_⟩:=nd_0 ((mQ h0).2.2.2.2 k (by omega))
  unfold lN at h3
  refine dNd_gd (iv.pre h0 hq (by omega)) ih hm (fun e=>?_) (fun e=>by omega) (fun e=>h8 _ hmem e)
  have q:=c1.2 (by rw[e];decide)
  have e2:eV d f (dU i t k).1.tm (gI (dU i t k).2.1 (t.getD k tz).b).toNat=(cU d f t k).getD (t.getD k tz).b.toNat d:=sm.v _ (by omega)
  rw[e2];exact hR k (by omega) e
end
def fS:Nf Int:=fun o _ u v _=>if kZ o<=0 then 1 else if o=6 then u else if o=7 then 2*u else u+v
theorem fS_ok:NfOk fS:=by
 refine ⟨fun o a u v u' v' n h=>?_,fun o a a' u v v' n h=>?_,fun o a a' u v n h=>rfl,fun o a u v n n' h=>rfl⟩
 ·unfold fS;rw[if_pos h,if_pos h]
 ·unfold fS
  rcases xS o with ⟨e,g⟩ | ⟨e,g⟩ | ⟨e,g⟩ | ⟨e,g⟩
  ·omega
  ·rcases g with rfl | rfl<;>rfl
  ·omega
  ·omega
theorem szN_fS{ss:List Int}{x:jO}(h:0<=kZ x.op):gN ss x=nfV 0 fS ss x:=by
 unfold gN nfV fS
 by_cases e:kZ x.op=0
 ·rw[if_pos e,if_pos (by omega)]
 ·rw[if_neg e,if_neg (show ¬ kZ x.op<=0 by omega)]
theorem szU_fS{t:List jO}:∀ k,(∀ j,j<k->0<=kZ (t.getD j tz).op)->vZ t k=cU 0 fS t k
 |0,_=>rfl
 |k+1,h=>by rw[vZ,cU,szU_fS k (fun j hj=>h j (by omega)),szN_fS (h k (Nat.lt_succ_self _))]
theorem us_fS{B:uQ}(hS:SB B):∀ (N j:Nat),j<N->j<B.tm.length->B.us.getD j 0=eV 0 fS B.tm j
 |0,j,h,_=>absurd h (Nat.not_lt_zero j)
 |N+1,j,h,hj=>by
  have ho:=hS.hB.ho j hj
  rw[hS.us j hj,eV_node fS_ok hj ho,szN_fS (hS.kd j hj)]
  unfold nfV
  refine nf_congr fS_ok (fun q=>?_) (fun q=>?_)
  ·have:=ho.1 q;exact us_fS hS N _ (by omega) (by omega)
  ·have:=ho.2 q;exact us_fS hS N _ (by omega) (by omega)
def fR(xs:List Rat):Nf Rat:=fun o a u v n=>
 if o=1 then xs.getD a.toNat 0
 else if o=2 then u+v
 else if o=3 then u-v
 else if o=4 then u*v
 else if o=6 then -u
 else if o=7 then u*u
 else if o=5 then u / v
 else if o=0 then vC n
 else 0
theorem op_cases{o:Int}(h0:0<=o)(h7:o<=7):o=0\/o=1\/o=2\/o=3\/o=4\/o=5\/o=6\/o=7:=by omega
theorem vV_fR(xs L:List Rat){x:jO}(h0:0<=x.op)(h7:x.op<=7):vV xs L x=nfV 0 (fR xs) L x:=by
 unfold vV nfV fR
 rcases op_cases h0 h7 with e | e | e | e | e | e | e | e<;>simp only[e]<;>rfl
theorem vU_fR(xs:List Rat)(t:List jO):∀ k,(∀ j,j<k->0<=(t.getD j tz).op/\(t.getD j tz).op<=7)->vU xs t k=cU 0 (fR xs) t k
 |0,_=>rfl
 |k+1,h=>by rw[vU,cU,vU_fR xs t k (fun j hj=>h j (by omega)),vV_fR _ _ (h k (Nat.lt_succ_self _)).1 (h k (Nat.lt_succ_self _)).2]
theorem fR_other{xs:List Rat}{o a:Int}{u v:Rat}{n:kT}(h:¬ (o=0\/o=1))(h2:¬ (o=6\/o=7))(h3:¬ (o=2\/o=3\/o=4\/o=5)):fR xs o a u v n=0:=by
 unfold fR
 rw[if_neg (by omega),if_neg (by omega),if_neg (by omega),if_neg (by omega),if_neg (by omega),if_neg (by omega),if_neg (by omega),if_neg (by omega)]
theorem fR_alg(xs:List Rat):Alg Rat 0 (fR xs):=by
 have z0:vC (jM 0)=0:=nI 0
 have z1:vC (jM 1)=1:=nI 1
 refine ⟨⟨fun o a u v u' v' n h=>?_,fun o a a' u v v' n h=>?_,fun o a a' u v n h=>?_,fun o a u v n n' h=>?_⟩,fun a a' p q h=>?_,fun x n=>?_,fun x n=>?_,fun x n=>?_,fun x n=>?_,fun x n=>?_,fun x n=>?_,fun x n=>?_,fun x n=>?_,fun x n=>?_⟩
 ·rcases xS o with ⟨e,g⟩ | ⟨e,g⟩ | ⟨e,g⟩ | ⟨e,g1,g2,g3⟩
  ·rcases g with rfl | rfl<;>rfl
  ·omega
  ·omega
  ·rw[fR_other g1 g2 g3,fR_other g1 g2 g3]
 ·rcases xS o with ⟨e,g⟩ | ⟨e,g⟩ | ⟨e,g⟩ | ⟨e,g1,g2,g3⟩
  ·omega
  ·rcases g with rfl | rfl<;>rfl
  ·omega
  ·omega
 ·rcases xS o with ⟨e,g⟩ | ⟨e,g⟩ | ⟨e,g⟩ | ⟨e,g1,g2,g3⟩
  ·omega
  ·omega
  ·rcases g with rfl | rfl | rfl | rfl<;>rfl
  ·omega
 ·rcases xS o with ⟨e,g⟩ | ⟨e,g⟩ | ⟨e,g⟩ | ⟨e,g1,g2,g3⟩
  ·rcases g with rfl | rfl
   ·exact absurd rfl h
   ·rfl
  ·rcases g with rfl | rfl<;>rfl
  ·rcases g with rfl | rfl | rfl | rfl<;>rfl
  ·rw[fR_other g1 g2 g3,fR_other g1 g2 g3]
 ·exact h
 ·show vC (jM 0)+x=x;rw[z0,Rat.zero_add]
 ·show x+vC (jM 0)=x;rw[z0,Rat.add_zero]
 ·show x-vC (jM 0)=x;rw[z0];grind
 ·show vC (jM 0)-x=-x;rw[z0];grind
 ·show vC (jM 0)*x=vC (jM 0);rw[z0,Rat.zero_mul]
 ·show x*vC (jM 0)=vC (jM 0);rw[z0,Rat.mul_zero]
 ·show vC (jM 1)*x=x;rw[z1,Rat.one_mul]
 ·show x*vC (jM 1)=x;rw[z1,Rat.mul_one]
 ·show vC (jM 0) / x=vC (jM 0);rw[z0,Rat.div_def,Rat.zero_mul]
theorem NPx.rn{n:Int}{m:Nat}{nm:List Int}{x:jO}(h:NPx n m x):NPx n m (rnN nm x):=by
 obtain ⟨e1,e2⟩:=rnN_op nm x
 rcases fC x.op with k | k | k
 ·rw[rnN_n (by omega)];exact h
 ·refine ⟨by rw[e1];exact h.o0,by rw[e1];exact h.o7,fun _=>?_,fun q=>?_,fun q=>?_,fun q=>?_⟩
  ·unfold rnN;rw[if_pos (by omega),if_neg (by omega)];exact h.b (by omega)
  ·rw[e1] at q;rw[q] at k;exact absurd k (by decide)
  ·rw[e1] at q;rw[e2];exact h.z q
  ·rw[e1] at q;rw[q] at k;exact absurd k (by decide)
 ·refine ⟨by rw[e1];exact h.o0,by rw[e1];exact h.o7,fun q=>?_,fun q=>?_,fun q=>?_,fun q=>?_⟩
  ·rw[e1] at q;omega
  ·rw[e1] at q;rw[q] at k;exact absurd k (by decide)
  ·rw[e1] at q;rw[e2];exact h.z q
  ·rw[e1] at q;rw[q] at k;exact absurd k (by decide)
theorem NPx.nd{n:Int}{m:Nat}{x:jO}{ss:List Int}(h:NPx n m x)(ho:eP x ss.length)(hs:gN ss x<=4096):ndC n ss x=0:=by
 unfold ndC
 have k0:=kd_nn h.o0 h.o7
 have b1:¬ cM x:=by
  unfold cM
  rintro (q | q | q | q)
  ·omega
  ·exact q.2 (h.b q.1)
  ·obtain ⟨q1,q2⟩:=q
   obtain ⟨c1,_,c3⟩:=h.c q1
   rcases q2 with q2 | q2
   ·exact q2 c1
   ·rw[c3] at q2;cases q2
  ·rw[h.z q.1] at q;exact absurd q.2 (by decide)
 have b2:¬ dJ ((ss.length:Nat):Int) x:=by
  unfold dJ
  rintro (q | q)
  ·have:=ho.1 q.1;omega
  ·have:=ho.2 q.1;omega
 have b3:¬ lN n x:=by
  unfold lN
  rintro ⟨q,q2⟩
  have:=h.v q;omega
 rw[if_neg b1,if_neg b2,if_neg b3,if_neg (by omega)]
theorem NPx.q{n:Int}{m:Nat}{x:jO}(h:NPx n m x)(hm:1<=m):yX x.n (vC x.n) m:=by
 by_cases e:x.op=0
 ·exact (h.c e).2.1
 ·rw[h.z e];exact iY hm (Nat.zero_le _) (Nat.zero_le _)
theorem vb_all{z:Int}{xs:List Rat}{t:List jO}(hu:dD z t t.length)(hq:∀ x∈t,yX x.n (vC x.n) 8)(hb:∀ q∈xs,QL q 24):∀ {k:Nat},k<=t.length->VBd (vZ t k) (vU xs t k)
 |0,_=>fun j hj=>by simp [vU] at hj
 |k+1,hk=>fun j hj=>by
  have ih:=vb_all hu hq hb (k:=k) (by omega)
  have l1:=qM t k
  have l2:=eU xs t k
  rw[eU] at hj
  have g1:(vZ t (k+1)).getD j 0=_:=dS
  have g2:(vU xs t (k+1)).getD j 0=_:=dS
  rcases Nat.lt_or_ge j k with hjk | hjk
  ·rw[if_pos (by omega)] at g1 g2
   rw[g1,g2];exact ih j (by omega)
  ·rw[if_neg (by omega),if_pos (by omega)] at g1 g2
   rw[g1,g2]
   exact vb_node (hu k (by omega)) (l1.trans l2.symm) (hq _ (cR (by omega))) hb ih
theorem bd_4096{s:Nat}(h:s<=4096):bV s<=1048576:=by unfold bV;omega
structure Drv (xs:List Rat) (i:Int) (t T:List jO):Prop where
 q:∀ x∈T,yX x.n (vC x.n) 8
 run:iB xs T
 val:xA xs T=(iZ 0 (fR xs) i t t.length).getD (t.length-1) 0
theorem drv_all(hT:TxI){xs:List Rat}{i:Int}{t:List jO}(hr:iB xs t)(hq:∀ x∈t,yX x.n (vC x.n) 8)(hx:∀ q∈xs,QL q 24)(hl:t.length<=99)(hs:∀ k,k<t.length->gN (vZ t k) (t.getD k tz)<=45) :
  DRC i t=0/\Drv xs i t (DRT i t):=by
 have h0:=hr.c0
 have hqJ:∀ x∈t,yX x.n (vC x.n) 1048576:=fun x hx=>jW (hq x hx) (by decide)
 obtain ⟨d1,d2⟩:=drc_0 hT (i:=i) h0 hqJ hl hs
 refine ⟨d1,?_⟩
 rw[d2]
 have t0:=mQ h0
 have fu:=dU_fit hT (i:=i) h0 hqJ hl hs t.length (Nat.le_refl _)
 have sm:=dU_sem (fR_alg xs) hT (i:=i) h0 hqJ t.length (Nat.le_refl _) fu.ov
 have iv:=dInv (i:=i) h0 hqJ t.length (Nat.le_refl _)
 have hop:∀ j,j<t.length->0<=(t.getD j tz).op/\(t.getD j tz).op<=7:=fun j hj=>(nd_k h0 hqJ hj).2.2
 have gd:=dU_gd (R:=fun v:Rat=>v≠0) (m:=8) (fR_alg xs) hT (i:=i) h0 hqJ (by decide) (fun x hx _=>(hq x hx).ql) (fun k hk ho=>by
  have:=hr.up.dz k hk ho
  rwa [vU_fR xs t k (fun j hj=>hop j (by omega))] at this) t.length (Nat.le_refl _) fu.ov
 have qK:0<t.length:=by omega
 have ixm:gX (dU i t t.length).1 (gI (dU i t t.length).2.2 ((t.length:Int)-1)):=iv.hS _ (by omega)
 have val:=sm.s (t.length-1) (by omega)
 have e1:gI (dU i t t.length).2.2 ((t.length:Int)-1)=(dU i t t.length).2.2.getD (t.length-1) 0:=by
  unfold gI;rw[show ((t.length:Int)-1).toNat=t.length-1 by omega]
 unfold drvT
 dsimp only
 rw[e1] at ixm ⊢
 have hm:=qO ixm
 have ho:OrdT (dU i t t.length).1.tm:=fu.sb.hB.ho
 have hl4:=fu.sb.hB.hl
 have hus:=fu.sb.hB.hu
 have hsz:=fu.sb.hB.hs
 have usS:=us_fS fu.sb
 generalize ((dU i t t.length).2.2.getD (t.length-1) 0).toNat=m at hm val ⊢
 generalize hB:(dU i t t.length).1=B at *
 obtain ⟨l1,l2⟩:=trim_last (d:=(0:Rat)) (fR_alg xs).ok ho hm
 have tl:=trim_le B.tm m
 have np:∀ q,q<(yA B.tm m).length->NPx ((xs.length:Nat):Int) 8 ((yA B.tm m).getD q tz):=fun q hq=>by
  obtain ⟨nm,j,j1,j2,_⟩:=trim_nd2 ho hm hq
  rw[j2];exact (gd j j1).1.rn
 have kd:∀ q,q<(yA B.tm m).length->0<=kZ ((yA B.tm m).getD q tz).op:=fun q hq=>kd_nn (np q hq).o0 (np q hq).o7
 have hu:dD ((xs.length:Nat):Int) (yA B.tm m) (yA B.tm m).length:=fun q hq=>by
  obtain ⟨nm,j,j1,j2,j3,j4⟩:=trim_nd2 ho hm hq
  refine (np q hq).nd (by rw[qM];exact j3) ?_
  rw[szU_fS q (fun j hj=>kd j (by omega)),szN_fS (kd q hq)]
  have e:eV 0 fS (yA B.tm m) q=_:=nfU_at _ _ q hq
  rw[<- e,(j4 Int 0 fS fS_ok).1,<- usS (j+1) j (Nat.lt_succ_self _) j1]
  exact (hsz j (by omega)).2
 have hq8:∀ x∈yA B.tm m,yX x.n (vC x.n) 8:=fun x hx=>by
  obtain ⟨q,hq,rfl⟩:=List.getElem_of_mem hx
  have:=(np q hq).q (by decide)
  rwa [List.getD_eq_getElem?_getD,List.getElem?_eq_getElem hq] at this
 have vb:=fun k hk=>vb_all hu hq8 hx (k:=k) hk
 have vu:∀ k,k<=(yA B.tm m).length->vU xs (yA B.tm m) k=cU 0 (fR xs) (yA B.tm m) k:=fun k hk=>vU_fR xs _ k fun j hj=>⟨(np j (by omega)).o0,(np j (by omega)).o7⟩
 refine ⟨hq8,⟨(tm_yes (by omega) (by omega) (by omega) hu).1,⟨fun k hk=>?_,fun k hk h5=>?_⟩⟩,?_⟩
 ·obtain ⟨s,s1,s2,s3⟩:=vb_node (hu k hk) ((qM _ k).trans (eU xs _ k).symm) (hq8 _ (cR hk)) hx (vb k (by omega))
  obtain ⟨_,_,_,s4⟩:=nd_0 (hu k hk)
  exact uE s3 (bd_4096 (by omega))
 ·obtain ⟨nm,j,j1,j2,j3,j4⟩:=trim_nd2 ho hm hk
  have o5:(B.tm.getD j tz).op=5:=by rw[j2,(rnN_op _ _).1] at h5;exact h5
  have kb:=j3.2 (by rw[h5];decide)
  have eb:((yA B.tm m).getD k tz).b=nm.getD (B.tm.getD j tz).b.toNat 0:=by rw[j2];exact rnN_b (by rw[o5];decide)
  rw[vu k (by omega),eV_at (by omega) (by omega),eb,(j4 Rat 0 (fR xs) (fR_alg xs).ok).2 (by rw[o5];decide)]
  exact (gd j j1).2 o5
 ·unfold xA
  rw[vu _ (Nat.le_refl _)]
  exact l2.trans val
end Go.Fid
