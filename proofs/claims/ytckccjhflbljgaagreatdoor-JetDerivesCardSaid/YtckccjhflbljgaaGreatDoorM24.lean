/- Part 24 of a proof: rules, plain facts, and functions walked. -/
import Derived.Test.YtckccjhflbljgaaGreatDoorM23
set_option linter.all false
namespace Go.Fid
open List
def KdN(t:List jS)(nd:List Bool)(j:Nat):Prop:=(0<qB (t.getD j tz).op->nd.getD (t.getD j tz).a.toNat false=true)/\(1<qB (t.getD j tz).op->nd.getD (t.getD j tz).b.toNat false=true)
theorem getD_setT{l:List Bool}{i j:Nat}(h:l.getD j false=true):(l.set i true).getD j false=true:=by
 rw[getD_eq_getElem?_getD,getElem?_set]
 split
 ·split
  ·rfl
  ·rename_i e hl;subst e;rw[getD_eq_getElem?_getD,getElem?_eq_none (by omega)] at h;cases h
 ·rw[<- getD_eq_getElem?_getD];exact h
theorem getD_setS{l:List Bool}{i:Nat}(h:i<l.length):(l.set i true).getD i false=true:=by
 rw[getD_eq_getElem?_getD,getElem?_set,if_pos rfl,if_pos h];rfl
theorem getD_setN{l:List Bool}{i j:Nat}(h:i≠j):(l.set i true).getD j false=l.getD j false:=by
 rw[getD_eq_getElem?_getD,getElem?_set,if_neg h,<- getD_eq_getElem?_getD]
theorem ndS_mono{t:List jS}{nd:List Bool}{i j:Nat}(h:nd.getD j false=true):(ndS t nd i).getD j false=true:=by
 unfold ndS;split
 ·exact h
 ·split
  ·split
   ·exact getD_setT (getD_setT h)
   ·exact getD_setT h
  ·exact h
theorem ndS_hi{t:List jS}{nd:List Bool}{i j:Nat}(ho:eP (t.getD i tz) i)(hj:i<=j):(ndS t nd i).getD j false=nd.getD j false:=by
 unfold ndS;split
 ·rfl
 ·split
  ·rename_i h1
   have:=ho.1 h1
   split
   ·rename_i h2
    have:=ho.2 h2
    rw[getD_setN (by omega),getD_setN (by omega)]
   ·rw[getD_setN (by omega)]
  ·rfl
theorem ndS_kd{t:List jS}{nd:List Bool}{i:Nat}(ho:eP (t.getD i tz) i)(hl:nd.length=t.length)(hi:i<t.length)(h:nd.getD i false=true):KdN t (ndS t nd i) i:=by
 have h9:¬ nd.getD i false=false:=by rw[h];decide
 refine ⟨λh1=>?_,λh2=>?_⟩
 ·have:=ho.1 h1
  unfold ndS;rw[if_neg h9,if_pos h1]
  split
  ·exact getD_setT (getD_setS (by omega))
  ·exact getD_setS (by omega)
 ·have:=ho.2 h2
  unfold ndS;rw[if_neg h9,if_pos (by omega),if_pos h2]
  exact getD_setS (by rw[length_set];omega)
theorem KdN.mono{t:List jS}{nd nd':List Bool}{j:Nat}(h:KdN t nd j)(hm:∀ i,nd.getD i false=true->nd'.getD i false=true):KdN t nd' j:=⟨λk=>hm _ (h.1 k),λk=>hm _ (h.2 k)⟩
theorem ndL_mono{t:List jS}:∀ (i:Nat) (nd:List Bool) (j:Nat),nd.getD j false=true->(ndL t nd i).getD j false=true
 |0,_,_,h=>h
 |i+1,nd,j,h=>by rw[ndL];exact ndL_mono i _ j (ndS_mono h)
theorem ndL_kd{t:List jS}(ho:OrdT t):∀ (i:Nat) (nd:List Bool),i<=t.length->nd.length=t.length->(∀ j,i<=j->j<t.length->nd.getD j false=true->KdN t nd j)->∀ j,j<t.length->(ndL t nd i).getD j false=true->KdN t (ndL t nd i) j
 |0,nd,_,_,h,j,hj,hn=>h j (Nat.zero_le _) hj hn
 |i+1,nd,hi,hl,h,j,hj,hn=>by
  rw[ndL] at hn ⊢
  refine ndL_kd ho i _ (by omega) ((ndS_len t nd i).trans hl) (λj' hj1 hj2 hn'=>?_) j hj hn
  rw[ndS_hi (ho i (by omega)) hj1] at hn'
  rcases Nat.lt_or_ge i j' with h1 | h1
  ·exact (h j' (by omega) hj2 hn').mono λq hq=>ndS_mono hq
  ·obtain rfl:j'=i:=by omega
   exact ndS_kd (ho _ hj2) hl hj2 hn'
theorem getD_rep(n j:Nat):(replicate n false).getD j false=false:=by
 rw[getD_eq_getElem?_getD,getElem?_replicate];split<;>rfl
theorem ndA_at{t:List jS}{m:Nat}(hm:m<t.length):(ndA t m).getD m false=true:=ndL_mono _ _ _ (getD_setS (by rw[length_replicate];exact hm))
theorem ndA_kd{t:List jS}(ho:OrdT t){m:Nat}(hm:m<t.length){j:Nat}(hj:j<t.length)(h:(ndA t m).getD j false=true):KdN t (ndA t m) j :=
 ndL_kd ho (m+1) _ (by omega) (by rw[length_set,length_replicate]) (λj' h1 h2 hn=>by rw[getD_setN (by omega),getD_rep] at hn;cases hn) j hj h
structure TI (t:List jS) (nd:List Bool) (nm:List Int) (out:List jS) (k:Nat):Prop where
 l:nm.length=t.length
 lo:∀ j,j<k->nd.getD j false=true->0<=nm.getD j 0/\nm.getD j 0<(out.length:Int)
 st:∀ j,j<k->nd.getD j false=true->out.getD (nm.getD j 0).toNat tz=rnN nm (t.getD j tz)
 mo:∀ a b,a<b->b<k->nd.getD a false=true->nd.getD b false=true->nm.getD a 0<nm.getD b 0
 on:∀ q,q<out.length->∃ j,j<k/\nd.getD j false=true/\nm.getD j 0=(q:Int)
theorem dZ{l:List Int}{i j:Nat}{v:Int}(h:i≠j):(l.set i v).getD j 0=l.getD j 0:=by
 rw[getD_eq_getElem?_getD,getElem?_set,if_neg h,<- getD_eq_getElem?_getD]
theorem getD_setJ{l:List Int}{i:Nat}{v:Int}(h:i<l.length):(l.set i v).getD i 0=v:=by
 rw[getD_eq_getElem?_getD,getElem?_set,if_pos rfl,if_pos h];rfl
theorem rnN_set{nm:List Int}{k j:Nat}{v:Int}{x:jS}(ho:eP x j)(hj:j<=k):rnN (nm.set k v) x=rnN nm x:=by
 unfold rnN
 split
 ·rename_i h1
  have:=ho.1 h1
  rw[dZ (by omega)]
  split
  ·rename_i h2
   have:=ho.2 h2
   rw[dZ (by omega)]
  ·rfl
 ·rfl
theorem tmF_ti{t:List jS}{nd:List Bool}(ho:OrdT t):∀ k,k<=t.length->TI t nd (tmF t nd k).1 (tmF t nd k).2 k
 |0,_=>⟨length_replicate,λj h=>absurd h (Nat.not_lt_zero j),λj h=>absurd h (Nat.not_lt_zero j),λa b _ h=>absurd h (Nat.not_lt_zero b),λq h=>absurd h (Nat.not_lt_zero q)⟩
 |k+1,hk=>by
  have ih:=tmF_ti ho (nd:=nd) k (by omega)
  rw[tmF]
  unfold tmS
  by_cases hn:nd.getD k false=false
  ·rw[if_pos hn]
   have lt:∀ j,j<k+1->nd.getD j false=true->j<k:=λj hj h=>by
    rcases Nat.lt_or_ge j k with h1 | h1
    ·exact h1
    ·obtain rfl:j=k:=by omega
     rw[hn] at h;cases h
   exact ⟨ih.l,λj hj h=>ih.lo j (lt j hj h) h,λj hj h=>ih.st j (lt j hj h) h,λa b hab hb h1 h2=>ih.mo a b hab (lt b hb h2) h1 h2,λq hq=>by
    obtain ⟨j,h1,h2⟩:=ih.on q hq;exact ⟨j,by omega,h2⟩⟩
  ·rw[if_neg hn]
   dsimp only
   generalize (tmF t nd k).1=nm at ih
   generalize (tmF t nd k).2=out at ih
   have hl:=ih.l
   have hkn:(nm.set k (out.length:Int)).getD k 0=(out.length:Int):=getD_setJ (by omega)
   refine ⟨by rw[length_set];exact hl,λj hj h=>?_,λj hj h=>?_,λa b hab hb h1 h2=>?_,λq hq=>?_⟩
   ·rw[length_append,length_singleton]
    rcases Nat.lt_or_ge j k with h1 | h1
    ·rw[dZ (by omega)];have:=ih.lo j h1 h;omega
    ·obtain rfl:j=k:=by omega
     rw[hkn];omega
   ·rcases Nat.lt_or_ge j k with h1 | h1
    ·have:=ih.lo j h1 h
     rw[dZ (by omega),nZ (by omega),ih.st j h1 h,rnN_set (ho j (by omega)) (by omega)]
    ·obtain rfl:j=k:=by omega
     rw[hkn,Int.toNat_natCast,qC,if_neg (Nat.lt_irrefl _),if_pos rfl,rnN_set (ho j (by omega)) (Nat.le_refl _)]
   ·rw[dZ (j:=a) (by omega)]
    rcases Nat.lt_or_ge b k with h3 | h3
    ·rw[dZ (by omega)];exact ih.mo a b hab h3 h1 h2
    ·obtain rfl:b=k:=by omega
     rw[hkn];exact (ih.lo a hab h1).2
   ·rw[length_append,length_singleton] at hq
    rcases Nat.lt_or_ge q out.length with h1 | h1
    ·obtain ⟨j,h2,h3,h4⟩:=ih.on q h1
     exact ⟨j,by omega,h3,by rw[dZ (by omega)];exact h4⟩
    ·obtain rfl:q=out.length:=by omega
     exact ⟨k,by omega,by cases h5:nd.getD k false with | false=>exact absurd h5 hn | true=>rfl,hkn⟩
section
variable {A:Type} {d:A} {f:Nf A}
theorem rnN_op(nm:List Int)(x:jS):(rnN nm x).op=x.op/\(rnN nm x).n=x.n:=by
 unfold rnN;split
 ·split<;>exact ⟨rfl,rfl⟩
 ·exact ⟨rfl,rfl⟩
theorem rnN_a{nm:List Int}{x:jS}(h:0<qB x.op):(rnN nm x).a=nm.getD x.a.toNat 0:=by
 unfold rnN;rw[if_pos h];split<;>rfl
theorem rnN_b{nm:List Int}{x:jS}(h:1<qB x.op):(rnN nm x).b=nm.getD x.b.toNat 0:=by
 unfold rnN;rw[if_pos (by omega),if_pos h]
theorem rnN_n{nm:List Int}{x:jS}(h:¬ 0<qB x.op):rnN nm x=x:=if_neg h
theorem TI.ord{t:List jS}{nd:List Bool}{nm:List Int}{out:List jS}{k:Nat}(h:TI t nd nm out k)(ho:OrdT t)(hc:∀ j,j<t.length->nd.getD j false=true->KdN t nd j)(hk:k<=t.length){j:Nat}(hj:j<k)(hn:nd.getD j false=true):eP (out.getD (nm.getD j 0).toNat tz) (nm.getD j 0).toNat:=by
 rw[h.st j hj hn]
 have hoj:=ho j (by omega)
 have hkj:=hc j (by omega) hn
 have hlo:=h.lo j hj hn
 refine ⟨λh1=>?_,λh2=>?_⟩
 ·rw[(rnN_op _ _).1] at h1
  have q1:=hoj.1 h1
  rw[rnN_a h1]
  have q2:=h.lo _ (show (t.getD j tz).a.toNat<k by omega) (hkj.1 h1)
  have q3:=h.mo _ j (show (t.getD j tz).a.toNat<j by omega) hj (hkj.1 h1) hn
  omega
 ·rw[(rnN_op _ _).1] at h2
  have q1:=hoj.2 h2
  rw[rnN_b h2]
  have q2:=h.lo _ (show (t.getD j tz).b.toNat<k by omega) (hkj.2 h2)
  have q3:=h.mo _ j (show (t.getD j tz).b.toNat<j by omega) hj (hkj.2 h2) hn
  omega
theorem TI.ev(hf:NfOk f){t:List jS}{nd:List Bool}{nm:List Int}{out:List jS}{k:Nat}(h:TI t nd nm out k)(ho:OrdT t)(hc:∀ j,j<t.length->nd.getD j false=true->KdN t nd j)(hk:k<=t.length):∀ (N j:Nat),j<N->j<k->nd.getD j false=true->eV d f out (nm.getD j 0).toNat=eV d f t j
 |0,j,hN,_,_=>absurd hN (Nat.not_lt_zero j)
 |N+1,j,hN,hj,hn=>by
  have hlo:=h.lo j hj hn
  have hoj:=ho j (by omega)
  have hkj:=hc j (by omega) hn
  rw[eV_node hf (by omega) (h.ord ho hc hk hj hn),eV_node hf (t:=t) (by omega) hoj,h.st j hj hn,(rnN_op _ _).1,(rnN_op _ _).2]
  rcases kdN_rng (t.getD j tz).op with e | e | e
  ·rw[rnN_n (by omega)];exact hf.k0 _ _ _ _ _ _ _ e
  ·have q1:=hoj.1 (by omega)
   rw[rnN_a (by omega),h.ev hf ho hc hk N _ (by omega) (by omega) (hkj.1 (by omega))]
   exact hf.k1 _ _ _ _ _ _ _ e
  ·have q1:=hoj.1 (by omega)
   have q2:=hoj.2 (by omega)
   rw[rnN_a (by omega),rnN_b (by omega),h.ev hf ho hc hk N _ (by omega) (by omega) (hkj.1 (by omega)),h.ev hf ho hc hk N _ (by omega) (by omega) (hkj.2 (by omega))]
   exact hf.k2 _ _ _ _ _ _ e
theorem trim_last(hf:NfOk f){t:List jS}(ho:OrdT t){m:Nat}(hm:m<t.length):0<(yY t m).length/\eV d f (yY t m) ((yY t m).length-1)=eV d f t m:=by
 have h:=tmF_ti ho (nd:=ndA t m) (m+1) (by omega)
 have hc:=λj hj hn=>ndA_kd ho hm (j:=j) hj hn
 have h1:=h.lo m (by omega) (ndA_at hm)
 have hl:0<(yY t m).length:=by
  have:(tmF t (ndA t m) (m+1)).2=yY t m:=rfl
  rw[this] at h1;omega
 refine ⟨hl,?_⟩
 have v:=h.ev (d:=d) hf ho hc (by omega) (m+1) m (Nat.lt_succ_self _) (by omega) (ndA_at hm)
 have e:((tmF t (ndA t m) (m+1)).1.getD m 0).toNat=(yY t m).length-1:=by
  obtain ⟨j,g1,g2,g3⟩:=h.on ((yY t m).length-1) (by show _<(yY t m).length;omega)
  rcases Nat.lt_or_ge j m with g4 | g4
  ·have g5:=h.mo j m g4 (by omega) g2 (ndA_at hm)
   have:(tmF t (ndA t m) (m+1)).2=yY t m:=rfl
   rw[this] at h1;omega
  ·obtain rfl:j=m:=by omega
   rw[g3,Int.toNat_natCast]
 rw[e] at v
 exact v
theorem trim_nd2{t:List jS}(ho:OrdT t){m:Nat}(hm:m<t.length){q:Nat}(hq:q<(yY t m).length):∃ nm:List Int,∃ j,j<t.length/\(yY t m).getD q tz=rnN nm (t.getD j tz)/\eP ((yY t m).getD q tz) q/\∀ (A:Type) (d:A) (f:Nf A),NfOk f->eV d f (yY t m) q=eV d f t j /\
  (1<qB (t.getD j tz).op->eV d f (yY t m) (nm.getD (t.getD j tz).b.toNat 0).toNat=eV d f t (t.getD j tz).b.toNat):=by
 have h:=tmF_ti ho (nd:=ndA t m) (m+1) (by omega)
 have hc:=λj hj hn=>ndA_kd ho hm (j:=j) hj hn
 obtain ⟨j,h1,h2,h3⟩:=h.on q hq
 have e:((tmF t (ndA t m) (m+1)).1.getD j 0).toNat=q:=by rw[h3,Int.toNat_natCast]
 have s:=h.st j h1 h2
 have o:=h.ord ho hc (by omega) h1 h2
 have hk:=hc j (by omega) h2
 have hoj:=ho j (by omega)
 rw[e] at s o
 refine ⟨_,j,by omega,s,o,λA d f hf=>⟨?_,λk2=>?_⟩⟩
 ·have v:=h.ev (d:=d) hf ho hc (by omega) (j+1) j (Nat.lt_succ_self _) h1 h2
  rw[e] at v;exact v
 ·have:=hoj.2 k2
  exact h.ev (d:=d) hf ho hc (by omega) _ _ (Nat.lt_succ_self _) (by omega) (hk.2 k2)
theorem trim_le(t:List jS)(m:Nat):(yY t m).length<=m+1:=(tmF_len t (ndA t m) (m+1)).2
end
def uz(B:uT)(i:Int):Int:=B.us.getD i.toNat 0
structure Ft (B B':uT) (r:Int) (c:Nat) (s:Int):Prop where
 ov:B'.ov=false
 ln:B'.tm.length<=B.tm.length+c
 sb:SB B'
 ext:Ext B B'
 ix:gV B' r
 sz:uz B' r<=s
theorem uz_1{B:uT}(hS:SB B){i:Int}(h:gV B i):1<=uz B i/\uz B i<=4096:=hS.hB.hs _ (by have:=hS.hB.hu;have:=qO h;omega)
theorem Ext.uz{B B':uT}(hS:SB B)(h:Ext B B'){i:Int}(hi:gV B i):uz B' i=uz B i:=h.usz (by have:=hS.hB.hu;have:=qO hi;omega)
theorem Ft.self{B:uT}(hS:SB B)(hov:B.ov=false){i:Int}(hi:gV B i){s:Int}(hs:uz B i<=s):Ft B B i 0 s:=⟨hov,Nat.le_refl _,hS,.refl B,hi,hs⟩
theorem Ft.le{B B':uT}{r:Int}{c c':Nat}{s s':Int}(h:Ft B B' r c s)(hc:c<=c')(hs:s<=s'):Ft B B' r c' s':=⟨h.ov,by have:=h.ln;omega,h.sb,h.ext,h.ix,by have:=h.sz;omega⟩
theorem Got.uz{B B':uT}{r:Int}{x:jS}(g:Got B B' r x):uz B' r=mP B'.us x:=by
 have:=g.sb.us r.toNat (qO g.ix)
 rw[g.nd] at this;exact this
theorem yM{B:uT}{o i k:Int}(hS:SB B)(h:NdAr B o i k)(hov:B.ov=false)(hl:B.tm.length<400)(hs:bSz B o i k<=4096):Ft B (jK B o i k).1 (jK B o i k).2 1 (bSz B o i k)/\uz (jK B o i k).1 (jK B o i k).2=bSz B o i k:=by
 have key:(jK B o i k).1.ov=false/\(jK B o i k).1.tm.length<=B.tm.length+1:=by
  cases hg:((xR B.kn (o,i,k)).isSome||B.ov) with
  |true=>rw[oA hg];exact ⟨hov,Nat.le_succ _⟩
  |false=>
   rw[bNode_f hg rfl]
   have e:=bAdd_f (B:=B) (x:=⟨o,i,k,zr⟩) (z:=bSz B o i k) (by rw[Bool.or_eq_false_iff,decide_eq_false_iff_not,decide_eq_false_iff_not];omega)
   rw[e]
   exact ⟨hov,by show (B.tm++[_]).length<=_;rw[length_append];exact Nat.le_refl _⟩
 obtain ⟨_,g⟩:=bM hS h key.1
 obtain ⟨r1,r7⟩:=h.rng
 have e:uz (jK B o i k).1 (jK B o i k).2=bSz B o i k:=by
  rw[g.uz,bSz_szN r1 r7]
  obtain ⟨l,m,e1,e2⟩:=g.ext
  rw[e2]
  exact szN_app (kd_nn (o:=o) (by omega) r7) h.ord (by have:=hS.hB.hu;omega)
 exact ⟨⟨key.1,key.2,g.sb,g.ext,g.ix,by rw[e];exact Int.le_refl _⟩,e⟩
theorem bNum_fit(hT:TxI){B:uT}{q:Rat}(hS:SB B)(hq:QL q 1048576)(hov:B.ov=false)(hl:B.tm.length<400):Ft B (vW B q).1 (vW B q).2 1 1/\uz (vW B q).1 (vW B q).2=1:=by
 have key:(vW B q).1.ov=false/\(vW B q).1.tm.length<=B.tm.length+1:=by
  cases hg:(xR B.os (txQ q)).isSome with
  |true=>rw[bNum_t hg];exact ⟨hov,Nat.le_succ _⟩
  |false=>
   rw[bNum_f hg]
   have e:=bAdd_f (B:=B) (x:=⟨0,0,0,jM q⟩) (z:=1) (by rw[Bool.or_eq_false_iff,decide_eq_false_iff_not,decide_eq_false_iff_not];omega)
   rw[e]
   exact ⟨hov,by show (B.tm++[_]).length<=_;rw[length_append];exact Nat.le_refl _⟩
 obtain ⟨_,g⟩:=iG hT hS hq key.1
 have e:uz (vW B q).1 (vW B q).2=1:=by rw[g.uz];rfl
 exact ⟨⟨key.1,key.2,g.sb,g.ext,g.ix,by rw[e];exact Int.le_refl _⟩,e⟩
theorem bSz2{B:uT}{o i k:Int}(h:qB o=2)(h6:o≠6)(h7:o≠7):bSz B o i k=uz B i+uz B k:=by unfold bSz;rw[if_neg h6,if_neg h7,if_pos h];rfl
theorem bSum_fit{B:uT}{i k:Int}(hS:SB B)(hi:gV B i)(hk:gV B k)(hov:B.ov=false)(hl:B.tm.length<400)(hs:uz B i+uz B k<=4096):Ft B (gD B i k).1 (gD B i k).2 1 (uz B i+uz B k):=by
 have a:=uz_1 hS hi;have b:=uz_1 hS hk
 unfold gD
 split
 ·exact (Ft.self hS hov hk (Int.le_refl _)).le (by decide) (by omega)
 ·split
  ·exact (Ft.self hS hov hi (Int.le_refl _)).le (by decide) (by omega)
  ·have e:=bSz2 (B:=B) (o:=2) (i:=i) (k:=k) (by decide) (by decide) (by decide)
   have h:=(yM (o:=2) hS (.inr ⟨by decide,by decide,hi,hk⟩) hov hl (by omega)).1
   exact h.le (Nat.le_refl _) (by omega)
theorem bDif_fit{B:uT}{i k:Int}(hS:SB B)(hi:gV B i)(hk:gV B k)(hov:B.ov=false)(hl:B.tm.length<400)(hs:uz B i+uz B k<=4096):Ft B (qV B i k).1 (qV B i k).2 1 (uz B i+uz B k):=by
 have a:=uz_1 hS hi;have b:=uz_1 hS hk
 unfold qV
 split
 ·exact (Ft.self hS hov hi (Int.le_refl _)).le (by decide) (by omega)
 ·split
  ·have e:bSz B 6 k 0=uz B k:=rfl
   have h:=(yM (o:=6) hS (.inr ⟨by decide,by decide,hk,hk.pos⟩) hov hl (by omega)).1
   exact h.le (Nat.le_refl _) (by omega)
  ·have e:=bSz2 (B:=B) (o:=3) (i:=i) (k:=k) (by decide) (by decide) (by decide)
   have h:=(yM (o:=3) hS (.inr ⟨by decide,by decide,hi,hk⟩) hov hl (by omega)).1
   exact h.le (Nat.le_refl _) (by omega)
theorem bPrd_fit{B:uT}{i k:Int}(hS:SB B)(hi:gV B i)(hk:gV B k)(hov:B.ov=false)(hl:B.tm.length<400)(hs:uz B i+uz B k<=4096):Ft B (kA B i k).1 (kA B i k).2 1 (uz B i+uz B k):=by
 have a:=uz_1 hS hi;have b:=uz_1 hS hk
 unfold kA
 split
 ·exact (Ft.self hS hov hi (Int.le_refl _)).le (by decide) (by omega)
 ·split
  ·exact (Ft.self hS hov hk (Int.le_refl _)).le (by decide) (by omega)
  ·have e:=bSz2 (B:=B) (o:=4) (i:=i) (k:=k) (by decide) (by decide) (by decide)
   have h:=(yM (o:=4) hS (.inr ⟨by decide,by decide,hi,hk⟩) hov hl (by omega)).1
   exact h.le (Nat.le_refl _) (by omega)
theorem Ext.bIs{B B':uT}(h:Ext B B'){i n:Int}(hi:gV B i)(hb:bIs B i n=true):bIs B' i n=true:=by
 unfold Go.Fid.bIs at hb ⊢
 rw[h.nd (qO hi)]
 rw[Bool.and_eq_true,Bool.and_eq_true,decide_eq_true_eq] at hb ⊢
 exact ⟨⟨by have:=h.len;omega,hb.1.2⟩,hb.2⟩
def szF(o a b:Int):Int:=if qB o=0 then 1 else if o=6 then a else if o=7 then 2*a else a+b
theorem nl2{a b:Int}(h1:1<=a)(h2:1<=b):a<=a*b/\b<=a*b/\(a+b)*(a+b)=a*a+2*(a*b)+b*b/\a<=a*a/\b<=b*b:=by
 refine ⟨?_,?_,?_,?_,?_⟩
 ·have:=Int.mul_le_mul_of_nonneg_left h2 (show 0<=a by omega);rwa [Int.mul_one] at this
 ·have:=Int.mul_le_mul_of_nonneg_right h1 (show 0<=b by omega);rwa [Int.one_mul] at this
 ·rw[Int.add_mul,Int.mul_add,Int.mul_add,Int.mul_comm b a];omega
 ·have:=Int.mul_le_mul_of_nonneg_left h1 (show 0<=a by omega);rwa [Int.mul_one] at this
 ·have:=Int.mul_le_mul_of_nonneg_left h2 (show 0<=b by omega);rwa [Int.mul_one] at this
structure Ft2 (B:uT) (r:uT × Int × Int) (c:Nat) (s D:Int):Prop where
 ov:r.1.ov=false
 ln:r.1.tm.length<=B.tm.length+c
 sb:SB r.1
 ext:Ext B r.1
 v:uz r.1 r.2.1=s
 s:uz r.1 r.2.2<=D
theorem dNd_fit(hT:TxI){i z o:Int}{k:Nat}{B:uT}{V S:List Int}{x:jS}(hS:SB B)(h:DPre k z o B V S x)(hov:B.ov=false)(hl:B.tm.length+4<=400)(hz:uz B z=1)(ho:uz B o=1)(hzb:bIs B z 0=true)
  (hs:2*(szF x.op (uz B (gI V x.a)) (uz B (gI V x.b))*szF x.op (uz B (gI V x.a)) (uz B (gI V x.b)))<=4096)
  (ha:0<qB x.op->uz B (gI S x.a)<=2*(uz B (gI V x.a)*uz B (gI V x.a))) (hb:1<qB x.op->uz B (gI S x.b)<=2*(uz B (gI V x.b)*uz B (gI V x.b))) :
  Ft2 B (aY i z o B V S x) 4 (szF x.op (uz B (gI V x.a)) (uz B (gI V x.b))) (2*(szF x.op (uz B (gI V x.a)) (uz B (gI V x.b))*szF x.op (uz B (gI V x.a)) (uz B (gI V x.b)))):=by
 have h0:=h.op0;have h7:=h.op7
 have hc:x.op=0\/x.op=1\/x.op=2\/x.op=3\/x.op=4\/x.op=5\/x.op=6\/x.op=7:=by omega
 have k1:x.op=2\/x.op=3\/x.op=4\/x.op=5\/x.op=6\/x.op=7->0<qB x.op:=λe=>by rcases e with e | e | e | e | e | e<;>rw[e]<;>decide
 have k2:x.op=2\/x.op=3\/x.op=4\/x.op=5->1<qB x.op:=λe=>by rcases e with e | e | e | e<;>rw[e]<;>decide
 rcases hc with e | e | e | e | e | e | e | e
 ·have es:szF x.op (uz B (gI V x.a)) (uz B (gI V x.b))=1:=by rw[e];rfl
  rw[es,dNd_0 e]
  obtain ⟨f,f2⟩:=bNum_fit hT hS (h.num e) hov (by omega)
  exact ⟨f.ov,by have:=f.ln;dsimp only;omega,f.sb,f.ext,f2,by dsimp only;rw[f.ext.uz hS h.hz,hz];decide⟩
 ·have es:szF x.op (uz B (gI V x.a)) (uz B (gI V x.b))=1:=by rw[e];rfl
  rw[es,dNd_1 e]
  obtain ⟨f,f2⟩:=yM (o:=1) (i:=x.a) (k:=0) hS (.inl ⟨rfl,rfl,by have:=qO h.hz;omega⟩) hov (by omega) (by show (1:Int)<=4096;decide)
  refine ⟨f.ov,by have:=f.ln;dsimp only;omega,f.sb,f.ext,f2,?_⟩
  dsimp only
  split
  ·rw[f.ext.uz hS h.ho,ho];decide
  ·rw[f.ext.uz hS h.hz,hz];decide
 ·have q1:=k1 (.inl e);have q2:=k2 (.inl e)
  have va:=h.va q1;have vb:=h.vb q2;have sa:=h.sa q1;have sb:=h.sb q2
  have da:=ha q1;have db:=hb q2
  have ua:=uz_1 hS va;have ub:=uz_1 hS vb
  have es:szF x.op (uz B (gI V x.a)) (uz B (gI V x.b))=uz B (gI V x.a)+uz B (gI V x.b):=by rw[e];rfl
  rw[es] at hs ⊢
  obtain ⟨n1,n2,n3,n4,n5⟩:=nl2 ua.1 ub.1
  have eb:=bSz2 (B:=B) (o:=2) (i:=gI V x.a) (k:=gI V x.b) (by decide) (by decide) (by decide)
  rw[dNd_2 e]
  obtain ⟨f,f2⟩:=yM (o:=2) hS (.inr ⟨by decide,by decide,va,vb⟩) hov (by omega) (by omega)
  have l1:=f.ln
  have w:=bSum_fit f.sb (f.ext.ix sa) (f.ext.ix sb) f.ov (by omega) (by rw[f.ext.uz hS sa,f.ext.uz hS sb];omega)
  have l2:=w.ln;have s2:=w.sz
  rw[f.ext.uz hS sa,f.ext.uz hS sb] at s2
  exact ⟨w.ov,by dsimp only;omega,w.sb,f.ext.trans w.ext,by dsimp only;rw[w.ext.uz f.sb f.ix,f2,eb],by dsimp only;omega⟩
 ·have q1:=k1 (.inr (.inl e));have q2:=k2 (.inr (.inl e))
  have va:=h.va q1;have vb:=h.vb q2;have sa:=h.sa q1;have sb:=h.sb q2
  have da:=ha q1;have db:=hb q2
  have ua:=uz_1 hS va;have ub:=uz_1 hS vb
  have es:szF x.op (uz B (gI V x.a)) (uz B (gI V x.b))=uz B (gI V x.a)+uz B (gI V x.b):=by rw[e];rfl
  rw[es] at hs ⊢
  obtain ⟨n1,n2,n3,n4,n5⟩:=nl2 ua.1 ub.1
  have eb:=bSz2 (B:=B) (o:=3) (i:=gI V x.a) (k:=gI V x.b) (by decide) (by decide) (by decide)
  rw[dNd_3 e]
  obtain ⟨f,f2⟩:=yM (o:=3) hS (.inr ⟨by decide,by decide,va,vb⟩) hov (by omega) (by omega)
  have l1:=f.ln
  have w:=bDif_fit f.sb (f.ext.ix sa) (f.ext.ix sb) f.ov (by omega) (by rw[f.ext.uz hS sa,f.ext.uz hS sb];omega)
  have l2:=w.ln;have s2:=w.sz
  rw[f.ext.uz hS sa,f.ext.uz hS sb] at s2
  exact ⟨w.ov,by dsimp only;omega,w.sb,f.ext.trans w.ext,by dsimp only;rw[w.ext.uz f.sb f.ix,f2,eb],by dsimp only;omega⟩
 ·have q1:=k1 (.inr (.inr (.inl e)));have q2:=k2 (.inr (.inr (.inl e)))
  have va:=h.va q1;have vb:=h.vb q2;have sa:=h.sa q1;have sb:=h.sb q2
  have da:=ha q1;have db:=hb q2
  have ua:=uz_1 hS va;have ub:=uz_1 hS vb
  have es:szF x.op (uz B (gI V x.a)) (uz B (gI V x.b))=uz B (gI V x.a)+uz B (gI V x.b):=by rw[e];rfl
  rw[es] at hs ⊢
  obtain ⟨n1,n2,n3,n4,n5⟩:=nl2 ua.1 ub.1
  have eb:=bSz2 (B:=B) (o:=4) (i:=gI V x.a) (k:=gI V x.b) (by decide) (by decide) (by decide)
  rw[dNd_4 e]
  obtain ⟨f,f2⟩:=yM (o:=4) hS (.inr ⟨by decide,by decide,va,vb⟩) hov (by omega) (by omega)
  have l1:=f.ln
  have w:=bPrd_fit f.sb (f.ext.ix va) (f.ext.ix sb) f.ov (by omega) (by rw[f.ext.uz hS va,f.ext.uz hS sb];omega)
  have l2:=w.ln;have s2:=w.sz
  rw[f.ext.uz hS va,f.ext.uz hS sb] at s2
  have x2:=f.ext.trans w.ext
  have w3:=bPrd_fit w.sb (x2.ix vb) (x2.ix sa) w.ov (by omega) (by rw[x2.uz hS vb,x2.uz hS sa];omega)
  have l3:=w3.ln;have s3:=w3.sz
  rw[x2.uz hS vb,x2.uz hS sa] at s3
  have w4:=bSum_fit w3.sb (w3.ext.ix w.ix) w3.ix w3.ov (by omega) (by rw[w3.ext.uz w.sb w.ix];omega)
  have l4:=w4.ln;have s4:=w4.sz
  rw[w3.ext.uz w.sb w.ix] at s4
  exact ⟨w4.ov,by dsimp only;omega,w4.sb,(x2.trans w3.ext).trans w4.ext,by dsimp only;rw[w4.ext.uz w3.sb (w3.ext.ix (w.ext.ix f.ix)),w3.ext.uz w.sb (w.ext.ix f.ix),w.ext.uz f.sb f.ix,f2,eb],by dsimp only;omega⟩
 ·have q1:=k1 (.inr (.inr (.inr (.inl e))));have q2:=k2 (.inr (.inr (.inr e)))
  have va:=h.va q1;have vb:=h.vb q2;have sa:=h.sa q1;have sb:=h.sb q2
  have da:=ha q1;have db:=hb q2
  have ua:=uz_1 hS va;have ub:=uz_1 hS vb
  have es:szF x.op (uz B (gI V x.a)) (uz B (gI V x.b))=uz B (gI V x.a)+uz B (gI V x.b):=by rw[e];rfl
  rw[es] at hs ⊢
  obtain ⟨n1,n2,n3,n4,n5⟩:=nl2 ua.1 ub.1
  have eb:=bSz2 (B:=B) (o:=5) (i:=gI V x.a) (k:=gI V x.b) (by decide) (by decide) (by decide)
  obtain ⟨f,f2⟩:=yM (o:=5) hS (.inr ⟨by decide,by decide,va,vb⟩) hov (by omega) (by omega)
  have l1:=f.ln
  have w:=bPrd_fit f.sb f.ix (f.ext.ix sb) f.ov (by omega) (by rw[f2,eb,f.ext.uz hS sb];omega)
  have l2:=w.ln;have s2:=w.sz
  rw[f2,eb,f.ext.uz hS sb] at s2
  have x2:=f.ext.trans w.ext
  have w3:=bDif_fit w.sb (x2.ix sa) w.ix w.ov (by omega) (by rw[x2.uz hS sa];omega)
  have l3:=w3.ln;have s3:=w3.sz
  rw[x2.uz hS sa] at s3
  have x3:=x2.trans w3.ext
  cases hzz:bIs (qV (kA (jK B 5 (gI V x.a) (gI V x.b)).1 (jK B 5 (gI V x.a) (gI V x.b)).2 (gI S x.b)).1 (gI S x.a) (kA (jK B 5 (gI V x.a) (gI V x.b)).1 (jK B 5 (gI V x.a) (gI V x.b)).2 (gI S x.b)).2).1 (qV (kA (jK B 5 (gI V x.a) (gI V x.b)).1 (jK B 5 (gI V x.a) (gI V x.b)).2 (gI S x.b)).1 (gI S x.a) (kA (jK B 5 (gI V x.a) (gI V x.b)).1 (jK B 5 (gI V x.a) (gI V x.b)).2 (gI S x.b)).2).2 0 with
  |true=>
   rw[dNd_5z e.symm hzz]
   exact ⟨w3.ov,by dsimp only;omega,w3.sb,x3,by dsimp only;rw[w3.ext.uz w.sb (w.ext.ix f.ix),w.ext.uz f.sb f.ix,f2,eb],by dsimp only;rw[x3.uz hS h.hz,hz];omega⟩
  |false=>
   rw[dNd_5 e.symm hzz]
   have e4:=bSz2 (B:=(qV (kA (jK B 5 (gI V x.a) (gI V x.b)).1 (jK B 5 (gI V x.a) (gI V x.b)).2 (gI S x.b)).1 (gI S x.a) (kA (jK B 5 (gI V x.a) (gI V x.b)).1 (jK B 5 (gI V x.a) (gI V x.b)).2 (gI S x.b)).2).1) (o:=5) (i:=(qV (kA (jK B 5 (gI V x.a) (gI V x.b)).1 (jK B 5 (gI V x.a) (gI V x.b)).2 (gI S x.b)).1 (gI S x.a) (kA (jK B 5 (gI V x.a) (gI V x.b)).1 (jK B 5 (gI V x.a) (gI V x.b)).2 (gI S x.b)).2).2) (k:=gI V x.b) (by decide) (by decide) (by decide)
   rw[x3.uz hS vb] at e4
   obtain ⟨w4,u4⟩:=yM (o:=5) w3.sb (.inr ⟨by decide,by decide,w3.ix,x3.ix vb⟩) w3.ov (by omega) (by omega)
   have l4:=w4.ln
   exact ⟨w4.ov,by dsimp only;omega,w4.sb,x3.trans w4.ext,by dsimp only;rw[w4.ext.uz w3.sb (w3.ext.ix (w.ext.ix f.ix)),w3.ext.uz w.sb (w.ext.ix f.ix),w.ext.uz f.sb f.ix,f2,eb],by dsimp only;omega⟩
 ·have q1:=k1 (.inr (.inr (.inr (.inr (.inl e)))))
  have va:=h.va q1;have sa:=h.sa q1
  have da:=ha q1
  have ua:=uz_1 hS va
  have es:szF x.op (uz B (gI V x.a)) (uz B (gI V x.b))=uz B (gI V x.a):=by rw[e];rfl
  rw[es] at hs ⊢
  obtain ⟨n1,n2,n3,n4,n5⟩:=nl2 ua.1 ua.1
  have eb:bSz B 6 (gI V x.a) 0=uz B (gI V x.a):=rfl
  rw[dNd_6 e]
  obtain ⟨f,f2⟩:=yM (o:=6) hS (.inr ⟨by decide,by decide,va,va.pos⟩) hov (by omega) (by omega)
  have l1:=f.ln
  have b1:=f.ext.bIs h.hz hzb
  have f3:uz (jK B 6 (gI V x.a) 0).1 (jK B 6 (gI V x.a) 0).2=uz B (gI V x.a):=f2
  cases hk:bIs (jK B 6 (gI V x.a) 0).1 (gI S x.a) 0 with
  |true=>
   rw[bDif_1 hk]
   exact ⟨f.ov,by dsimp only;omega,f.sb,f.ext,f3,by dsimp only;rw[f.ext.uz hS h.hz,hz];omega⟩
  |false=>
   rw[bDif_2 hk b1]
   have e6:bSz (jK B 6 (gI V x.a) 0).1 6 (gI S x.a) 0=uz (jK B 6 (gI V x.a) 0).1 (gI S x.a):=rfl
   rw[f.ext.uz hS sa] at e6
   obtain ⟨w,u⟩:=yM (o:=6) f.sb (.inr ⟨by decide,by decide,f.ext.ix sa,(f.ext.ix sa).pos⟩) f.ov (by omega) (by omega)
   have l2:=w.ln
   exact ⟨w.ov,by dsimp only;omega,w.sb,f.ext.trans w.ext,by dsimp only;rw[w.ext.uz f.sb f.ix,f3],by dsimp only;omega⟩
 ·have q1:=k1 (.inr (.inr (.inr (.inr (.inr e)))))
  have va:=h.va q1;have sa:=h.sa q1
  have da:=ha q1
  have ua:=uz_1 hS va
  have es:szF x.op (uz B (gI V x.a)) (uz B (gI V x.b))=2*uz B (gI V x.a):=by rw[e];rfl
  rw[es] at hs ⊢
  obtain ⟨n1,n2,n3,n4,n5⟩:=nl2 ua.1 ua.1
  have n6:2*uz B (gI V x.a)*(2*uz B (gI V x.a))=4*(uz B (gI V x.a)*uz B (gI V x.a)):=by rw[show 2*uz B (gI V x.a)=uz B (gI V x.a)+uz B (gI V x.a) by omega,n3];omega
  rw[n6] at hs ⊢
  have eb:bSz B 7 (gI V x.a) 0=2*uz B (gI V x.a):=rfl
  obtain ⟨f,f2⟩:=yM (o:=7) hS (.inr ⟨by decide,by decide,va,va.pos⟩) hov (by omega) (by omega)
  have l1:=f.ln
  have f3:uz (jK B 7 (gI V x.a) 0).1 (jK B 7 (gI V x.a) 0).2=2*uz B (gI V x.a):=f2
  have w:=bPrd_fit f.sb (f.ext.ix va) (f.ext.ix sa) f.ov (by omega) (by rw[f.ext.uz hS va,f.ext.uz hS sa];omega)
  have l2:=w.ln;have s2:=w.sz
  rw[f.ext.uz hS va,f.ext.uz hS sa] at s2
  have x2:=f.ext.trans w.ext
  by_cases hzz:(kA (jK B 7 (gI V x.a) 0).1 (gI V x.a) (gI S x.a)).2=z
  ·rw[dNd_7z e hzz]
   exact ⟨w.ov,by dsimp only;omega,w.sb,x2,by dsimp only;rw[w.ext.uz f.sb f.ix,f3],by dsimp only;rw[x2.uz hS h.hz,hz];omega⟩
  ·rw[dNd_7 e hzz]
   obtain ⟨w3,u3⟩:=bNum_fit (q:=((2:Int):Rat)) hT w.sb (ql_i (z:=2)) w.ov (by omega)
   have l3:=w3.ln
   have x3:=x2.trans w3.ext
   have w4:=bPrd_fit w3.sb w3.ix (w3.ext.ix w.ix) w3.ov (by omega) (by rw[u3,w3.ext.uz w.sb w.ix];omega)
   have l4:=w4.ln;have s4:=w4.sz
   rw[u3,w3.ext.uz w.sb w.ix] at s4
   exact ⟨w4.ov,by dsimp only;omega,w4.sb,x3.trans w4.ext,by dsimp only;rw[w4.ext.uz w3.sb (w3.ext.ix (w.ext.ix f.ix)),w3.ext.uz w.sb (w.ext.ix f.ix),w.ext.uz f.sb f.ix,f3],by dsimp only;omega⟩
structure FtU (i:Int) (t:List jS) (k:Nat):Prop where
 ov:(dU i t k).1.ov=false
 ln:(dU i t k).1.tm.length<=2+4*k
 sb:SB (dU i t k).1
 z:uz (dU i t k).1 gQ.2=1
 o:uz (dU i t k).1 dOn.2=1
 zb:bIs (dU i t k).1 gQ.2 0=true
 v:∀ j,j<k->uz (dU i t k).1 ((dU i t k).2.1.getD j 0)=(gM t k).getD j 0
 s:∀ j,j<k->uz (dU i t k).1 ((dU i t k).2.2.getD j 0)<=2*((gM t k).getD j 0*(gM t k).getD j 0)
theorem szF_congr{o a b a' b':Int}(h1:0<qB o->a=a')(h2:1<qB o->b=b')(h0:0<=qB o):szF o a b=szF o a' b':=by
 unfold szF
 rcases vJ o with ⟨e,f⟩ | ⟨e,f⟩ | ⟨e,f⟩ | ⟨e,f1,f2,f3⟩
 ·rw[if_pos e,if_pos e]
 ·rw[h1 (by omega)]
  rcases f with f | f
  ·subst f;rfl
  ·subst f;rfl
 ·rw[h1 (by omega),h2 (by omega)]
 ·omega
theorem dU_fit(hT:TxI){i n:Int}{t:List jS}(h0:yT n t=0)(hq:∀ x∈t,yB x.n (qS x.n) 1048576)(hl:t.length<=99)(hs:∀ k,k<t.length->mP (gM t k) (t.getD k tz)<=45):∀ k,k<=t.length->FtU i t k
 |0,_=>by
  obtain ⟨f,f2⟩:=bNum_fit (q:=((0:Int):Rat)) hT sb0 (ql_i (z:=0)) rfl (by decide)
  have l1:=f.ln
  have l0:rb0.tm.length=0:=rfl
  obtain ⟨g,g2⟩:=bNum_fit (q:=((1:Int):Rat)) hT f.sb (ql_i (z:=1)) f.ov (by omega)
  have l2:=g.ln
  have hzb:bIs gQ.1 gQ.2 0=true:=by
   obtain ⟨_,gg⟩:=iG hT sb0 (ql_i (z:=0)) f.ov
   unfold Go.Fid.bIs
   rw[show gQ.1.tm.getD gQ.2.toNat tz=_ from gg.nd]
   rw[Bool.and_eq_true,Bool.and_eq_true,decide_eq_true_eq]
   exact ⟨⟨f.ix.2,rfl⟩,by rw[vY,beq_iff_eq,cmpQ_eq]⟩
  exact ⟨g.ov,by show dOn.1.tm.length<=_;have:dOn.1.tm.length<=gQ.1.tm.length+1:=l2;have:gQ.1.tm.length<=rb0.tm.length+1:=l1;omega,g.sb,(g.ext.uz f.sb f.ix).trans f2,g2,g.ext.bIs f.ix hzb,λj h=>absurd h (Nat.not_lt_zero j),λj h=>absurd h (Nat.not_lt_zero j)⟩
 |k+1,hk=>by
  have ih:=dU_fit hT (i:=i) h0 hq hl hs k (by omega)
  have iv:=dInv (i:=i) h0 hq k (by omega)
  have hp:=iv.pre h0 hq (by omega)
  obtain ⟨c1,c2,c3,c4⟩:=nd_k h0 hq (show k<t.length by omega)
  have lz:=xE t k
  have ev1:∀ c:Int,0<=c->c<(k:Int)->uz (dU i t k).1 (gI (dU i t k).2.1 c)=(gM t k).getD c.toNat 0:=λc q1 q2=>ih.v c.toNat (by omega)
  have es1:∀ c:Int,0<=c->c<(k:Int)->uz (dU i t k).1 (gI (dU i t k).2.2 c)<=2*((gM t k).getD c.toNat 0*(gM t k).getD c.toNat 0):=λc q1 q2=>ih.s c.toNat (by omega)
  have en:szF (t.getD k tz).op (uz (dU i t k).1 (gI (dU i t k).2.1 (t.getD k tz).a)) (uz (dU i t k).1 (gI (dU i t k).2.1 (t.getD k tz).b))=mP (gM t k) (t.getD k tz) :=
   szF_congr (λq=>ev1 _ (c1.1 q).1 (c1.1 q).2) (λq=>ev1 _ (c1.2 q).1 (c1.2 q).2) (kd_nn c3 c4)
  have h45:=hs k (by omega)
  have hpos:1<=mP (gM t k) (t.getD k tz):=by
   rw[<- en]
   unfold szF
   have u1:0<qB (t.getD k tz).op->1<=uz (dU i t k).1 (gI (dU i t k).2.1 (t.getD k tz).a):=λq=>(uz_1 ih.sb (hp.va q)).1
   have u2:1<qB (t.getD k tz).op->1<=uz (dU i t k).1 (gI (dU i t k).2.1 (t.getD k tz).b):=λq=>(uz_1 ih.sb (hp.vb q)).1
   rcases vJ (t.getD k tz).op with ⟨e,f⟩ | ⟨e,f⟩ | ⟨e,f⟩ | ⟨e,f1,f2,f3⟩
   ·rw[if_pos e];decide
   ·have:=u1 (by omega)
    rw[if_neg (by omega)]
    split
    ·exact this
    ·rw[if_pos (by omega)];omega
   ·have:=u1 (by omega);have:=u2 (by omega)
    rw[if_neg (by omega),if_neg (by omega),if_neg (by omega)];omega
   ·have:=kd_nn c3 c4;omega
  have hb2:mP (gM t k) (t.getD k tz)*mP (gM t k) (t.getD k tz)<=45*45:=Int.mul_le_mul h45 h45 (by omega) (by decide)
  have w:=dNd_fit hT (i:=i) ih.sb hp ih.ov (by have:=ih.ln;omega) ih.z ih.o ih.zb (by rw[en];omega) (λq=>by rw[ev1 _ (c1.1 q).1 (c1.1 q).2];exact es1 _ (c1.1 q).1 (c1.1 q).2) (λq=>by rw[ev1 _ (c1.2 q).1 (c1.2 q).2];exact es1 _ (c1.2 q).1 (c1.2 q).2)
  rw[en] at w
  have ln:=w.ln;have ln2:=ih.ln
  have lV:=iv.lV
  have lS:=iv.lS
  refine ⟨w.ov,by show (aY i gQ.2 dOn.2 (dU i t k).1 (dU i t k).2.1 (dU i t k).2.2 (t.getD k tz)).1.tm.length<=_;omega,w.sb,(w.ext.uz ih.sb iv.hz).trans ih.z,(w.ext.uz ih.sb iv.ho).trans ih.o,w.ext.bIs iv.hz ih.zb,λj hj=>?_,λj hj=>?_⟩
  ·show uz (aY i gQ.2 dOn.2 (dU i t k).1 (dU i t k).2.1 (dU i t k).2.2 (t.getD k tz)).1 (((dU i t k).2.1++[(aY i gQ.2 dOn.2 (dU i t k).1 (dU i t k).2.1 (dU i t k).2.2 (t.getD k tz)).2.1]).getD j 0)=_
   rw[gM,qC,qC,lV,lz]
   rcases Nat.lt_or_ge j k with hjk | hjk
   ·rw[if_pos hjk,if_pos hjk,w.ext.uz ih.sb (iv.hV j hjk)];exact ih.v j hjk
   ·obtain rfl:j=k:=by omega
    rw[if_neg (Nat.lt_irrefl _),if_pos rfl,if_neg (Nat.lt_irrefl _),if_pos rfl];exact w.v
  ·show uz (aY i gQ.2 dOn.2 (dU i t k).1 (dU i t k).2.1 (dU i t k).2.2 (t.getD k tz)).1 (((dU i t k).2.2++[(aY i gQ.2 dOn.2 (dU i t k).1 (dU i t k).2.1 (dU i t k).2.2 (t.getD k tz)).2.2]).getD j 0)<=_
   rw[gM,qC,qC,lS,lz]
   rcases Nat.lt_or_ge j k with hjk | hjk
   ·rw[if_pos hjk,if_pos hjk,w.ext.uz ih.sb (iv.hS j hjk)];exact ih.s j hjk
   ·obtain rfl:j=k:=by omega
    rw[if_neg (Nat.lt_irrefl _),if_pos rfl,if_neg (Nat.lt_irrefl _),if_pos rfl];exact w.s
theorem drc_0(hT:TxI){i n:Int}{t:List jS}(h0:yT n t=0)(hq:∀ x∈t,yB x.n (qS x.n) 1048576)(hl:t.length<=99)(hs:∀ k,k<t.length->mP (gM t k) (t.getD k tz)<=45):DRC i t=0/\iX i t=drvT i t:=by
 have e:dOv i t=false:=by
  unfold dOv
  rw[any_eq_false]
  intro k hk
  have:=(dU_fit hT (i:=i) h0 hq hl hs (k+1) (by have:=mem_range.1 hk;omega)).ov
  rw[this];decide
 unfold DRC iX
 rw[e]
 exact ⟨if_neg (by decide),if_neg (by decide)⟩
structure NPx (n:Int) (m:Nat) (x:jS):Prop where
 o0:0<=x.op
 o7:x.op<=7
 b:qB x.op<2->x.b=0
 c:x.op=0->x.a=0/\yB x.n (qS x.n) m/\kT x.n=true
 z:x.op≠0->x.n=zr
 v:x.op=1->0<=x.a/\x.a<n
theorem npx_of{n:Int}{m:Nat}{o i k:Int}{c:kY}(h0:0<=o)(h7:o<=7)(hb:qB o<2->k=0)(hc:o=0->i=0/\yB c (qS c) m/\kT c=true)(hz:o≠0->c=zr)(hv:o=1->0<=i/\i<n):NPx n m ⟨o,i,k,c⟩:=⟨h0,h7,hb,hc,hz,hv⟩
section
variable {A:Type} {d:A} {f:Nf A} {R:A->Prop} {n:Int} {m:Nat}
def GdB(d:A)(f:Nf A)(R:A->Prop)(n:Int)(m:Nat)(B:uT):Prop:=∀ j,j<B.tm.length->NPx n m (B.tm.getD j tz)/\((B.tm.getD j tz).op=5->R (eV d f B.tm (B.tm.getD j tz).b.toNat))
theorem bAdd_gd{B:uT}{x:jS}{s:Int}(hB:RBI B)(hg:GdB d f R n m B)(hx:NPx n m x)(ho:eP x B.tm.length)(h5:x.op=5->R (eV d f B.tm x.b.toNat)):∀ j,j<(qR B x s).1.tm.length->NPx n m ((qR B x s).1.tm.getD j tz)/\(((qR B x s).1.tm.getD j tz).op=5->R (eV d f (qR B x s).1.tm ((qR B x s).1.tm.getD j tz).b.toNat)):=by
 unfold qR
 split
 ·exact hg
 ·intro j hj
  have hj:j<(B.tm++[x]).length:=hj
  rw[length_append,length_singleton] at hj
  show NPx n m ((B.tm++[x]).getD j tz)/\(((B.tm++[x]).getD j tz).op=5->R (eV d f (B.tm++[x]) ((B.tm++[x]).getD j tz).b.toNat))
  rcases Nat.lt_or_ge j B.tm.length with hl | hl
  ·rw[nZ hl]
   refine ⟨(hg j hl).1,λe=>?_⟩
   have:=(hB.ho j hl).2 (by rw[e];decide)
   rw[eV_app (by omega)];exact (hg j hl).2 e
  ·obtain rfl:j=B.tm.length:=by omega
   rw[qC,if_neg (Nat.lt_irrefl _),if_pos rfl]
   refine ⟨hx,λe=>?_⟩
   have:=ho.2 (by rw[e];decide)
   rw[eV_app (by omega)];exact h5 e
theorem nW{B:uT}{o i k:Int}(hB:RBI B)(hg:GdB d f R n m B)(h:NdAr B o i k)(hx:NPx n m ⟨o,i,k,zr⟩)(h5:o=5->R (eV d f B.tm k.toNat)):GdB d f R n m (jK B o i k).1:=by
 cases hs:((xR B.kn (o,i,k)).isSome||B.ov) with
 |true=>rw[oA hs];exact hg
 |false=>rw[bNode_f hs rfl];exact bAdd_gd (x:=⟨o,i,k,zr⟩) (s:=bSz B o i k) hB hg hx h.ord h5
theorem bNum_gd{B:uT}{q:Rat}(hB:RBI B)(hg:GdB d f R n m B)(hq:QL q m):GdB d f R n m (vW B q).1:=by
 cases hs:(xR B.os (txQ q)).isSome with
 |true=>rw[bNum_t hs];exact hg
 |false=>rw[bNum_f hs];exact bAdd_gd (x:=⟨0,0,0,jM q⟩) (s:=1) hB hg (npx_of (Int.le_refl _) (by decide) (λ_=>rfl) (λ_=>⟨rfl,uW (jZ hq),cP q⟩) (λh=>absurd rfl h) (λh=>absurd h (by decide))) ⟨λh=>absurd h (show ¬ 0<qB 0 by decide),λh=>absurd h (show ¬ 1<qB 0 by decide)⟩ (λh=>absurd h (show ¬ (0:Int)=5 by decide))
theorem npx2{o i k:Int}(h:o=2\/o=3\/o=4\/o=5):NPx n m ⟨o,i,k,zr⟩:=by
 rcases h with rfl | rfl | rfl | rfl<;>exact npx_of (by decide) (by decide) (λh=>absurd h (by decide)) (λh=>absurd h (by decide)) (λ_=>rfl) (λh=>absurd h (by decide))
theorem npx1{o i:Int}(h:o=6\/o=7):NPx n m ⟨o,i,0,zr⟩:=by
 rcases h with rfl | rfl<;>exact npx_of (by decide) (by decide) (λ_=>rfl) (λh=>absurd h (by decide)) (λ_=>rfl) (λh=>absurd h (by decide))
theorem bSum_gd{B:uT}{i k:Int}(hB:RBI B)(hg:GdB d f R n m B)(hi:gV B i)(hk:gV B k):GdB d f R n m (gD B i k).1:=by
 unfold gD
 split
 ·exact hg
 ·split
  ·exact hg
  ·exact nW hB hg (.inr ⟨by decide,by decide,hi,hk⟩) (npx2 (.inl rfl)) (λh=>absurd h (by decide))
theorem bDif_gd{B:uT}{i k:Int}(hB:RBI B)(hg:GdB d f R n m B)(hi:gV B i)(hk:gV B k):GdB d f R n m (qV B i k).1:=by
 unfold qV
 split
 ·exact hg
 ·split
  ·exact nW hB hg (.inr ⟨by decide,by decide,hk,hk.pos⟩) (npx1 (.inl rfl)) (λh=>absurd h (by decide))
  ·exact nW hB hg (.inr ⟨by decide,by decide,hi,hk⟩) (npx2 (.inr (.inl rfl))) (λh=>absurd h (by decide))
theorem bPrd_gd{B:uT}{i k:Int}(hB:RBI B)(hg:GdB d f R n m B)(hi:gV B i)(hk:gV B k):GdB d f R n m (kA B i k).1:=by
 unfold kA
 split
 ·exact hg
 ·split
  ·exact hg
  ·exact nW hB hg (.inr ⟨by decide,by decide,hi,hk⟩) (npx2 (.inr (.inr (.inl rfl)))) (λh=>absurd h (by decide))
theorem bAdd_ext(B:uT)(x:jS)(s:Int):∃ l w,(qR B x s).1.tm=B.tm++l/\(qR B x s).1.us=B.us++w:=by
 unfold qR;split
 ·exact ⟨[],[],by simp,by simp⟩
 ·exact ⟨[x],[s],rfl,rfl⟩
theorem bNode_ext(B:uT)(o i k:Int):Ext B (jK B o i k).1:=by
 cases hs:((xR B.kn (o,i,k)).isSome||B.ov) with
 |true=>rw[oA hs];exact .refl B
 |false=>rw[bNode_f hs rfl];exact bAdd_ext B ⟨o,i,k,zr⟩ (bSz B o i k)
theorem bDif_ext(B:uT)(i k:Int):Ext B (qV B i k).1:=by
 unfold qV;split
 ·exact .refl B
 ·split<;>exact bNode_ext _ _ _ _
theorem bPrd_ext(B:uT)(i k:Int):Ext B (kA B i k).1:=by
 unfold kA;split
 ·exact .refl B
 ·split
  ·exact .refl B
  ·exact bNode_ext _ _ _ _
theorem dNd_gd{i z o:Int}{k:Nat}{B:uT}{V S:List Int}{x:jS}(h:DPre k z o B V S x)(hg:GdB d f R n m B)(hm:1<=m)(hR:x.op=5->R (eV d f B.tm (gI V x.b).toNat))(hv:x.op=1->0<=x.a/\x.a<n)(hq:x.op=0->QL (qS x.n) m):GdB d f R n m (aY i z o B V S x).1:=by
 have h0:=h.op0;have h7:=h.op7
 have hc:x.op=0\/x.op=1\/x.op=2\/x.op=3\/x.op=4\/x.op=5\/x.op=6\/x.op=7:=by omega
 have k1:x.op=2\/x.op=3\/x.op=4\/x.op=5\/x.op=6\/x.op=7->0<qB x.op:=λe=>by rcases e with e | e | e | e | e | e<;>rw[e]<;>decide
 have k2:x.op=2\/x.op=3\/x.op=4\/x.op=5->1<qB x.op:=λe=>by rcases e with e | e | e | e<;>rw[e]<;>decide
 rcases hc with e | e | e | e | e | e | e | e
 ·rw[dNd_0 e];exact bNum_gd h.hB hg (hq e)
 ·rw[dNd_1 e]
  exact nW h.hB hg (.inl ⟨rfl,rfl,by have:=qO h.hz;omega⟩) (npx_of (by decide) (by decide) (λ_=>rfl) (λq=>absurd q (by decide)) (λ_=>rfl) (λ_=>hv e)) (λq=>absurd q (by decide))
 ·have va:=h.va (k1 (.inl e));have vb:=h.vb (k2 (.inl e));have sa:=h.sa (k1 (.inl e));have sb:=h.sb (k2 (.inl e))
  rw[dNd_2 e]
  have r1:=nd2 h.hB (o:=2) (by decide) (by decide) va vb
  exact bSum_gd r1.1 (nW h.hB hg (.inr ⟨by decide,by decide,va,vb⟩) (npx2 (.inl rfl)) (λq=>absurd q (by decide))) (r1.ix sa) (r1.ix sb)
 ·have va:=h.va (k1 (.inr (.inl e)));have vb:=h.vb (k2 (.inr (.inl e)));have sa:=h.sa (k1 (.inr (.inl e)));have sb:=h.sb (k2 (.inr (.inl e)))
  rw[dNd_3 e]
  have r1:=nd2 h.hB (o:=3) (by decide) (by decide) va vb
  exact bDif_gd r1.1 (nW h.hB hg (.inr ⟨by decide,by decide,va,vb⟩) (npx2 (.inr (.inl rfl))) (λq=>absurd q (by decide))) (r1.ix sa) (r1.ix sb)
 ·have va:=h.va (k1 (.inr (.inr (.inl e))));have vb:=h.vb (k2 (.inr (.inr (.inl e))));have sa:=h.sa (k1 (.inr (.inr (.inl e))));have sb:=h.sb (k2 (.inr (.inr (.inl e))))
  rw[dNd_4 e]
  have r1:=nd2 h.hB (o:=4) (by decide) (by decide) va vb
  have g1:=nW h.hB hg (.inr ⟨by decide,by decide,va,vb⟩) (npx2 (.inr (.inr (.inl rfl)))) (λq=>absurd q (by decide))
  have r2:=mH r1.1 (r1.ix va) (r1.ix sb)
  have g2:=bPrd_gd r1.1 g1 (r1.ix va) (r1.ix sb)
  have r3:=mH r2.1 (r2.ix (r1.ix vb)) (r2.ix (r1.ix sa))
  have g3:=bPrd_gd r2.1 g2 (r2.ix (r1.ix vb)) (r2.ix (r1.ix sa))
  exact bSum_gd r3.1 g3 (r3.ix r2.2.1) r3.2.1
 ·have va:=h.va (k1 (.inr (.inr (.inr (.inl e)))));have vb:=h.vb (k2 (.inr (.inr (.inr e))));have sa:=h.sa (k1 (.inr (.inr (.inr (.inl e)))));have sb:=h.sb (k2 (.inr (.inr (.inr e))))
  have r1:=nd2 h.hB (o:=5) (by decide) (by decide) va vb
  have g1:=nW h.hB hg (.inr ⟨by decide,by decide,va,vb⟩) (npx2 (.inr (.inr (.inr rfl)))) (λ_=>hR e)
  have r2:=mH r1.1 r1.2.1 (r1.ix sb)
  have g2:=bPrd_gd r1.1 g1 r1.2.1 (r1.ix sb)
  have r3:=oB r2.1 (r2.ix (r1.ix sa)) r2.2.1
  have g3:=bDif_gd r2.1 g2 (r2.ix (r1.ix sa)) r2.2.1
  cases hzz:bIs (qV (kA (jK B 5 (gI V x.a) (gI V x.b)).1 (jK B 5 (gI V x.a) (gI V x.b)).2 (gI S x.b)).1 (gI S x.a) (kA (jK B 5 (gI V x.a) (gI V x.b)).1 (jK B 5 (gI V x.a) (gI V x.b)).2 (gI S x.b)).2).1 (qV (kA (jK B 5 (gI V x.a) (gI V x.b)).1 (jK B 5 (gI V x.a) (gI V x.b)).2 (gI S x.b)).1 (gI S x.a) (kA (jK B 5 (gI V x.a) (gI V x.b)).1 (jK B 5 (gI V x.a) (gI V x.b)).2 (gI S x.b)).2).2 0 with
  |true=>rw[dNd_5z e.symm hzz];exact g3
  |false=>
   rw[dNd_5 e.symm hzz]
   have x3:=((bNode_ext B 5 (gI V x.a) (gI V x.b)).trans (bPrd_ext _ (jK B 5 (gI V x.a) (gI V x.b)).2 (gI S x.b))).trans (bDif_ext _ (gI S x.a) (kA (jK B 5 (gI V x.a) (gI V x.b)).1 (jK B 5 (gI V x.a) (gI V x.b)).2 (gI S x.b)).2)
   exact nW r3.1 g3 (.inr ⟨by decide,by decide,r3.2.1,x3.ix vb⟩) (npx2 (.inr (.inr (.inr rfl)))) (λ_=>by rw[x3.ev (qO vb)];exact hR e)
 ·have va:=h.va (k1 (.inr (.inr (.inr (.inr (.inl e))))));have sa:=h.sa (k1 (.inr (.inr (.inr (.inr (.inl e))))))
  rw[dNd_6 e]
  have r1:=nd2 h.hB (o:=6) (by decide) (by decide) va va.pos
  exact bDif_gd r1.1 (nW h.hB hg (.inr ⟨by decide,by decide,va,va.pos⟩) (npx1 (.inl rfl)) (λq=>absurd q (by decide))) (r1.ix h.hz) (r1.ix sa)
 ·have va:=h.va (k1 (.inr (.inr (.inr (.inr (.inr e))))));have sa:=h.sa (k1 (.inr (.inr (.inr (.inr (.inr e))))))
  have r1:=nd2 h.hB (o:=7) (by decide) (by decide) va va.pos
  have g1:=nW h.hB hg (.inr ⟨by decide,by decide,va,va.pos⟩) (npx1 (.inr rfl)) (λq=>absurd q (by decide))
  have r2:=mH r1.1 (r1.ix va) (r1.ix sa)
  have g2:=bPrd_gd r1.1 g1 (r1.ix va) (r1.ix sa)
  by_cases hzz:(kA (jK B 7 (gI V x.a) 0).1 (gI V x.a) (gI S x.a)).2=z
  ·rw[dNd_7z e hzz];exact g2
  ·rw[dNd_7 e hzz]
   have r3:=bNum_ok r2.1 (ql_i (z:=2))
   have g3:=bNum_gd (q:=((2:Int):Rat)) r2.1 g2 (vL (z:=2) (Nat.le_trans (uB) hm) hm)
   exact bPrd_gd r3.1 g3 r3.2.1 (r3.ix r2.2.1)
theorem dU_gd(hA:Alg A d f)(hT:TxI){i n:Int}{t:List jS}(h0:yT n t=0)(hq:∀ x∈t,yB x.n (qS x.n) 1048576)(hm:1<=m)(h8:∀ x∈t,x.op=0->QL (qS x.n) m)
  (hR:∀ k,k<t.length->(t.getD k tz).op=5->R ((aG d f t k).getD (t.getD k tz).b.toNat d)):∀ k,k<=t.length->(dU i t k).1.ov=false->GdB d f R n m (dU i t k).1
 |0,_,_=>bNum_gd dz_ok.1 (bNum_gd rbi0 (λj h=>absurd h (Nat.not_lt_zero j)) (vL (z:=0) (Nat.le_trans (uB) hm) hm)) (vL (z:=1) (Nat.le_trans (uB) hm) hm)
 |k+1,hk,hov=>by
  have hov:(aY i gQ.2 dOn.2 (dU i t k).1 (dU i t k).2.1 (dU i t k).2.2 (t.getD k tz)).1.ov=false:=hov
  have ih:=dU_gd hA hT (i:=i) h0 hq hm h8 hR k (by omega) (dNd_ov hov)
  have iv:=dInv (i:=i) h0 hq k (by omega)
  have sm:=dU_sem hA hT (i:=i) h0 hq k (by omega) (dNd_ov hov)
  obtain ⟨c1,c2,c3,c4⟩:=nd_k h0 hq (show k<t.length by omega)
  have hmem:t.getD k tz∈t:=qG (by omega)
  obtain ⟨_,_,h3,_⟩:=nd_0 ((dF h0).2.2.2.2 k (by omega))
  unfold rngN at h3
  refine dNd_gd (iv.pre h0 hq (by omega)) ih hm (λe=>?_) (λe=>by omega) (λe=>h8 _ hmem e)
  have q:=c1.2 (by rw[e];decide)
  have e2:eV d f (dU i t k).1.tm (gI (dU i t k).2.1 (t.getD k tz).b).toNat=(aG d f t k).getD (t.getD k tz).b.toNat d:=sm.v _ (by omega)
  rw[e2];exact hR k (by omega) e
end
def fS:Nf Int:=λo _ u v _=>if qB o<=0 then 1 else if o=6 then u else if o=7 then 2*u else u+v
theorem fS_ok:NfOk fS:=by
 refine ⟨λo a u v u' v' n h=>?_,λo a a' u v v' n h=>?_,λo a a' u v n h=>rfl,λo a u v n n' h=>rfl⟩
 ·unfold fS;rw[if_pos h,if_pos h]
 ·unfold fS
  rcases vJ o with ⟨e,g⟩ | ⟨e,g⟩ | ⟨e,g⟩ | ⟨e,g⟩
  ·omega
  ·rcases g with rfl | rfl<;>rfl
  ·omega
  ·omega
theorem szN_fS{ss:List Int}{x:jS}(h:0<=qB x.op):mP ss x=nfV 0 fS ss x:=by
 unfold mP nfV fS
 by_cases e:qB x.op=0
 ·rw[if_pos e,if_pos (by omega)]
 ·rw[if_neg e,if_neg (show ¬ qB x.op<=0 by omega)]
theorem szU_fS{t:List jS}:∀ k,(∀ j,j<k->0<=qB (t.getD j tz).op)->gM t k=aG 0 fS t k
 |0,_=>rfl
 |k+1,h=>by rw[gM,aG,szU_fS k (λj hj=>h j (by omega)),szN_fS (h k (Nat.lt_succ_self _))]
theorem us_fS{B:uT}(hS:SB B):∀ (N j:Nat),j<N->j<B.tm.length->B.us.getD j 0=eV 0 fS B.tm j
 |0,j,h,_=>absurd h (Nat.not_lt_zero j)
 |N+1,j,h,hj=>by
  have ho:=hS.hB.ho j hj
  rw[hS.us j hj,eV_node fS_ok hj ho,szN_fS (hS.kd j hj)]
  unfold nfV
  refine nf_congr fS_ok (λq=>?_) (λq=>?_)
  ·have:=ho.1 q;exact us_fS hS N _ (by omega) (by omega)
  ·have:=ho.2 q;exact us_fS hS N _ (by omega) (by omega)
def fR(xs:List Rat):Nf Rat:=λo a u v n=>
 if o=1 then xs.getD a.toNat 0
 else if o=2 then u+v
 else if o=3 then u-v
 else if o=4 then u*v
 else if o=6 then -u
 else if o=7 then u*u
 else if o=5 then u / v
 else if o=0 then qS n
 else 0
theorem iN{o:Int}(h0:0<=o)(h7:o<=7):o=0\/o=1\/o=2\/o=3\/o=4\/o=5\/o=6\/o=7:=by omega
theorem vV_fR(xs L:List Rat){x:jS}(h0:0<=x.op)(h7:x.op<=7):vV xs L x=nfV 0 (fR xs) L x:=by
 unfold vV nfV fR
 rcases iN h0 h7 with e | e | e | e | e | e | e | e<;>simp only[e]<;>rfl
theorem vU_fR(xs:List Rat)(t:List jS):∀ k,(∀ j,j<k->0<=(t.getD j tz).op/\(t.getD j tz).op<=7)->vU xs t k=aG 0 (fR xs) t k
 |0,_=>rfl
 |k+1,h=>by rw[vU,aG,vU_fR xs t k (λj hj=>h j (by omega)),vV_fR _ _ (h k (Nat.lt_succ_self _)).1 (h k (Nat.lt_succ_self _)).2]
theorem fR_other{xs:List Rat}{o a:Int}{u v:Rat}{n:kY}(h:¬ (o=0\/o=1))(h2:¬ (o=6\/o=7))(h3:¬ (o=2\/o=3\/o=4\/o=5)):fR xs o a u v n=0:=by
 unfold fR
 rw[if_neg (by omega),if_neg (by omega),if_neg (by omega),if_neg (by omega),if_neg (by omega),if_neg (by omega),if_neg (by omega),if_neg (by omega)]
theorem fR_alg(xs:List Rat):Alg Rat 0 (fR xs):=by
 have z0:qS (jM 0)=0:=vY 0
 have z1:qS (jM 1)=1:=vY 1
 refine ⟨⟨λo a u v u' v' n h=>?_,λo a a' u v v' n h=>?_,λo a a' u v n h=>?_,λo a u v n n' h=>?_⟩,λa a' p q h=>?_,λx n=>?_,λx n=>?_,λx n=>?_,λx n=>?_,λx n=>?_,λx n=>?_,λx n=>?_,λx n=>?_,λx n=>?_⟩
 ·rcases vJ o with ⟨e,g⟩ | ⟨e,g⟩ | ⟨e,g⟩ | ⟨e,g1,g2,g3⟩
  ·rcases g with rfl | rfl<;>rfl
  ·omega
  ·omega
  ·rw[fR_other g1 g2 g3,fR_other g1 g2 g3]
 ·rcases vJ o with ⟨e,g⟩ | ⟨e,g⟩ | ⟨e,g⟩ | ⟨e,g1,g2,g3⟩
  ·omega
  ·rcases g with rfl | rfl<;>rfl
  ·omega
  ·omega
 ·rcases vJ o with ⟨e,g⟩ | ⟨e,g⟩ | ⟨e,g⟩ | ⟨e,g1,g2,g3⟩
  ·omega
  ·omega
  ·rcases g with rfl | rfl | rfl | rfl<;>rfl
  ·omega
 ·rcases vJ o with ⟨e,g⟩ | ⟨e,g⟩ | ⟨e,g⟩ | ⟨e,g1,g2,g3⟩
  ·rcases g with rfl | rfl
   ·exact absurd rfl h
   ·rfl
  ·rcases g with rfl | rfl<;>rfl
  ·rcases g with rfl | rfl | rfl | rfl<;>rfl
  ·rw[fR_other g1 g2 g3,fR_other g1 g2 g3]
 ·exact h
 ·show qS (jM 0)+x=x;rw[z0,Rat.zero_add]
 ·show x+qS (jM 0)=x;rw[z0,Rat.add_zero]
 ·show x-qS (jM 0)=x;rw[z0];grind
 ·show qS (jM 0)-x=-x;rw[z0];grind
 ·show qS (jM 0)*x=qS (jM 0);rw[z0,Rat.zero_mul]
 ·show x*qS (jM 0)=qS (jM 0);rw[z0,Rat.mul_zero]
 ·show qS (jM 1)*x=x;rw[z1,Rat.one_mul]
 ·show x*qS (jM 1)=x;rw[z1,Rat.mul_one]
 ·show qS (jM 0) / x=qS (jM 0);rw[z0,Rat.div_def,Rat.zero_mul]
theorem NPx.rn{n:Int}{m:Nat}{nm:List Int}{x:jS}(h:NPx n m x):NPx n m (rnN nm x):=by
 obtain ⟨e1,e2⟩:=rnN_op nm x
 rcases kdN_rng x.op with k | k | k
 ·rw[rnN_n (by omega)];exact h
 ·refine ⟨by rw[e1];exact h.o0,by rw[e1];exact h.o7,λ_=>?_,λq=>?_,λq=>?_,λq=>?_⟩
  ·unfold rnN;rw[if_pos (by omega),if_neg (by omega)];exact h.b (by omega)
  ·rw[e1] at q;rw[q] at k;exact absurd k (by decide)
  ·rw[e1] at q;rw[e2];exact h.z q
  ·rw[e1] at q;rw[q] at k;exact absurd k (by decide)
 ·refine ⟨by rw[e1];exact h.o0,by rw[e1];exact h.o7,λq=>?_,λq=>?_,λq=>?_,λq=>?_⟩
  ·rw[e1] at q;omega
  ·rw[e1] at q;rw[q] at k;exact absurd k (by decide)
  ·rw[e1] at q;rw[e2];exact h.z q
  ·rw[e1] at q;rw[q] at k;exact absurd k (by decide)
theorem NPx.nd{n:Int}{m:Nat}{x:jS}{ss:List Int}(h:NPx n m x)(ho:eP x ss.length)(hs:mP ss x<=4096):ndC n ss x=0:=by
 unfold ndC
 have k0:=kd_nn h.o0 h.o7
 have b1:¬ dI x:=by
  unfold dI
  rintro (q | q | q | q)
  ·omega
  ·exact q.2 (h.b q.1)
  ·obtain ⟨q1,q2⟩:=q
   obtain ⟨c1,_,c3⟩:=h.c q1
   rcases q2 with q2 | q2
   ·exact q2 c1
   ·rw[c3] at q2;cases q2
  ·rw[h.z q.1] at q;exact absurd q.2 (by decide)
 have b2:¬ eA ((ss.length:Nat):Int) x:=by
  unfold eA
  rintro (q | q)
  ·have:=ho.1 q.1;omega
  ·have:=ho.2 q.1;omega
 have b3:¬ rngN n x:=by
  unfold rngN
  rintro ⟨q,q2⟩
  have:=h.v q;omega
 rw[if_neg b1,if_neg b2,if_neg b3,if_neg (by omega)]
theorem NPx.q{n:Int}{m:Nat}{x:jS}(h:NPx n m x)(hm:1<=m):yB x.n (qS x.n) m:=by
 by_cases e:x.op=0
 ·exact (h.c e).2.1
 ·rw[h.z e];exact qok_raw hm (Nat.zero_le _) (Nat.zero_le _)
theorem vb_all{z:Int}{xs:List Rat}{t:List jS}(hu:bN z t t.length)(hq:∀ x∈t,yB x.n (qS x.n) 8)(hb:∀ q∈xs,QL q 24):∀ {k:Nat},k<=t.length->VBd (gM t k) (vU xs t k)
 |0,_=>λj hj=>by simp [vU] at hj
 |k+1,hk=>λj hj=>by
  have ih:=vb_all hu hq hb (k:=k) (by omega)
  have l1:=xE t k
  have l2:=aD xs t k
  rw[aD] at hj
  have g1:(gM t (k+1)).getD j 0=_:=zG
  have g2:(vU xs t (k+1)).getD j 0=_:=zG
  rcases Nat.lt_or_ge j k with hjk | hjk
  ·rw[if_pos (by omega)] at g1 g2
   rw[g1,g2];exact ih j (by omega)
  ·rw[if_neg (by omega),if_pos (by omega)] at g1 g2
   rw[g1,g2]
   exact vb_node (hu k (by omega)) (l1.trans l2.symm) (hq _ (qG (by omega))) hb ih
theorem bd_4096{s:Nat}(h:s<=4096):bV s<=1048576:=by unfold bV;omega
structure Drv (xs:List Rat) (i:Int) (t T:List jS):Prop where
 q:∀ x∈T,yB x.n (qS x.n) 8
 run:VRun xs T
 val:uJ xs T=(dfU 0 (fR xs) i t t.length).getD (t.length-1) 0
def rdL:List UInt8->Nat->Nat
 |[],a=>a
 |c::l,a=>rdL l (10*a+(c.toNat-48))
def dec(a:Nat)(l:List UInt8):Nat:=rdL l a
theorem dec_nil(a:Nat):dec a []=a:=by unfold dec;rw[rdL]
theorem dec_cons(a:Nat)(c:UInt8)(l:List UInt8):dec a (c::l)=dec (10*a+(c.toNat-48)) l:=by unfold dec;rw[rdL]
theorem dec_app:∀ (l m:List UInt8) (a:Nat),dec a (l++m)=dec (dec a l) m
 |[],_,_=>by rw[dec_nil,nil_append]
 |c::l,m,a=>by rw[cons_append,dec_cons,dec_cons];exact dec_app l m _
def Dgt(c:UInt8):Prop:=48<=c.toNat/\c.toNat<=57
theorem dg_byte:∀ n:Nat,n<10->(UInt8.ofNat (48+n)).toNat=48+n:=by decide
theorem dg_dgt{n:Nat}(h:n<10):Dgt (UInt8.ofNat (48+n)):=by
 unfold Dgt;rw[dg_byte n h];omega
theorem dgs_dgt:∀ (f n:Nat),∀ c∈dgs f n,Dgt c
 |0,_,c,hc=>by simp [dgs] at hc
 |f+1,n,c,hc=>by
  unfold dgs at hc
  by_cases h:n<10
  ·rw[if_pos h,mem_singleton] at hc;subst hc;exact dg_dgt h
  ·rw[if_neg h,mem_append,mem_singleton] at hc
   rcases hc with hc | hc
   ·exact dgs_dgt f _ c hc
   ·subst hc;exact dg_dgt (Nat.mod_lt _ (by decide))
theorem dec_one(a:Nat)(c:UInt8):dec a [c]=10*a+(c.toNat-48):=by rw[dec_cons,dec_nil]
theorem dgs_val:∀ (f n a:Nat),n<10 ^ f->dec a (dgs f n)=a*10 ^ (dgs f n).length+n
 |0,n,a,h=>by
  have:n=0:=Nat.lt_one_iff.1 h
  subst this
  show dec a []=a*1+0
  rw[dec_nil];omega
 |f+1,n,a,h=>by
  unfold dgs
  by_cases h9:n<10
  ·rw[if_pos h9,dec_one,dg_byte n h9,length_singleton,Nat.pow_one]
   omega
  ·have h2:n / 10<10 ^ f:=by rw[Nat.pow_succ] at h;exact Nat.div_lt_of_lt_mul (by rw[Nat.mul_comm];exact h)
   have h3:=dgs_val f (n / 10) a h2
   have h4:=Nat.mod_lt n (show 0<10 by decide)
   rw[if_neg h9,dec_app,h3,dec_one,dg_byte _ h4,length_append,length_singleton,Nat.pow_succ]
   have e:a*(10 ^ (dgs f (n / 10)).length*10)=10*(a*10 ^ (dgs f (n / 10)).length):=by rw[<- Nat.mul_assoc,Nat.mul_comm]
   rw[e]
   generalize a*10 ^ (dgs f (n / 10)).length=X
   clear h h2 h3 e
   omega
theorem dgs_lenk:∀ (f k n:Nat),1<=k->n<10 ^ k->(dgs f n).length<=k
 |0,k,n,h,_=>by simp [dgs]
 |f+1,k,n,h,hn=>by
  unfold dgs
  by_cases h9:n<10
  ·rw[if_pos h9];exact h
  ·rw[if_neg h9,length_append,length_singleton]
   match k,h,hn with
   |1,_,hn=>exact absurd (by simpa using hn) h9
   |k+2,_,hn=>
    have:=dgs_lenk f (k+1) (n / 10) (by omega) (by rw[Nat.pow_succ] at hn;omega)
    omega
theorem itN_val{n:Nat}(h:n<1000000000)(a:Nat):dec a (itN n)=a*10 ^ (itN n).length+n:=dgs_val 20 n a (Nat.lt_of_lt_of_le h (by decide))
theorem itN_le{n:Nat}(h:n<1000000000):(itN n).length<=9:=dgs_lenk 20 9 n (by decide) h
theorem dec_zeros:∀ (k a:Nat),dec a (replicate k 48)=a*10 ^ k
 |0,a=>by rw[replicate_zero,dec_nil,Nat.pow_zero,Nat.mul_one]
 |k+1,a=>by
  have e:(48:UInt8).toNat-48=0:=rfl
  rw[replicate_succ,dec_cons,e,Nat.add_zero,dec_zeros k,Nat.pow_succ,Nat.mul_comm 10 a,Nat.mul_assoc,Nat.mul_comm 10]
theorem padN_val{n:Nat}(h:n<1000000000)(a:Nat):dec a (lN n)=a*1000000000+n:=by
 unfold lN
 rw[dec_app,dec_zeros,itN_val h,Nat.mul_assoc,<- Nat.pow_add,Nat.sub_add_cancel (itN_le h)]
theorem pads_val:∀ (l:List Nat) (a:Nat),(∀ d∈l,d<1000000000)->dec a ((l.map lN).flatten)=l.foldl (λa d=>a*1000000000+d) a
 |[],a,_=>by rw[map_nil,flatten_nil,dec_nil];rfl
 |d::l,a,h=>by
  rw[map_cons,flatten_cons,dec_app,padN_val (h d (by simp)),pads_val l _ (λx hx=>h x (by simp [hx]))];rfl
theorem foldl_val:∀ l:List Nat,l.reverse.foldl (λa d=>a*1000000000+d) 0=val l
 |[]=>rfl
 |x::l=>by
  rw[reverse_cons,foldl_append,foldl_val l,nX]
  show val l*1000000000+x=_
  omega
theorem txG_val{l:List Nat}(h:∀ d∈l,d<1000000000)(hl:l≠[]):dec 0 (txG l)=l.foldl (λa d=>a*1000000000+d) 0:=by
 cases l with
 |nil=>exact absurd rfl hl
 |cons d l=>
  show dec 0 (itN d++(l.map lN).flatten)=_
  rw[dec_app,itN_val (h d (by simp)),pads_val l _ (λx hx=>h x (by simp [hx]))]
  simp
theorem txN_val(n:Nat):dec 0 (txN n)=n:=by
 unfold txN
 by_cases h:(ofNat n).length=0
 ·rw[if_pos h]
  have:n=0:=iD.1 (eq_nil_of_length_eq_zero h)
  subst this;rfl
 ·rw[if_neg h,txG_val (λd hd=>kI n d (mem_reverse.1 hd)) (λe=>h (by have:=congrArg List.length e;simpa using this)),foldl_val,kH]
theorem txN_dgt(n:Nat):(∀ c∈txN n,Dgt c)/\txN n≠[]:=by
 unfold txN
 by_cases h:(ofNat n).length=0
 ·rw[if_pos h]
  refine ⟨λc hc=>?_,by simp⟩
  rw[mem_singleton] at hc;subst hc;exact ⟨by decide,by decide⟩
 ·rw[if_neg h]
  generalize hg:(ofNat n).reverse=l
  cases l with
  |nil=>exact absurd (by have:=congrArg List.length hg;simpa using this) h
  |cons d l=>
   refine ⟨λc hc=>?_,λe=>?_⟩
   ·have hc:c∈itN d++(l.map lN).flatten:=hc
    rw[mem_append] at hc
    rcases hc with hc | hc
    ·exact dgs_dgt 20 d c hc
    ·obtain ⟨y,hy,hc⟩:=mem_flatten.1 hc
     obtain ⟨x,_,rfl⟩:=mem_map.1 hy
     unfold lN at hc
     rw[mem_append] at hc
     rcases hc with hc | hc
     ·rw[(mem_replicate.1 hc).2];exact ⟨by decide,by decide⟩
     ·exact dgs_dgt 20 x c hc
   ·have e:itN d++(l.map lN).flatten=[]:=e
    have e2:=(append_eq_nil_iff.1 e).1
    unfold itN dgs at e2
    split at e2<;>simp at e2
theorem txZ_ok(z:Int):∀ c∈aL z,c≠47:=λc hc e=>by
 subst e
 unfold aL at hc
 have hd:=(txN_dgt z.natAbs).1
 split at hc
 ·rw[mem_cons] at hc
  rcases hc with hc | hc
  ·cases hc
  ·have:=(hd _ hc).1;revert this;decide
 ·have:=(hd _ hc).1;revert this;decide
theorem txZ_inj{z y:Int}(h:aL z=aL y):z=y:=by
 have hz:=txN_dgt z.natAbs
 have hy:=txN_dgt y.natAbs
 have no:∀ n:Nat,∀ l,txN n≠45::l:=λn l e=>by
  have:=((txN_dgt n).1 45 (by rw[e];simp)).1
  revert this;decide
 unfold aL at h
 by_cases h1:z<0
 ·rw[if_pos h1] at h
  by_cases h2:y<0
  ·rw[if_pos h2] at h
   have e:=congrArg (dec 0) (List.cons.inj h).2
   rw[txN_val,txN_val] at e;omega
  ·rw[if_neg h2] at h;exact absurd h.symm (no _ _)
 ·rw[if_neg h1] at h
  by_cases h2:y<0
  ·rw[if_pos h2] at h;exact absurd h (no _ _)
  ·rw[if_neg h2] at h
   have e:=congrArg (dec 0) h
   rw[txN_val,txN_val] at e;omega
theorem split47:∀ (a b r s:List UInt8),(∀ c∈a,c≠47)->(∀ c∈b,c≠47)->(r=[]\/∃ l,r=47::l)->(s=[]\/∃ l,s=47::l)->a++r=b++s->a=b/\r=s
 |[],[],r,s,_,_,_,_,h=>⟨rfl,h⟩
 |[],y::b,r,s,_,hb,hr,hs,h=>by
  rcases hr with rfl | ⟨l,rfl⟩
  ·cases h
  ·have h:=(List.cons.inj h).1
   exact absurd h.symm (hb y (by simp))
 |x::a,[],r,s,ha,_,hr,hs,h=>by
  rcases hs with rfl | ⟨l,rfl⟩
  ·cases h
  ·have h:=(List.cons.inj h).1
   exact absurd h (ha x (by simp))
 |x::a,y::b,r,s,ha,hb,hr,hs,h=>by
  obtain ⟨h1,h2⟩:=List.cons.inj h
  obtain ⟨e1,e2⟩:=split47 a b r s (λc hc=>ha c (by simp [hc])) (λc hc=>hb c (by simp [hc])) hr hs h2
  exact ⟨by rw[h1,e1],e2⟩
theorem txQ_inj{p q:Rat}(h:txQ p=txQ q):p=q:=by
 have form:∀ q:Rat,∃ r,(if q.den=1 then aL q.num else aL q.num++47::aL q.den)=aL q.num++r/\((q.den=1/\r=[])\/(q.den≠1/\r=47::aL q.den)):=λq=>by
  by_cases h:q.den=1
  ·exact ⟨[],by rw[if_pos h,append_nil],.inl ⟨h,rfl⟩⟩
  ·exact ⟨_,if_neg h,.inr ⟨h,rfl⟩⟩
 unfold txQ at h
 obtain ⟨r,e1,c1⟩:=form p
 obtain ⟨s,e2,c2⟩:=form q
 rw[e1,e2] at h
 have h:aL p.num++r=aL q.num++s:=by
  have:=congrArg (λb:ByteArray=>b.data.toList) h
  simpa using this
 obtain ⟨a,b⟩:=split47 _ _ _ _ (txZ_ok _) (txZ_ok _) (by rcases c1 with c | c;exact .inl c.2;exact .inr ⟨_,c.2⟩) (by rcases c2 with c | c;exact .inl c.2;exact .inr ⟨_,c.2⟩) h
 have en:=txZ_inj a
 have ed:p.den=q.den:=by
  rcases c1 with ⟨c,d⟩ | ⟨c,d⟩
  ·rcases c2 with ⟨c',d'⟩ | ⟨c',d'⟩
   ·rw[c,c']
   ·rw[d,d'] at b;cases b
  ·rcases c2 with ⟨c',d'⟩ | ⟨c',d'⟩
   ·rw[d,d'] at b;cases b
   ·rw[d,d'] at b
    have:=txZ_inj (List.cons.inj b).2;omega
 exact Rat.ext en ed
theorem txI:TxI:=λp q _ _ h=>txQ_inj h
end Go.Fid
