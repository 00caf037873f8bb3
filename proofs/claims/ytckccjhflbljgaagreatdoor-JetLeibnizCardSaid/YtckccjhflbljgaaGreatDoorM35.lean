/- Part 35 of a proof: rules, plain facts, and functions walked. -/
import Derived.Test.YtckccjhflbljgaaGreatDoorM20
import Derived.Test.YtckccjhflbljgaaGreatDoorM34
set_option linter.all false
namespace Go.Fid
abbrev Nf (A:Type):=Int->Int->A->A->kT->A
structure NfOk {A:Type} (f:Nf A):Prop where
 k0:∀ o a u v u' v' n,kZ o<=0->f o a u v n=f o a u' v' n
 k1:∀ o a a' u v v' n,kZ o=1->f o a u v n=f o a' u v' n
 k2:∀ o a a' u v n,kZ o=2->f o a u v n=f o a' u v n
 n0:∀ o a u v n n',o≠0->f o a u v n=f o a u v n'
def nfV{A:Type}(d:A)(f:Nf A)(L:List A)(x:jO):A:=f x.op x.a (L.getD x.a.toNat d) (L.getD x.b.toNat d) x.n
def cU{A:Type}(d:A)(f:Nf A)(t:List jO):Nat->List A
 |0=>[]
 |k+1=>cU d f t k++[nfV d f (cU d f t k) (t.getD k tz)]
section
variable {A:Type} {d:A} {f:Nf A}
theorem iX(t:List jO):∀ k,(cU d f t k).length=k
 |0=>rfl
 |k+1=>by rw[cU,List.length_append,iX t k];rfl
theorem nfU_app(t l:List jO):∀ k,k<=t.length->cU d f (t++l) k=cU d f t k
 |0,_=>rfl
 |k+1,h=>by
  rw[cU,cU,nfU_app t l k (by omega),show (t++l).getD k tz=t.getD k tz by rw[List.getD_eq_getElem?_getD,List.getElem?_append_left (by omega),<- List.getD_eq_getElem?_getD]]
theorem nfU_at(t:List jO):∀ k j,j<k->(cU d f t k).getD j d=nfV d f (cU d f t j) (t.getD j tz)
 |0,j,h=>absurd h (Nat.not_lt_zero j)
 |k+1,j,h=>by
  rw[cU,dS,iX]
  rcases Nat.lt_or_ge j k with hj | hj
  ·rw[if_pos hj];exact nfU_at t k j hj
  ·obtain rfl:j=k:=by omega
   rw[if_neg (Nat.lt_irrefl _),if_pos rfl]
def eV(d:A)(f:Nf A)(t:List jO)(j:Nat):A:=(cU d f t t.length).getD j d
theorem eV_at{t:List jO}{k j:Nat}(hj:j<k)(hk:j<t.length):(cU d f t k).getD j d=eV d f t j:=by
 unfold eV;rw[nfU_at t k j hj,nfU_at t t.length j hk]
theorem eV_app{t l:List jO}{j:Nat}(hj:j<t.length):eV d f (t++l) j=eV d f t j:=by
 unfold eV
 rw[nfU_at _ _ j (by rw[List.length_append];omega),nfU_at _ _ j hj,nfU_app t l j (by omega),show (t++l).getD j tz=t.getD j tz by rw[List.getD_eq_getElem?_getD,List.getElem?_append_left hj,<- List.getD_eq_getElem?_getD]]
theorem fC(o:Int):kZ o<=0\/kZ o=1\/kZ o=2:=by
 rcases xS o with ⟨h,_⟩ | ⟨h,_⟩ | ⟨h,_⟩ | ⟨h,_⟩<;>omega
theorem eV_node(hf:NfOk f){t:List jO}{j:Nat}(hj:j<t.length)(ho:eP (t.getD j tz) j) :
  eV d f t j=f (t.getD j tz).op (t.getD j tz).a (eV d f t (t.getD j tz).a.toNat) (eV d f t (t.getD j tz).b.toNat) (t.getD j tz).n:=by
 have e:eV d f t j=nfV d f (cU d f t j) (t.getD j tz):=nfU_at t t.length j hj
 rw[e]
 unfold nfV
 obtain ⟨h1,h2⟩:=ho
 generalize t.getD j tz=x at h1 h2
 rcases fC x.op with hk | hk | hk
 ·exact hf.k0 _ _ _ _ _ _ _ hk
 ·have:=h1 (by omega)
  rw[eV_at (j:=x.a.toNat) (by omega) (by omega)]
  exact hf.k1 _ _ _ _ _ _ _ hk
 ·have:=h1 (by omega)
  have:=h2 (by omega)
  rw[eV_at (j:=x.a.toNat) (by omega) (by omega),eV_at (j:=x.b.toNat) (by omega) (by omega)]
end
structure SB (B:uQ):Prop where
 hB:RBI B
 kn:∀ e∈B.kn,B.tm.getD e.2.toNat tz=⟨e.1.1,e.1.2.1,e.1.2.2,zr⟩
 os:∀ e∈B.os,∃ q:Rat,QL q 1048576/\e.1=txQ q/\B.tm.getD e.2.toNat tz=⟨0,0,0,jM q⟩
 us:∀ j,j<B.tm.length->B.us.getD j 0=gN B.us (B.tm.getD j tz)
 kd:∀ j,j<B.tm.length->0<=kZ (B.tm.getD j tz).op
def Ext(B B':uQ):Prop:=∃ l m,B'.tm=B.tm++l/\B'.us=B.us++m
theorem Ext.refl(B:uQ):Ext B B:=⟨[],[],by simp,by simp⟩
theorem Ext.trans{A B C:uQ}(h:Ext A B)(k:Ext B C):Ext A C:=by
 obtain ⟨l,m,h1,h2⟩:=h
 obtain ⟨l',m',k1,k2⟩:=k
 exact ⟨l++l',m++m',by rw[k1,h1,List.append_assoc],by rw[k2,h2,List.append_assoc]⟩
theorem Ext.len{B B':uQ}(h:Ext B B'):B.tm.length<=B'.tm.length:=by obtain ⟨l,m,h1,_⟩:=h;rw[h1,List.length_append];omega
theorem Ext.ix{B B':uQ}(h:Ext B B'){i:Int}(hi:gX B i):gX B' i:=hi.up h.len
theorem gU{α:Type}{l m:List α}{d:α}{j:Nat}(h:j<l.length):(l++m).getD j d=l.getD j d:=by
 rw[List.getD_eq_getElem?_getD,List.getElem?_append_left h,<- List.getD_eq_getElem?_getD]
theorem Ext.nd{B B':uQ}(h:Ext B B'){j:Nat}(hj:j<B.tm.length):B'.tm.getD j tz=B.tm.getD j tz:=by obtain ⟨l,m,h1,_⟩:=h;rw[h1];exact gU hj
theorem Ext.usz{B B':uQ}(h:Ext B B'){j:Nat}(hj:j<B.us.length):B'.us.getD j 0=B.us.getD j 0:=by obtain ⟨l,m,_,h1⟩:=h;rw[h1];exact gU hj
theorem Ext.ev{A:Type}{d:A}{f:Nf A}{B B':uQ}(h:Ext B B'){j:Nat}(hj:j<B.tm.length):eV d f B'.tm j=eV d f B.tm j:=by obtain ⟨l,m,h1,_⟩:=h;rw[h1];exact eV_app hj
structure Got (B B':uQ) (r:Int) (x:jO):Prop where
 sb:SB B'
 ext:Ext B B'
 ix:gX B' r
 nd:B'.tm.getD r.toNat tz=x
theorem szN_app{ss m:List Int}{x:jO}{j:Nat}(hk:0<=kZ x.op)(ho:eP x j)(hj:j<=ss.length):gN (ss++m) x=gN ss x:=by
 obtain ⟨h1,h2⟩:=ho
 rcases xS x.op with ⟨e,f⟩ | ⟨e,f⟩ | ⟨e,f⟩ | ⟨e,f1,f2,f3⟩
 ·unfold gN;rw[if_pos e,if_pos e]
 ·have h:=h1 (by omega)
  have ea:(ss++m).getD x.a.toNat 0=ss.getD x.a.toNat 0:=gU (by omega)
  have e0:¬ kZ x.op=0:=by omega
  unfold gN
  simp only[ea,if_neg e0]
  rcases f with f | f
  ·simp only[if_pos f]
  ·simp only[if_pos f]
 ·have h:=h1 (by omega)
  have h':=h2 (by omega)
  have ea:(ss++m).getD x.a.toNat 0=ss.getD x.a.toNat 0:=gU (by omega)
  have eb:(ss++m).getD x.b.toNat 0=ss.getD x.b.toNat 0:=gU (by omega)
  unfold gN
  rw[ea,eb]
 ·omega
theorem bAdd_got{B:uQ}{x:jO}{s:Int}(hS:SB B)(hq:yX x.n (vC x.n) 1048576)(ho:eP x B.tm.length)(hk:0<=kZ x.op)(h1:1<=s)(hs:s=gN B.us x)(hov:(qQ B x s).1.ov=false):B.ov=false/\s<=4096/\B.tm.length<400/\qQ B x s=(uQ.mk (B.tm++[x]) B.kn B.os (B.us++[s]) B.ov,((B.tm.length:Nat):Int))/\Got B (qQ B x s).1 (qQ B x s).2 x:=by
 cases hc:(decide (4096<s)||decide (((400:Nat):Int)<=((B.tm.length:Nat):Int))) with
 |true=>rw[bAdd_t hc] at hov;cases hov
 |false=>
  have e:=bAdd_f (x:=x) hc
  rw[Bool.or_eq_false_iff,decide_eq_false_iff_not,decide_eq_false_iff_not] at hc
  rw[e] at hov
  refine ⟨hov,by omega,by omega,e,?_⟩
  have hok:=bAdd_ok (x:=x) (z:=s) hS.hB hq ho h1 (fun h=>by omega)
  rw[e] at hok ⊢
  have hu:=hS.hB.hu
  have hx:Ext B (uQ.mk (B.tm++[x]) B.kn B.os (B.us++[s]) B.ov):=⟨[x],[s],rfl,rfl⟩
  refine ⟨⟨hok.1,fun e he=>?_,fun e he=>?_,fun j hj=>?_,fun j hj=>?_⟩,hx,hok.2.1,?_⟩
  ·have:=hS.hB.hk e he
   exact (hx.nd (j:=e.2.toNat) (by omega)).trans (hS.kn e he)
  ·obtain ⟨q,q0,q1,q2⟩:=hS.os e he
   have:=hS.hB.hos e he
   exact ⟨q,q0,q1,(hx.nd (j:=e.2.toNat) (by omega)).trans q2⟩
  ·have hj:j<(B.tm++[x]).length:=hj
   rw[List.length_append,List.length_singleton] at hj
   show (B.us++[s]).getD j 0=gN (B.us++[s]) ((B.tm++[x]).getD j tz)
   rcases Nat.lt_or_ge j B.tm.length with hl | hl
   ·rw[gU (by omega),gU hl,szN_app (hS.kd j hl) (hS.hB.ho j hl) (by omega)];exact hS.us j hl
   ·obtain rfl:j=B.tm.length:=by omega
    rw[uO,if_neg (by omega),if_pos hu.symm,uO,if_neg (by omega),if_pos rfl,szN_app hk ho (by omega)];exact hs
  ·have hj:j<(B.tm++[x]).length:=hj
   rw[List.length_append,List.length_singleton] at hj
   show 0<=kZ ((B.tm++[x]).getD j tz).op
   rcases Nat.lt_or_ge j B.tm.length with hl | hl
   ·rw[gU hl];exact hS.kd j hl
   ·obtain rfl:j=B.tm.length:=by omega
    rw[uO,if_neg (by omega),if_pos rfl];exact hk
  ·show (B.tm++[x]).getD ((B.tm.length:Nat):Int).toNat tz=x
   rw[Int.toNat_natCast,uO,if_neg (by omega),if_pos rfl]
theorem bSz_szN{B:uQ}{o i k:Int}(h1:1<=o)(h7:o<=7):bSz B o i k=gN B.us ⟨o,i,k,zr⟩:=by
 unfold bSz gN
 have hc:o=1\/o=2\/o=3\/o=4\/o=5\/o=6\/o=7:=by omega
 rcases hc with rfl | rfl | rfl | rfl | rfl | rfl | rfl<;>rfl
theorem NdAr.rng{B:uQ}{o i k:Int}(h:NdAr B o i k):1<=o/\o<=7:=by
 rcases h with ⟨rfl,_⟩ | ⟨h1,h2,_⟩<;>omega
theorem kd_nn{o:Int}(h0:0<=o)(h7:o<=7):0<=kZ o:=by
 have hc:o=0\/o=1\/o=2\/o=3\/o=4\/o=5\/o=6\/o=7:=by omega
 rcases hc with rfl | rfl | rfl | rfl | rfl | rfl | rfl | rfl<;>decide
theorem bX{B:uQ}{o i k:Int}(hS:SB B)(h:NdAr B o i k)(hov:(jJ B o i k).1.ov=false):B.ov=false/\Got B (jJ B o i k).1 (jJ B o i k).2 ⟨o,i,k,zr⟩:=by
 cases hg:(xF B.kn (o,i,k)) with
 |some v=>
  have e:=iK (B:=B) (o:=o) (i:=i) (k:=k) (by rw[hg];rfl)
  rw[hg] at e
  rw[e] at hov ⊢
  have hm:=getK_mem hg
  exact ⟨hov,hS,.refl B,hS.hB.hk _ hm,hS.kn _ hm⟩
 |none=>
  cases hb:B.ov with
  |true=>
   have e:=iK (B:=B) (o:=o) (i:=i) (k:=k) (by rw[hg,hb];rfl)
   rw[e] at hov
   exact absurd (hb.symm.trans hov) (by decide)
  |false=>
   have e:=bNode_f (B:=B) (o:=o) (i:=i) (k:=k) (by rw[hg,hb];rfl) rfl
   obtain ⟨r1,r7⟩:=h.rng
   rw[e] at hov ⊢
   obtain ⟨_,s1,s2,s3,g⟩:=bAdd_got (x:=⟨o,i,k,zr⟩) (s:=bSz B o i k) hS qok_zr h.ord (kd_nn (o:=o) (by omega) r7) (h.sz hS.hB).1 (bSz_szN r1 r7) hov
   refine ⟨rfl,⟨⟨g.sb.hB.hl,g.sb.hB.hu,g.sb.hB.hs,g.sb.hB.hq,g.sb.hB.ho,fun y hy=>?_,g.sb.hB.hos⟩,fun y hy=>?_,g.sb.os,g.sb.us,g.sb.kd⟩,g.ext,g.ix,g.nd⟩
   ·have hy:y∈(qQ B ⟨o,i,k,zr⟩ (bSz B o i k)).1.kn++[((o,i,k),(qQ B ⟨o,i,k,zr⟩ (bSz B o i k)).2)]:=hy
    rw[List.mem_append,List.mem_singleton] at hy
    rcases hy with hy | rfl
    ·exact g.sb.hB.hk y hy
    ·exact g.ix
   ·have hy:y∈(qQ B ⟨o,i,k,zr⟩ (bSz B o i k)).1.kn++[((o,i,k),(qQ B ⟨o,i,k,zr⟩ (bSz B o i k)).2)]:=hy
    rw[List.mem_append,List.mem_singleton] at hy
    rcases hy with hy | rfl
    ·exact g.sb.kn y hy
    ·exact g.nd
def TxI:Prop:=∀ p q:Rat,QL p 1048576->QL q 1048576->txQ p=txQ q->p=q
theorem bS(hT:TxI){B:uQ}{q:Rat}(hS:SB B)(hq:QL q 1048576)(hov:(vN B q).1.ov=false):B.ov=false/\Got B (vN B q).1 (vN B q).2 ⟨0,0,0,jM q⟩:=by
 cases hg:xF B.os (txQ q) with
 |some v=>
  have e:=bNum_t (B:=B) (q:=q) (by rw[hg];rfl)
  rw[hg] at e
  rw[e] at hov ⊢
  have hm:=getK_mem hg
  obtain ⟨p,p0,p1,p2⟩:=hS.os _ hm
  obtain rfl:=hT q p hq p0 p1
  exact ⟨hov,hS,.refl B,hS.hB.hos _ hm,p2⟩
 |none=>
  have e:=bNum_f (B:=B) (q:=q) (by rw[hg];rfl)
  rw[e] at hov ⊢
  obtain ⟨hb,s1,s2,s3,g⟩:=bAdd_got (x:=⟨0,0,0,jM q⟩) (s:=1) hS (qX (kC hq)) ⟨fun h=>absurd h (show ¬ 0<kZ 0 by decide),fun h=>absurd h (show ¬ 1<kZ 0 by decide)⟩ (show 0<=kZ 0 by decide) (by decide) rfl hov
  refine ⟨hb,⟨⟨g.sb.hB.hl,g.sb.hB.hu,g.sb.hB.hs,g.sb.hB.hq,g.sb.hB.ho,g.sb.hB.hk,fun y hy=>?_⟩,g.sb.kn,fun y hy=>?_,g.sb.us,g.sb.kd⟩,g.ext,g.ix,g.nd⟩
  ·have hy:y∈(qQ B ⟨0,0,0,jM q⟩ 1).1.os++[(txQ q,(qQ B ⟨0,0,0,jM q⟩ 1).2)]:=hy
   rw[List.mem_append,List.mem_singleton] at hy
   rcases hy with hy | rfl
   ·exact g.sb.hB.hos y hy
   ·exact g.ix
  ·have hy:y∈(qQ B ⟨0,0,0,jM q⟩ 1).1.os++[(txQ q,(qQ B ⟨0,0,0,jM q⟩ 1).2)]:=hy
   rw[List.mem_append,List.mem_singleton] at hy
   rcases hy with hy | rfl
   ·exact g.sb.os y hy
   ·exact ⟨q,hq,rfl,g.nd⟩
theorem bAdd_ov{B:uQ}{x:jO}{s:Int}(h:(qQ B x s).1.ov=false):B.ov=false:=by
 unfold qQ at h
 split at h
 ·cases h
 ·exact h
theorem yN{B:uQ}{o i k:Int}(h:(jJ B o i k).1.ov=false):B.ov=false:=by
 unfold jJ at h
 split at h
 ·exact h
 ·split at h
  ·exact h
  ·exact bAdd_ov (x:=⟨o,i,k,zr⟩) (s:=bSz B o i k) h
theorem bNum_ov{B:uQ}{q:Rat}(h:(vN B q).1.ov=false):B.ov=false:=by
 unfold vN at h
 split at h
 ·exact h
 ·exact bAdd_ov (x:=⟨0,0,0,jM q⟩) (s:=1) h
theorem bSum_ov{B:uQ}{i k:Int}(h:(yU B i k).1.ov=false):B.ov=false:=by
 unfold yU at h
 split at h
 ·exact h
 ·split at h
  ·exact h
  ·exact yN h
theorem iT{B:uQ}{i k:Int}(h:(qU B i k).1.ov=false):B.ov=false:=by
 unfold qU at h
 split at h
 ·exact h
 ·split at h
  ·exact yN h
  ·exact yN h
theorem mK{B:uQ}{i k:Int}(h:(jX B i k).1.ov=false):B.ov=false:=by
 unfold jX at h
 split at h
 ·exact h
 ·split at h
  ·exact h
  ·exact yN h
structure Alg (A:Type) (d:A) (f:Nf A):Prop where
 ok:NfOk f
 c:∀ (a a':Int) (p q:kT),vC p=vC q->f 0 a d d p=f 0 a' d d q
 a0:∀ x n,f 2 0 (f 0 0 d d (jM 0)) x n=x
 a1:∀ x n,f 2 0 x (f 0 0 d d (jM 0)) n=x
 s0:∀ x n,f 3 0 x (f 0 0 d d (jM 0)) n=x
 s1:∀ x n,f 3 0 (f 0 0 d d (jM 0)) x n=f 6 0 x d n
 m0:∀ x n,f 4 0 (f 0 0 d d (jM 0)) x n=f 0 0 d d (jM 0)
 m1:∀ x n,f 4 0 x (f 0 0 d d (jM 0)) n=f 0 0 d d (jM 0)
 u0:∀ x n,f 4 0 (f 0 0 d d (jM 1)) x n=x
 u1:∀ x n,f 4 0 x (f 0 0 d d (jM 1)) n=x
 d0:∀ x n,f 5 0 (f 0 0 d d (jM 0)) x n=f 0 0 d d (jM 0)
section
variable {A:Type} {d:A} {f:Nf A}
structure Wth (d:A) (f:Nf A) (B B':uQ) (r:Int) (a:A):Prop where
 sb:SB B'
 ext:Ext B B'
 ix:gX B' r
 ev:eV d f B'.tm r.toNat=a
theorem Got.ev(hf:NfOk f){B B':uQ}{r:Int}{x:jO}(g:Got B B' r x):eV d f B'.tm r.toNat=f x.op x.a (eV d f B'.tm x.a.toNat) (eV d f B'.tm x.b.toNat) x.n:=by
 have h:=g.ix
 have e:=eV_node (d:=d) hf (t:=B'.tm) (j:=r.toNat) (by have:=h.1;have:=h.2;omega) (g.sb.hB.ho _ (by have:=h.1;have:=h.2;omega))
 rw[g.nd] at e
 exact e
theorem qO{B:uQ}{i:Int}(h:gX B i):i.toNat<B.tm.length:=by have:=h.1;have:=h.2;omega
theorem mL(hA:Alg A d f){B:uQ}{o i k:Int}(hS:SB B)(h2:2<=o)(h7:o<=7)(hi:gX B i)(hk:gX B k)(hov:(jJ B o i k).1.ov=false):B.ov=false/\Wth d f B (jJ B o i k).1 (jJ B o i k).2 (f o 0 (eV d f B.tm i.toNat) (eV d f B.tm k.toNat) zr):=by
 obtain ⟨hb,g⟩:=bX hS (.inr ⟨h2,h7,hi,hk⟩) hov
 refine ⟨hb,g.sb,g.ext,g.ix,?_⟩
 rw[g.ev hA.ok]
 dsimp only
 rw[g.ext.ev (qO hi),g.ext.ev (qO hk)]
 rcases fC o with e | e | e
 ·have hc:o=2\/o=3\/o=4\/o=5\/o=6\/o=7:=by omega
  rcases hc with rfl | rfl | rfl | rfl | rfl | rfl<;>exact absurd e (by decide)
 ·exact hA.ok.k1 _ _ _ _ _ _ _ e
 ·exact hA.ok.k2 _ _ _ _ _ _ e
theorem iS(hA:Alg A d f){B:uQ}{i n:Int}(hS:SB B)(hi:gX B i)(h:bIs B i n=true):eV d f B.tm i.toNat=f 0 0 d d (jM (n:Rat)):=by
 unfold bIs at h
 rw[Bool.and_eq_true,Bool.and_eq_true,decide_eq_true_eq,beq_iff_eq,beq_iff_eq] at h
 obtain ⟨⟨_,h1⟩,h2⟩:=h
 rw[eV_node hA.ok (qO hi) (hS.hB.ho _ (qO hi)),h1]
 exact (hA.ok.k0 0 _ _ _ d d _ (by decide)).trans (hA.c _ _ _ _ (by rw[cmpQ_eq.1 h2,nI]))
theorem Wth.self{B:uQ}{i:Int}(hS:SB B)(hi:gX B i):Wth d f B B i (eV d f B.tm i.toNat):=⟨hS,.refl B,hi,rfl⟩
theorem Wth.to{B B':uQ}{r:Int}{a b:A}(h:Wth d f B B' r a)(e:a=b):Wth d f B B' r b:=e▸h
theorem bSum_wth(hA:Alg A d f){B:uQ}{i k:Int}(hS:SB B)(hi:gX B i)(hk:gX B k)(hov:(yU B i k).1.ov=false):B.ov=false/\Wth d f B (yU B i k).1 (yU B i k).2 (f 2 0 (eV d f B.tm i.toNat) (eV d f B.tm k.toNat) zr):=by
 cases h1:bIs B i 0 with
 |true=>
  rw[bSum_1 h1] at hov ⊢
  exact ⟨hov,(Wth.self hS hk).to (by rw[iS hA hS hi h1];exact (hA.a0 _ _).symm)⟩
 |false=>
  cases h2:bIs B k 0 with
  |true=>
   rw[bSum_2 h1 h2] at hov ⊢
   exact ⟨hov,(Wth.self hS hi).to (by rw[iS hA hS hk h2];exact (hA.a1 _ _).symm)⟩
  |false=>
   rw[bSum_3 h1 h2] at hov ⊢
   exact mL hA hS (by decide) (by decide) hi hk hov
theorem bDif_wth(hA:Alg A d f){B:uQ}{i k:Int}(hS:SB B)(hi:gX B i)(hk:gX B k)(hov:(qU B i k).1.ov=false):B.ov=false/\Wth d f B (qU B i k).1 (qU B i k).2 (f 3 0 (eV d f B.tm i.toNat) (eV d f B.tm k.toNat) zr):=by
 cases h1:bIs B k 0 with
 |true=>
  rw[bDif_1 h1] at hov ⊢
  exact ⟨hov,(Wth.self hS hi).to (by rw[iS hA hS hk h1];exact (hA.s0 _ _).symm)⟩
 |false=>
  cases h2:bIs B i 0 with
  |true=>
   rw[bDif_2 h1 h2] at hov ⊢
   obtain ⟨hb,w⟩:=mL hA hS (by decide) (by decide) hk hk.pos hov
   exact ⟨hb,w.to (by rw[iS hA hS hi h2];exact (hA.ok.k1 6 0 0 _ _ d _ (by decide)).trans (hA.s1 _ _).symm)⟩
  |false=>
   rw[bDif_3 h1 h2] at hov ⊢
   exact mL hA hS (by decide) (by decide) hi hk hov
theorem iG(hA:Alg A d f){B:uQ}{i k:Int}(hS:SB B)(hi:gX B i)(hk:gX B k)(hov:(jX B i k).1.ov=false):B.ov=false/\Wth d f B (jX B i k).1 (jX B i k).2 (f 4 0 (eV d f B.tm i.toNat) (eV d f B.tm k.toNat) zr):=by
 cases h1:(bIs B i 0||bIs B k 1) with
 |true=>
  rw[bPrd_1 h1] at hov ⊢
  refine ⟨hov,(Wth.self hS hi).to ?_⟩
  rw[Bool.or_eq_true] at h1
  rcases h1 with h1 | h1
  ·rw[iS hA hS hi h1];exact (hA.m0 _ _).symm
  ·rw[iS hA hS hk h1];exact (hA.u1 _ _).symm
 |false=>
  cases h2:(bIs B k 0||bIs B i 1) with
  |true=>
   rw[bPrd_2 h1 h2] at hov ⊢
   refine ⟨hov,(Wth.self hS hk).to ?_⟩
   rw[Bool.or_eq_true] at h2
   rcases h2 with h2 | h2
   ·rw[iS hA hS hk h2];exact (hA.m1 _ _).symm
   ·rw[iS hA hS hi h2];exact (hA.u0 _ _).symm
  |false=>
   rw[bPrd_3 h1 h2] at hov ⊢
   exact mL hA hS (by decide) (by decide) hi hk hov
def dfN(d:A)(f:Nf A)(i:Int)(x:jO)(va vb da db q:A):A :=
 if x.op=0 then f 0 0 d d (jM ((0:Int):Rat))
 else if x.op=1 then (if x.a=i then f 0 0 d d (jM ((1:Int):Rat)) else f 0 0 d d (jM ((0:Int):Rat)))
 else if x.op=6 then f 3 0 (f 0 0 d d (jM ((0:Int):Rat))) da zr
 else if x.op=7 then f 4 0 (f 0 0 d d (jM ((2:Int):Rat))) (f 4 0 va da zr) zr
 else if x.op=2 then f 2 0 da db zr
 else if x.op=3 then f 3 0 da db zr
 else if x.op=4 then f 2 0 (f 4 0 va db zr) (f 4 0 vb da zr) zr
 else f 5 0 (f 3 0 da (f 4 0 q db zr) zr) vb zr
theorem Wth.up{B B' B2:uQ}{r:Int}{a:A}(w:Wth d f B B' r a)(h:Ext B2 B):Wth d f B2 B' r a:=⟨w.sb,h.trans w.ext,w.ix,w.ev⟩
structure Wt2 (d:A) (f:Nf A) (B:uQ) (r:uQ × Int × Int) (a b:A):Prop where
 sb:SB r.1
 ext:Ext B r.1
 i1:gX r.1 r.2.1
 i2:gX r.1 r.2.2
 e1:eV d f r.1.tm r.2.1.toNat=a
 e2:eV d f r.1.tm r.2.2.toNat=b
theorem wt2{B B1 B2:uQ}{r u:Int}{a b:A}(w:Wth d f B B1 r a)(w2:Wth d f B1 B2 u b):Wt2 d f B (B2,r,u) a b :=
 ⟨w2.sb,w.ext.trans w2.ext,w2.ext.ix w.ix,w2.ix,(w2.ext.ev (qO w.ix)).trans w.ev,w2.ev⟩
theorem Wth.keep{B B1:uQ}{r j:Int}{a:A}(w:Wth d f B B1 r a)(hj:gX B j):Wth d f B1 B1 j (eV d f B.tm j.toNat):=⟨w.sb,.refl _,w.ext.ix hj,w.ext.ev (qO hj)⟩
theorem val_eq(hA:Alg A d f){x:jO}(h:x.op≠0)(hk:0<kZ x.op)(u v:A):f x.op 0 u v zr=f x.op x.a u v x.n:=by
 rw[hA.ok.n0 _ _ _ _ zr x.n h]
 rcases fC x.op with e | e | e
 ·omega
 ·exact hA.ok.k1 _ _ _ _ _ _ _ e
 ·exact hA.ok.k2 _ _ _ _ _ _ e
theorem dNd_wth(hA:Alg A d f)(hT:TxI){i z o:Int}{k:Nat}{B:uQ}{V S:List Int}{x:jO}(hS:SB B)(h:DPre k z o B V S x)
  (hz:eV d f B.tm z.toNat=f 0 0 d d (jM ((0:Int):Rat))) (ho:eV d f B.tm o.toNat=f 0 0 d d (jM ((1:Int):Rat))) (hov:(aV i z o B V S x).1.ov=false) :
  B.ov=false/\Wt2 d f B (aV i z o B V S x) (f x.op x.a (eV d f B.tm (gI V x.a).toNat) (eV d f B.tm (gI V x.b).toNat) x.n)
   (dfN d f i x (eV d f B.tm (gI V x.a).toNat) (eV d f B.tm (gI V x.b).toNat) (eV d f B.tm (gI S x.a).toNat) (eV d f B.tm (gI S x.b).toNat) (f x.op x.a (eV d f B.tm (gI V x.a).toNat) (eV d f B.tm (gI V x.b).toNat) x.n)):=by
 have h0:=h.op0;have h7:=h.op7
 have hc:x.op=0\/x.op=1\/x.op=2\/x.op=3\/x.op=4\/x.op=5\/x.op=6\/x.op=7:=by omega
 have k1:x.op=2\/x.op=3\/x.op=4\/x.op=5\/x.op=6\/x.op=7->0<kZ x.op:=fun e=>by rcases e with e | e | e | e | e | e<;>rw[e]<;>decide
 have k2:x.op=2\/x.op=3\/x.op=4\/x.op=5->1<kZ x.op:=fun e=>by rcases e with e | e | e | e<;>rw[e]<;>decide
 rcases hc with e | e | e | e | e | e | e | e
 ·rw[dNd_0 e] at hov ⊢
  obtain ⟨hb,g⟩:=bS hT hS (h.num e) hov
  refine ⟨hb,g.sb,g.ext,g.ix,g.ext.ix h.hz,?_,?_⟩
  ·dsimp only
   rw[g.ev hA.ok];dsimp only
   rw[e]
   exact (hA.ok.k0 0 _ _ _ d d _ (by decide)).trans ((hA.c _ x.a _ x.n (nI _)).trans (hA.ok.k0 0 _ _ _ _ _ _ (by decide)))
  ·dsimp only
   rw[g.ext.ev (qO h.hz),hz];exact (if_pos e).symm
 ·rw[dNd_1 e] at hov ⊢
  obtain ⟨hb,g⟩:=bX hS (.inl ⟨rfl,rfl,by have:=qO h.hz;omega⟩) hov
  have hzo:gX B (if x.a=i then o else z):=by split;exact h.ho;exact h.hz
  refine ⟨hb,g.sb,g.ext,g.ix,g.ext.ix hzo,?_,?_⟩
  ·dsimp only
   rw[g.ev hA.ok];dsimp only
   rw[e,hA.ok.n0 1 x.a _ _ zr x.n (by decide)]
   exact hA.ok.k0 1 _ _ _ _ _ _ (by decide)
  ·dsimp only
   rw[g.ext.ev (qO hzo)]
   have e2:∀ va vb da db q:A,dfN d f i x va vb da db q=if x.a=i then f 0 0 d d (jM ((1:Int):Rat)) else f 0 0 d d (jM ((0:Int):Rat)):=fun va vb da db q=>by
    unfold dfN;rw[if_neg (show ¬ x.op=0 by omega),if_pos e]
   rw[e2]
   by_cases hi:x.a=i
   ·rw[if_pos hi,if_pos hi];exact ho
   ·rw[if_neg hi,if_neg hi];exact hz
 ·have va:=h.va (k1 (.inl e));have vb:=h.vb (k2 (.inl e));have sa:=h.sa (k1 (.inl e));have sb:=h.sb (k2 (.inl e))
  rw[dNd_2 e] at hov ⊢
  have o1:=bSum_ov hov
  obtain ⟨hb,w⟩:=mL (d:=d) (f:=f) hA hS (by decide) (by decide) va vb o1
  obtain ⟨_,w2⟩:=bSum_wth (d:=d) (f:=f) hA w.sb (w.ext.ix sa) (w.ext.ix sb) hov
  refine ⟨hb,wt2 (w.to ?_) (w2.to ?_)⟩
  ·have e3:=val_eq hA (x:=x) (by omega) (k1 (.inl e)) (eV d f B.tm (gI V x.a).toNat) (eV d f B.tm (gI V x.b).toNat)
   rw[<- e3,e]
  ·rw[w.ext.ev (qO sa),w.ext.ev (qO sb)]
   unfold dfN;simp only[e];rfl
 ·have va:=h.va (k1 (.inr (.inl e)));have vb:=h.vb (k2 (.inr (.inl e)));have sa:=h.sa (k1 (.inr (.inl e)));have sb:=h.sb (k2 (.inr (.inl e)))
  rw[dNd_3 e] at hov ⊢
  have o1:=iT hov
  obtain ⟨hb,w⟩:=mL (d:=d) (f:=f) hA hS (by decide) (by decide) va vb o1
  obtain ⟨_,w2⟩:=bDif_wth (d:=d) (f:=f) hA w.sb (w.ext.ix sa) (w.ext.ix sb) hov
  refine ⟨hb,wt2 (w.to ?_) (w2.to ?_)⟩
  ·have e3:=val_eq hA (x:=x) (by omega) (k1 (.inr (.inl e))) (eV d f B.tm (gI V x.a).toNat) (eV d f B.tm (gI V x.b).toNat)
   rw[<- e3,e]
  ·rw[w.ext.ev (qO sa),w.ext.ev (qO sb)]
   unfold dfN;simp only[e];rfl
 ·have va:=h.va (k1 (.inr (.inr (.inl e))));have vb:=h.vb (k2 (.inr (.inr (.inl e))));have sa:=h.sa (k1 (.inr (.inr (.inl e))));have sb:=h.sb (k2 (.inr (.inr (.inl e))))
  rw[dNd_4 e] at hov ⊢
  have o3:=bSum_ov hov
  have o2:=mK o3
  have o1:=mK o2
  obtain ⟨hb,w⟩:=mL (d:=d) (f:=f) hA hS (by decide) (by decide) va vb o1
  obtain ⟨_,w2⟩:=iG (d:=d) (f:=f) hA w.sb (w.ext.ix va) (w.ext.ix sb) o2
  obtain ⟨_,w3⟩:=iG (d:=d) (f:=f) hA w2.sb (w2.ext.ix (w.ext.ix vb)) (w2.ext.ix (w.ext.ix sa)) o3
  obtain ⟨_,w4⟩:=bSum_wth (d:=d) (f:=f) hA w3.sb (w3.ext.ix w2.ix) w3.ix hov
  refine ⟨hb,wt2 (w.to ?_) ((w4.up (w2.ext.trans w3.ext)).to ?_)⟩
  ·have e3:=val_eq hA (x:=x) (by omega) (k1 (.inr (.inr (.inl e)))) (eV d f B.tm (gI V x.a).toNat) (eV d f B.tm (gI V x.b).toNat)
   rw[<- e3,e]
  ·rw[w3.ext.ev (qO w2.ix),w2.ev,w3.ev,w2.ext.ev (qO (w.ext.ix vb)),w2.ext.ev (qO (w.ext.ix sa)),w.ext.ev (qO va),w.ext.ev (qO vb),w.ext.ev (qO sa),w.ext.ev (qO sb)]
   unfold dfN;simp only[e];rfl
 ·have k5:=k1 (.inr (.inr (.inr (.inl e))));have k6:=k2 (.inr (.inr (.inr e)))
  have va:=h.va k5;have vb:=h.vb k6;have sa:=h.sa k5;have sb:=h.sb k6
  have e3:=val_eq hA (x:=x) (by omega) k5 (eV d f B.tm (gI V x.a).toNat) (eV d f B.tm (gI V x.b).toNat)
  have e3:f 5 0 (eV d f B.tm (gI V x.a).toNat) (eV d f B.tm (gI V x.b).toNat) zr=f x.op x.a (eV d f B.tm (gI V x.a).toNat) (eV d f B.tm (gI V x.b).toNat) x.n:=by rw[<- e3,e]
  have fin:∀ (hd:(qU (jX (jJ B 5 (gI V x.a) (gI V x.b)).1 (jJ B 5 (gI V x.a) (gI V x.b)).2 (gI S x.b)).1 (gI S x.a) (jX (jJ B 5 (gI V x.a) (gI V x.b)).1 (jJ B 5 (gI V x.a) (gI V x.b)).2 (gI S x.b)).2).1.ov=false),
    B.ov=false/\Wth d f B (jJ B 5 (gI V x.a) (gI V x.b)).1 (jJ B 5 (gI V x.a) (gI V x.b)).2 (f x.op x.a (eV d f B.tm (gI V x.a).toNat) (eV d f B.tm (gI V x.b).toNat) x.n)/\Wth d f (jJ B 5 (gI V x.a) (gI V x.b)).1 (qU (jX (jJ B 5 (gI V x.a) (gI V x.b)).1 (jJ B 5 (gI V x.a) (gI V x.b)).2 (gI S x.b)).1 (gI S x.a) (jX (jJ B 5 (gI V x.a) (gI V x.b)).1 (jJ B 5 (gI V x.a) (gI V x.b)).2 (gI S x.b)).2).1 (qU (jX (jJ B 5 (gI V x.a) (gI V x.b)).1 (jJ B 5 (gI V x.a) (gI V x.b)).2 (gI S x.b)).1 (gI S x.a) (jX (jJ B 5 (gI V x.a) (gI V x.b)).1 (jJ B 5 (gI V x.a) (gI V x.b)).2 (gI S x.b)).2).2 (f 3 0 (eV d f B.tm (gI S x.a).toNat) (f 4 0 (f x.op x.a (eV d f B.tm (gI V x.a).toNat) (eV d f B.tm (gI V x.b).toNat) x.n) (eV d f B.tm (gI S x.b).toNat) zr) zr):=fun hd=>by
   have o2:=iT hd
   have o1:=mK o2
   obtain ⟨hb,w⟩:=mL (d:=d) (f:=f) hA hS (by decide) (by decide) va vb o1
   obtain ⟨_,w2⟩:=iG (d:=d) (f:=f) hA w.sb w.ix (w.ext.ix sb) o2
   obtain ⟨_,w3⟩:=bDif_wth (d:=d) (f:=f) hA w2.sb (w2.ext.ix (w.ext.ix sa)) w2.ix hd
   refine ⟨hb,w.to e3,(w3.up w2.ext).to ?_⟩
   rw[w2.ext.ev (qO (w.ext.ix sa)),w2.ev,w.ev,w.ext.ev (qO sa),w.ext.ev (qO sb),e3]
  cases hzz:bIs (qU (jX (jJ B 5 (gI V x.a) (gI V x.b)).1 (jJ B 5 (gI V x.a) (gI V x.b)).2 (gI S x.b)).1 (gI S x.a) (jX (jJ B 5 (gI V x.a) (gI V x.b)).1 (jJ B 5 (gI V x.a) (gI V x.b)).2 (gI S x.b)).2).1 (qU (jX (jJ B 5 (gI V x.a) (gI V x.b)).1 (jJ B 5 (gI V x.a) (gI V x.b)).2 (gI S x.b)).1 (gI S x.a) (jX (jJ B 5 (gI V x.a) (gI V x.b)).1 (jJ B 5 (gI V x.a) (gI V x.b)).2 (gI S x.b)).2).2 0 with
  |true=>
   rw[dNd_5z e.symm hzz] at hov ⊢
   obtain ⟨hb,w,w3⟩:=fin hov
   have hz2:=iS hA w3.sb w3.ix hzz
   rw[w3.ev] at hz2
   refine ⟨hb,wt2 w ((Wth.mk w3.sb w3.ext (w3.ext.ix (w.ext.ix h.hz)) rfl).to ?_)⟩
   rw[w3.ext.ev (qO (w.ext.ix h.hz)),w.ext.ev (qO h.hz),hz]
   unfold dfN;simp only[e]
   rw[e] at hz2
   show _=f 5 0 (f 3 0 _ (f 4 0 (f 5 x.a _ _ x.n) _ zr) zr) _ zr
   rw[hz2];exact (hA.d0 _ _).symm
  |false=>
   rw[dNd_5 e.symm hzz] at hov ⊢
   obtain ⟨hb,w,w3⟩:=fin (yN hov)
   obtain ⟨_,w4⟩:=mL (d:=d) (f:=f) hA w3.sb (by decide) (by decide) w3.ix (w3.ext.ix (w.ext.ix vb)) hov
   refine ⟨hb,wt2 w ((w4.up w3.ext).to ?_)⟩
   rw[w3.ev,w3.ext.ev (qO (w.ext.ix vb)),w.ext.ev (qO vb)]
   unfold dfN;simp only[e];rfl
 ·have k5:=k1 (.inr (.inr (.inr (.inr (.inl e)))))
  have va:=h.va k5;have sa:=h.sa k5
  rw[dNd_6 e] at hov ⊢
  have o1:=iT hov
  obtain ⟨hb,g⟩:=bX hS (.inr ⟨by decide,by decide,va,va.pos⟩) o1
  obtain ⟨_,w2⟩:=bDif_wth (d:=d) (f:=f) hA g.sb (g.ext.ix h.hz) (g.ext.ix sa) hov
  have w:Wth d f B (jJ B 6 (gI V x.a) 0).1 (jJ B 6 (gI V x.a) 0).2 (f x.op x.a (eV d f B.tm (gI V x.a).toNat) (eV d f B.tm (gI V x.b).toNat) x.n):=⟨g.sb,g.ext,g.ix,by
   rw[g.ev hA.ok];dsimp only
   rw[g.ext.ev (qO va),e,hA.ok.n0 6 _ _ _ zr x.n (by decide)]
   exact hA.ok.k1 6 _ _ _ _ _ _ (by decide)⟩
  refine ⟨hb,wt2 w (w2.to ?_)⟩
  rw[g.ext.ev (qO h.hz),g.ext.ev (qO sa),hz]
  unfold dfN;simp only[e];rfl
 ·have k5:=k1 (.inr (.inr (.inr (.inr (.inr e)))))
  have va:=h.va k5;have sa:=h.sa k5
  have w0:(jJ B 7 (gI V x.a) 0).1.ov=false->B.ov=false/\Wth d f B (jJ B 7 (gI V x.a) 0).1 (jJ B 7 (gI V x.a) 0).2 (f x.op x.a (eV d f B.tm (gI V x.a).toNat) (eV d f B.tm (gI V x.b).toNat) x.n):=fun o1=>by
   obtain ⟨hb,g⟩:=bX hS (.inr ⟨by decide,by decide,va,va.pos⟩) o1
   exact ⟨hb,g.sb,g.ext,g.ix,by
    rw[g.ev hA.ok];dsimp only
    rw[g.ext.ev (qO va),e,hA.ok.n0 7 _ _ _ zr x.n (by decide)]
    exact hA.ok.k1 7 _ _ _ _ _ _ (by decide)⟩
  by_cases hzz:(jX (jJ B 7 (gI V x.a) 0).1 (gI V x.a) (gI S x.a)).2=z
  ·rw[dNd_7z e hzz] at hov ⊢
   obtain ⟨hb,w⟩:=w0 (mK hov)
   obtain ⟨_,w2⟩:=iG (d:=d) (f:=f) hA w.sb (w.ext.ix va) (w.ext.ix sa) hov
   have e5:=w2.ev
   rw[hzz,w2.ext.ev (qO (w.ext.ix h.hz)),w.ext.ev (qO h.hz),hz,w.ext.ev (qO va),w.ext.ev (qO sa)] at e5
   refine ⟨hb,wt2 w ((Wth.mk w2.sb w2.ext (w2.ext.ix (w.ext.ix h.hz)) rfl).to ?_)⟩
   rw[w2.ext.ev (qO (w.ext.ix h.hz)),w.ext.ev (qO h.hz),hz]
   unfold dfN;simp only[e]
   show _=f 4 0 _ (f 4 0 _ _ zr) zr
   rw[<- e5];exact (hA.m1 _ _).symm
  ·rw[dNd_7 e hzz] at hov ⊢
   have o3:=mK hov
   have o2:=bNum_ov o3
   obtain ⟨hb,w⟩:=w0 (mK o2)
   obtain ⟨_,w2⟩:=iG (d:=d) (f:=f) hA w.sb (w.ext.ix va) (w.ext.ix sa) o2
   obtain ⟨_,g⟩:=bS hT w2.sb (ql_i (z:=2)) o3
   obtain ⟨_,w4⟩:=iG (d:=d) (f:=f) hA g.sb g.ix (g.ext.ix w2.ix) hov
   refine ⟨hb,wt2 w ((w4.up (w2.ext.trans g.ext)).to ?_)⟩
   rw[g.ev hA.ok,g.ext.ev (qO w2.ix),w2.ev,w.ext.ev (qO va),w.ext.ev (qO sa)]
   unfold dfN;simp only[e]
   show f 4 0 (f 0 0 _ _ _) _ zr=f 4 0 (f 0 0 d d _) (f 4 0 _ _ zr) zr
   rw[hA.ok.k0 0 0 _ _ d d _ (by decide)]
theorem dfN_congr{i:Int}{x:jO}{va vb da db q va' vb' da' db' q':A}(h1:0<kZ x.op->va=va'/\da=da')(h2:1<kZ x.op->vb=vb'/\db=db')(hq:q=q')(h0:0<=x.op)(h7:x.op<=7) :
  dfN d f i x va vb da db q=dfN d f i x va' vb' da' db' q':=by
 subst hq
 have hc:x.op=0\/x.op=1\/x.op=2\/x.op=3\/x.op=4\/x.op=5\/x.op=6\/x.op=7:=by omega
 rcases hc with e | e | e | e | e | e | e | e<;>rw[e] at h1 h2<;>unfold dfN<;>simp only[e]
 ·rfl
 ·rfl
 ·rw[(h1 (by decide)).2,(h2 (by decide)).2];rfl
 ·rw[(h1 (by decide)).2,(h2 (by decide)).2];rfl
 ·rw[(h1 (by decide)).1,(h1 (by decide)).2,(h2 (by decide)).1,(h2 (by decide)).2]
 ·rw[(h1 (by decide)).2,(h2 (by decide)).1,(h2 (by decide)).2];rfl
 ·rw[(h1 (by decide)).2];rfl
 ·rw[(h1 (by decide)).1,(h1 (by decide)).2];rfl
theorem nf_congr(hf:NfOk f){x:jO}{va vb va' vb':A}(h1:0<kZ x.op->va=va')(h2:1<kZ x.op->vb=vb'):f x.op x.a va vb x.n=f x.op x.a va' vb' x.n:=by
 rcases fC x.op with e | e | e
 ·exact hf.k0 _ _ _ _ _ _ _ e
 ·rw[h1 (by omega)];exact hf.k1 _ _ _ _ _ _ _ e
 ·rw[h1 (by omega),h2 (by omega)]
def iZ(d:A)(f:Nf A)(i:Int)(t:List jO):Nat->List A
 |0=>[]
 |k+1=>iZ d f i t k++[dfN d f i (t.getD k tz) ((cU d f t k).getD (t.getD k tz).a.toNat d) ((cU d f t k).getD (t.getD k tz).b.toNat d) ((iZ d f i t k).getD (t.getD k tz).a.toNat d) ((iZ d f i t k).getD (t.getD k tz).b.toNat d) (nfV d f (cU d f t k) (t.getD k tz))]
theorem dfU_len(i:Int)(t:List jO):∀ k,(iZ d f i t k).length=k
 |0=>rfl
 |k+1=>by rw[iZ,List.length_append,dfU_len i t k];rfl
structure DSem (d:A) (f:Nf A) (i:Int) (t:List jO) (k:Nat):Prop where
 sb:SB (dU i t k).1
 z:eV d f (dU i t k).1.tm gH.2.toNat=f 0 0 d d (jM ((0:Int):Rat))
 o:eV d f (dU i t k).1.tm dOn.2.toNat=f 0 0 d d (jM ((1:Int):Rat))
 v:∀ j,j<k->eV d f (dU i t k).1.tm ((dU i t k).2.1.getD j 0).toNat=(cU d f t k).getD j d
 s:∀ j,j<k->eV d f (dU i t k).1.tm ((dU i t k).2.2.getD j 0).toNat=(iZ d f i t k).getD j d
theorem sb0:SB rb0:=⟨rbi0,fun e h=>(by cases h),fun e h=>(by cases h),fun j h=>absurd h (Nat.not_lt_zero j),fun j h=>absurd h (Nat.not_lt_zero j)⟩
theorem dNd_ov{i z o:Int}{B:uQ}{V S:List Int}{x:jO}(h:(aV i z o B V S x).1.ov=false):B.ov=false:=by
 unfold aV at h
 split at h
 ·exact bNum_ov h
 split at h
 ·exact yN h
 split at h
 ·exact yN (iT h)
 split at h
 ·dsimp only at h
  split at h
  ·exact yN (mK h)
  ·exact yN (mK (bNum_ov (mK h)))
 split at h
 ·exact yN (bSum_ov h)
 split at h
 ·exact yN (iT h)
 split at h
 ·exact yN (mK (mK (bSum_ov h)))
 ·dsimp only at h
  split at h
  ·exact yN (mK (iT h))
  ·exact yN (mK (iT (yN h)))
theorem dU_sem(hA:Alg A d f)(hT:TxI){i n:Int}{t:List jO}(h0:zP n t=0)(hq:∀ x∈t,yX x.n (vC x.n) 1048576):∀ k,k<=t.length->(dU i t k).1.ov=false->DSem d f i t k
 |0,_,hov=>by
  have hov:dOn.1.ov=false:=hov
  obtain ⟨hz,_⟩:gH.1.ov=false/\True:=⟨bNum_ov hov,trivial⟩
  obtain ⟨_,g⟩:=bS hT sb0 (ql_i (z:=0)) hz
  obtain ⟨_,g2⟩:=bS hT g.sb (ql_i (z:=1)) hov
  have e1:eV d f gH.1.tm gH.2.toNat=f 0 0 d d (jM ((0:Int):Rat)):=by
   have:=g.ev (d:=d) hA.ok;exact this.trans (hA.ok.k0 0 0 _ _ d d _ (by decide))
  have e2:eV d f dOn.1.tm dOn.2.toNat=f 0 0 d d (jM ((1:Int):Rat)):=by
   have:=g2.ev (d:=d) hA.ok;exact this.trans (hA.ok.k0 0 0 _ _ d d _ (by decide))
  exact ⟨g2.sb,(g2.ext.ev (qO g.ix)).trans e1,e2,fun j h=>absurd h (Nat.not_lt_zero j),fun j h=>absurd h (Nat.not_lt_zero j)⟩
 |k+1,hk,hov=>by
  have hov:(aV i gH.2 dOn.2 (dU i t k).1 (dU i t k).2.1 (dU i t k).2.2 (t.getD k tz)).1.ov=false:=hov
  have ih:=dU_sem hA hT (i:=i) h0 hq k (by omega) (dNd_ov hov)
  have iv:=dInv (i:=i) h0 hq k (by omega)
  have hp:=iv.pre h0 hq (by omega)
  obtain ⟨_,w⟩:=dNd_wth hA hT ih.sb hp ih.z ih.o hov
  have lV:=iv.lV
  have lS:=iv.lS
  obtain ⟨c1,c2,c3,c4⟩:=nd_k h0 hq (show k<t.length by omega)
  have ev1:∀ c:Int,0<=c->c<(k:Int)->eV d f (dU i t k).1.tm (gI (dU i t k).2.1 c).toNat=(cU d f t k).getD c.toNat d:=fun c q1 q2=>ih.v c.toNat (by omega)
  have es1:∀ c:Int,0<=c->c<(k:Int)->eV d f (dU i t k).1.tm (gI (dU i t k).2.2 c).toNat=(iZ d f i t k).getD c.toNat d:=fun c q1 q2=>ih.s c.toNat (by omega)
  have en:f (t.getD k tz).op (t.getD k tz).a (eV d f (dU i t k).1.tm (gI (dU i t k).2.1 (t.getD k tz).a).toNat) (eV d f (dU i t k).1.tm (gI (dU i t k).2.1 (t.getD k tz).b).toNat) (t.getD k tz).n=nfV d f (cU d f t k) (t.getD k tz) :=
   nf_congr hA.ok (fun q=>ev1 _ (c1.1 q).1 (c1.1 q).2) (fun q=>ev1 _ (c1.2 q).1 (c1.2 q).2)
  have w1:=w.e1.trans en
  have w2:=w.e2.trans (dfN_congr (fun q=>⟨ev1 _ (c1.1 q).1 (c1.1 q).2,es1 _ (c1.1 q).1 (c1.1 q).2⟩) (fun q=>⟨ev1 _ (c1.2 q).1 (c1.2 q).2,es1 _ (c1.2 q).1 (c1.2 q).2⟩) en c3 c4)
  refine ⟨w.sb,(w.ext.ev (qO iv.hz)).trans ih.z,(w.ext.ev (qO iv.ho)).trans ih.o,fun j hj=>?_,fun j hj=>?_⟩
  ·show eV d f (aV i gH.2 dOn.2 (dU i t k).1 (dU i t k).2.1 (dU i t k).2.2 (t.getD k tz)).1.tm (((dU i t k).2.1++[(aV i gH.2 dOn.2 (dU i t k).1 (dU i t k).2.1 (dU i t k).2.2 (t.getD k tz)).2.1]).getD j 0).toNat=_
   rw[cU,uO,uO,lV,iX]
   rcases Nat.lt_or_ge j k with hjk | hjk
   ·rw[if_pos hjk,if_pos hjk,w.ext.ev (qO (iv.hV j hjk))];exact ih.v j hjk
   ·obtain rfl:j=k:=by omega
    rw[if_neg (Nat.lt_irrefl _),if_pos rfl,if_neg (Nat.lt_irrefl _),if_pos rfl];exact w1
  ·show eV d f (aV i gH.2 dOn.2 (dU i t k).1 (dU i t k).2.1 (dU i t k).2.2 (t.getD k tz)).1.tm (((dU i t k).2.2++[(aV i gH.2 dOn.2 (dU i t k).1 (dU i t k).2.1 (dU i t k).2.2 (t.getD k tz)).2.2]).getD j 0).toNat=_
   rw[iZ,uO,uO,lS,dfU_len]
   rcases Nat.lt_or_ge j k with hjk | hjk
   ·rw[if_pos hjk,if_pos hjk,w.ext.ev (qO (iv.hS j hjk))];exact ih.s j hjk
   ·obtain rfl:j=k:=by omega
    rw[if_neg (Nat.lt_irrefl _),if_pos rfl,if_neg (Nat.lt_irrefl _),if_pos rfl];exact w2
end
def KdN(t:List jO)(nd:List Bool)(j:Nat):Prop:=(0<kZ (t.getD j tz).op->nd.getD (t.getD j tz).a.toNat false=true)/\(1<kZ (t.getD j tz).op->nd.getD (t.getD j tz).b.toNat false=true)
theorem getD_setT{l:List Bool}{i j:Nat}(h:l.getD j false=true):(l.set i true).getD j false=true:=by
 rw[List.getD_eq_getElem?_getD,List.getElem?_set]
 split
 ·split
  ·rfl
  ·rename_i e hl;subst e;rw[List.getD_eq_getElem?_getD,List.getElem?_eq_none (by omega)] at h;cases h
 ·rw[<- List.getD_eq_getElem?_getD];exact h
theorem getD_setS{l:List Bool}{i:Nat}(h:i<l.length):(l.set i true).getD i false=true:=by
 rw[List.getD_eq_getElem?_getD,List.getElem?_set,if_pos rfl,if_pos h];rfl
theorem getD_setN{l:List Bool}{i j:Nat}(h:i≠j):(l.set i true).getD j false=l.getD j false:=by
 rw[List.getD_eq_getElem?_getD,List.getElem?_set,if_neg h,<- List.getD_eq_getElem?_getD]
theorem ndS_mono{t:List jO}{nd:List Bool}{i j:Nat}(h:nd.getD j false=true):(ndS t nd i).getD j false=true:=by
 unfold ndS;split
 ·exact h
 ·split
  ·split
   ·exact getD_setT (getD_setT h)
   ·exact getD_setT h
  ·exact h
theorem ndS_hi{t:List jO}{nd:List Bool}{i j:Nat}(ho:eP (t.getD i tz) i)(hj:i<=j):(ndS t nd i).getD j false=nd.getD j false:=by
 unfold ndS;split
 ·rfl
 ·split
  ·rename_i h1
   have:=ho.1 h1
   split
   ·rename_i h2
    have:=ho.2 h2
    rw[getD_setN (by omega),getD_setN (by omega)]
   ·rw[getD_setN (by omega)]
  ·rfl
theorem ndS_kd{t:List jO}{nd:List Bool}{i:Nat}(ho:eP (t.getD i tz) i)(hl:nd.length=t.length)(hi:i<t.length)(h:nd.getD i false=true):KdN t (ndS t nd i) i:=by
 have h9:¬ nd.getD i false=false:=by rw[h];decide
 refine ⟨fun h1=>?_,fun h2=>?_⟩
 ·have:=ho.1 h1
  unfold ndS;rw[if_neg h9,if_pos h1]
  split
  ·exact getD_setT (getD_setS (by omega))
  ·exact getD_setS (by omega)
 ·have:=ho.2 h2
  unfold ndS;rw[if_neg h9,if_pos (by omega),if_pos h2]
  exact getD_setS (by rw[List.length_set];omega)
theorem KdN.mono{t:List jO}{nd nd':List Bool}{j:Nat}(h:KdN t nd j)(hm:∀ i,nd.getD i false=true->nd'.getD i false=true):KdN t nd' j:=⟨fun k=>hm _ (h.1 k),fun k=>hm _ (h.2 k)⟩
theorem ndL_mono{t:List jO}:∀ (i:Nat) (nd:List Bool) (j:Nat),nd.getD j false=true->(ndL t nd i).getD j false=true
 |0,_,_,h=>h
 |i+1,nd,j,h=>by rw[ndL];exact ndL_mono i _ j (ndS_mono h)
theorem ndL_kd{t:List jO}(ho:OrdT t):∀ (i:Nat) (nd:List Bool),i<=t.length->nd.length=t.length->(∀ j,i<=j->j<t.length->nd.getD j false=true->KdN t nd j)->∀ j,j<t.length->(ndL t nd i).getD j false=true->KdN t (ndL t nd i) j
 |0,nd,_,_,h,j,hj,hn=>h j (Nat.zero_le _) hj hn
 |i+1,nd,hi,hl,h,j,hj,hn=>by
  rw[ndL] at hn ⊢
  refine ndL_kd ho i _ (by omega) ((ndS_len t nd i).trans hl) (fun j' hj1 hj2 hn'=>?_) j hj hn
  rw[ndS_hi (ho i (by omega)) hj1] at hn'
  rcases Nat.lt_or_ge i j' with h1 | h1
  ·exact (h j' (by omega) hj2 hn').mono fun q hq=>ndS_mono hq
  ·obtain rfl:j'=i:=by omega
   exact ndS_kd (ho _ hj2) hl hj2 hn'
theorem getD_rep(n j:Nat):(List.replicate n false).getD j false=false:=by
 rw[List.getD_eq_getElem?_getD,List.getElem?_replicate];split<;>rfl
theorem ndA_at{t:List jO}{m:Nat}(hm:m<t.length):(ndA t m).getD m false=true:=ndL_mono _ _ _ (getD_setS (by rw[List.length_replicate];exact hm))
theorem ndA_kd{t:List jO}(ho:OrdT t){m:Nat}(hm:m<t.length){j:Nat}(hj:j<t.length)(h:(ndA t m).getD j false=true):KdN t (ndA t m) j :=
 ndL_kd ho (m+1) _ (by omega) (by rw[List.length_set,List.length_replicate]) (fun j' h1 h2 hn=>by rw[getD_setN (by omega),getD_rep] at hn;cases hn) j hj h
structure TI (t:List jO) (nd:List Bool) (nm:List Int) (out:List jO) (k:Nat):Prop where
 l:nm.length=t.length
 lo:∀ j,j<k->nd.getD j false=true->0<=nm.getD j 0/\nm.getD j 0<(out.length:Int)
 st:∀ j,j<k->nd.getD j false=true->out.getD (nm.getD j 0).toNat tz=rnN nm (t.getD j tz)
 mo:∀ a b,a<b->b<k->nd.getD a false=true->nd.getD b false=true->nm.getD a 0<nm.getD b 0
 on:∀ q,q<out.length->∃ j,j<k/\nd.getD j false=true/\nm.getD j 0=(q:Int)
theorem dZ{l:List Int}{i j:Nat}{v:Int}(h:i≠j):(l.set i v).getD j 0=l.getD j 0:=by
 rw[List.getD_eq_getElem?_getD,List.getElem?_set,if_neg h,<- List.getD_eq_getElem?_getD]
theorem getD_setJ{l:List Int}{i:Nat}{v:Int}(h:i<l.length):(l.set i v).getD i 0=v:=by
 rw[List.getD_eq_getElem?_getD,List.getElem?_set,if_pos rfl,if_pos h];rfl
theorem rnN_set{nm:List Int}{k j:Nat}{v:Int}{x:jO}(ho:eP x j)(hj:j<=k):rnN (nm.set k v) x=rnN nm x:=by
 unfold rnN
 split
 ·rename_i h1
  have:=ho.1 h1
  rw[dZ (by omega)]
  split
  ·rename_i h2
   have:=ho.2 h2
   rw[dZ (by omega)]
  ·rfl
 ·rfl
theorem tmF_ti{t:List jO}{nd:List Bool}(ho:OrdT t):∀ k,k<=t.length->TI t nd (tmF t nd k).1 (tmF t nd k).2 k
 |0,_=>⟨List.length_replicate,fun j h=>absurd h (Nat.not_lt_zero j),fun j h=>absurd h (Nat.not_lt_zero j),fun a b _ h=>absurd h (Nat.not_lt_zero b),fun q h=>absurd h (Nat.not_lt_zero q)⟩
 |k+1,hk=>by
  have ih:=tmF_ti ho (nd:=nd) k (by omega)
  rw[tmF]
  unfold tmS
  by_cases hn:nd.getD k false=false
  ·rw[if_pos hn]
   have lt:∀ j,j<k+1->nd.getD j false=true->j<k:=fun j hj h=>by
    rcases Nat.lt_or_ge j k with h1 | h1
    ·exact h1
    ·obtain rfl:j=k:=by omega
     rw[hn] at h;cases h
   exact ⟨ih.l,fun j hj h=>ih.lo j (lt j hj h) h,fun j hj h=>ih.st j (lt j hj h) h,fun a b hab hb h1 h2=>ih.mo a b hab (lt b hb h2) h1 h2,fun q hq=>by
    obtain ⟨j,h1,h2⟩:=ih.on q hq;exact ⟨j,by omega,h2⟩⟩
  ·rw[if_neg hn]
   dsimp only
   generalize (tmF t nd k).1=nm at ih
   generalize (tmF t nd k).2=out at ih
   have hl:=ih.l
   have hkn:(nm.set k (out.length:Int)).getD k 0=(out.length:Int):=getD_setJ (by omega)
   refine ⟨by rw[List.length_set];exact hl,fun j hj h=>?_,fun j hj h=>?_,fun a b hab hb h1 h2=>?_,fun q hq=>?_⟩
   ·rw[List.length_append,List.length_singleton]
    rcases Nat.lt_or_ge j k with h1 | h1
    ·rw[dZ (by omega)];have:=ih.lo j h1 h;omega
    ·obtain rfl:j=k:=by omega
     rw[hkn];omega
   ·rcases Nat.lt_or_ge j k with h1 | h1
    ·have:=ih.lo j h1 h
     rw[dZ (by omega),gU (by omega),ih.st j h1 h,rnN_set (ho j (by omega)) (by omega)]
    ·obtain rfl:j=k:=by omega
     rw[hkn,Int.toNat_natCast,uO,if_neg (Nat.lt_irrefl _),if_pos rfl,rnN_set (ho j (by omega)) (Nat.le_refl _)]
   ·rw[dZ (j:=a) (by omega)]
    rcases Nat.lt_or_ge b k with h3 | h3
    ·rw[dZ (by omega)];exact ih.mo a b hab h3 h1 h2
    ·obtain rfl:b=k:=by omega
     rw[hkn];exact (ih.lo a hab h1).2
   ·rw[List.length_append,List.length_singleton] at hq
    rcases Nat.lt_or_ge q out.length with h1 | h1
    ·obtain ⟨j,h2,h3,h4⟩:=ih.on q h1
     exact ⟨j,by omega,h3,by rw[dZ (by omega)];exact h4⟩
    ·obtain rfl:q=out.length:=by omega
     exact ⟨k,by omega,by cases h5:nd.getD k false with | false=>exact absurd h5 hn | true=>rfl,hkn⟩
section
variable {A:Type} {d:A} {f:Nf A}
theorem rnN_op(nm:List Int)(x:jO):(rnN nm x).op=x.op/\(rnN nm x).n=x.n:=by
 unfold rnN;split
 ·split<;>exact ⟨rfl,rfl⟩
 ·exact ⟨rfl,rfl⟩
theorem rnN_a{nm:List Int}{x:jO}(h:0<kZ x.op):(rnN nm x).a=nm.getD x.a.toNat 0:=by
 unfold rnN;rw[if_pos h];split<;>rfl
theorem rnN_b{nm:List Int}{x:jO}(h:1<kZ x.op):(rnN nm x).b=nm.getD x.b.toNat 0:=by
 unfold rnN;rw[if_pos (by omega),if_pos h]
theorem rnN_n{nm:List Int}{x:jO}(h:¬ 0<kZ x.op):rnN nm x=x:=if_neg h
theorem TI.ord{t:List jO}{nd:List Bool}{nm:List Int}{out:List jO}{k:Nat}(h:TI t nd nm out k)(ho:OrdT t)(hc:∀ j,j<t.length->nd.getD j false=true->KdN t nd j)(hk:k<=t.length){j:Nat}(hj:j<k)(hn:nd.getD j false=true):eP (out.getD (nm.getD j 0).toNat tz) (nm.getD j 0).toNat:=by
 rw[h.st j hj hn]
 have hoj:=ho j (by omega)
 have hkj:=hc j (by omega) hn
 have hlo:=h.lo j hj hn
 refine ⟨fun h1=>?_,fun h2=>?_⟩
 ·rw[(rnN_op _ _).1] at h1
  have q1:=hoj.1 h1
  rw[rnN_a h1]
  have q2:=h.lo _ (show (t.getD j tz).a.toNat<k by omega) (hkj.1 h1)
  have q3:=h.mo _ j (show (t.getD j tz).a.toNat<j by omega) hj (hkj.1 h1) hn
  omega
 ·rw[(rnN_op _ _).1] at h2
  have q1:=hoj.2 h2
  rw[rnN_b h2]
  have q2:=h.lo _ (show (t.getD j tz).b.toNat<k by omega) (hkj.2 h2)
  have q3:=h.mo _ j (show (t.getD j tz).b.toNat<j by omega) hj (hkj.2 h2) hn
  omega
theorem TI.ev(hf:NfOk f){t:List jO}{nd:List Bool}{nm:List Int}{out:List jO}{k:Nat}(h:TI t nd nm out k)(ho:OrdT t)(hc:∀ j,j<t.length->nd.getD j false=true->KdN t nd j)(hk:k<=t.length):∀ (N j:Nat),j<N->j<k->nd.getD j false=true->eV d f out (nm.getD j 0).toNat=eV d f t j
 |0,j,hN,_,_=>absurd hN (Nat.not_lt_zero j)
 |N+1,j,hN,hj,hn=>by
  have hlo:=h.lo j hj hn
  have hoj:=ho j (by omega)
  have hkj:=hc j (by omega) hn
  rw[eV_node hf (by omega) (h.ord ho hc hk hj hn),eV_node hf (t:=t) (by omega) hoj,h.st j hj hn,(rnN_op _ _).1,(rnN_op _ _).2]
  rcases fC (t.getD j tz).op with e | e | e
  ·rw[rnN_n (by omega)];exact hf.k0 _ _ _ _ _ _ _ e
  ·have q1:=hoj.1 (by omega)
   rw[rnN_a (by omega),h.ev hf ho hc hk N _ (by omega) (by omega) (hkj.1 (by omega))]
   exact hf.k1 _ _ _ _ _ _ _ e
  ·have q1:=hoj.1 (by omega)
   have q2:=hoj.2 (by omega)
   rw[rnN_a (by omega),rnN_b (by omega),h.ev hf ho hc hk N _ (by omega) (by omega) (hkj.1 (by omega)),h.ev hf ho hc hk N _ (by omega) (by omega) (hkj.2 (by omega))]
   exact hf.k2 _ _ _ _ _ _ e
theorem trim_last(hf:NfOk f){t:List jO}(ho:OrdT t){m:Nat}(hm:m<t.length):0<(yA t m).length/\eV d f (yA t m) ((yA t m).length-1)=eV d f t m:=by
 have h:=tmF_ti ho (nd:=ndA t m) (m+1) (by omega)
 have hc:=fun j hj hn=>ndA_kd ho hm (j:=j) hj hn
 have h1:=h.lo m (by omega) (ndA_at hm)
 have hl:0<(yA t m).length:=by
  have:(tmF t (ndA t m) (m+1)).2=yA t m:=rfl
  rw[this] at h1;omega
 refine ⟨hl,?_⟩
 have v:=h.ev (d:=d) hf ho hc (by omega) (m+1) m (Nat.lt_succ_self _) (by omega) (ndA_at hm)
 have e:((tmF t (ndA t m) (m+1)).1.getD m 0).toNat=(yA t m).length-1:=by
  obtain ⟨j,g1,g2,g3⟩:=h.on ((yA t m).length-1) (by show _<(yA t m).length;omega)
  rcases Nat.lt_or_ge j m with g4 | g4
  ·have g5:=h.mo j m g4 (by omega) g2 (ndA_at hm)
   have:(tmF t (ndA t m) (m+1)).2=yA t m:=rfl
   rw[this] at h1;omega
  ·obtain rfl:j=m:=by omega
   rw[g3,Int.toNat_natCast]
 rw[e] at v
 exact v
theorem trim_nd2{t:List jO}(ho:OrdT t){m:Nat}(hm:m<t.length){q:Nat}(hq:q<(yA t m).length):∃ nm:List Int,∃ j,j<t.length/\(yA t m).getD q tz=rnN nm (t.getD j tz)/\eP ((yA t m).getD q tz) q/\∀ (A:Type) (d:A) (f:Nf A),NfOk f->eV d f (yA t m) q=eV d f t j /\
  (1<kZ (t.getD j tz).op->eV d f (yA t m) (nm.getD (t.getD j tz).b.toNat 0).toNat=eV d f t (t.getD j tz).b.toNat):=by
 have h:=tmF_ti ho (nd:=ndA t m) (m+1) (by omega)
 have hc:=fun j hj hn=>ndA_kd ho hm (j:=j) hj hn
 obtain ⟨j,h1,h2,h3⟩:=h.on q hq
 have e:((tmF t (ndA t m) (m+1)).1.getD j 0).toNat=q:=by rw[h3,Int.toNat_natCast]
 have s:=h.st j h1 h2
 have o:=h.ord ho hc (by omega) h1 h2
 have hk:=hc j (by omega) h2
 have hoj:=ho j (by omega)
 rw[e] at s o
 refine ⟨_,j,by omega,s,o,fun A d f hf=>⟨?_,fun k2=>?_⟩⟩
 ·have v:=h.ev (d:=d) hf ho hc (by omega) (j+1) j (Nat.lt_succ_self _) h1 h2
  rw[e] at v;exact v
 ·have:=hoj.2 k2
  exact h.ev (d:=d) hf ho hc (by omega) _ _ (Nat.lt_succ_self _) (by omega) (hk.2 k2)
theorem trim_le(t:List jO)(m:Nat):(yA t m).length<=m+1:=(tmF_len t (ndA t m) (m+1)).2
end
end Go.Fid
