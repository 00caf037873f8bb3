/- Part 34 of a proof: rules, plain facts, and functions walked. -/
import Derived.Test.YtckccjhflbljgaaGreatDoorM19
import Derived.Test.YtckccjhflbljgaaGreatDoorM32
import Derived.Test.YtckccjhflbljgaaGreatDoorM33
import Derived.Test.YtckccjhflbljgaaGreatDoorM20
import Derived.Test.YtckccjhflbljgaaGreatDoorM27
import Derived.Test.YtckccjhflbljgaaGreatDoorM31
set_option linter.all false
set_option maxRecDepth 4000
namespace Go.Fid
theorem gs0(a:R2):uP (gw 0) a=gneg a:=by
 unfold uP gw gneg
 rw[show ((0:Int):Rat)=0 from rfl,Rat.sub_eq_add_neg,Rat.sub_eq_add_neg,Rat.zero_add,Rat.zero_add]
def bV(s:Nat):Nat:=25*s-1
def bG(s:Nat):Nat:=51*(s*s)
def cZ(v:R2)(g:Nat->R2)(s:Nat):Prop:=GL (bV s) v/\∀ i,GL (bG s) (g i)
def BdOk(ss:List Int)(L:List JV):Prop:=∀ j,j<L.length->∃ s:Nat,ss.getD j 0=(s:Int)/\1<=s/\cZ (L.getD j jz).v (fun i=>(L.getD j jz).g.getD i z2) s
theorem gl_0:GL 3 (gw 0):=gl_w (z:=0) (by omega) (by omega)
theorem gl_1:GL 3 (gw 1):=gl_w (z:=1) (by omega) (by omega)
theorem gl_2:GL 3 (gw 2):=gl_w (z:=2) (by omega) (by omega)
theorem sq_sum(s r:Nat):(s+r)*(s+r)=s*s+r*r+2*(s*r):=by
 rw[Nat.add_mul,Nat.mul_add,Nat.mul_add,Nat.mul_comm r s];omega
theorem sr_le{s r:Nat}(hs:1<=s)(hr:1<=r):s+r<=2*(s*r):=by
 have h1:s*1<=s*r:=Nat.mul_le_mul (Nat.le_refl _) hr
 have h2:1*r<=s*r:=Nat.mul_le_mul hs (Nat.le_refl _)
 omega
theorem cZ.pt{v:R2}{g:Nat->R2}(hv:GL 24 v)(hg:∀ i,GL 3 (g i)):cZ v g 1:=⟨hv,fun i=>uH (hg i) (by decide)⟩
theorem cZ.add{v w:R2}{g h:Nat->R2}{s r:Nat}(hs:1<=s)(hr:1<=r)(a:cZ v g s)(b:cZ w h r):cZ (gR v w) (fun i=>gR (g i) (h i)) (s+r):=by
 have e:=sq_sum s r
 have e2:=sr_le hs hr
 exact ⟨gl_add a.1 b.1 (by unfold bV;omega),fun i=>gl_add (a.2 i) (b.2 i) (by unfold bG;omega)⟩
theorem cZ.sub{v w:R2}{g h:Nat->R2}{s r:Nat}(hs:1<=s)(hr:1<=r)(a:cZ v g s)(b:cZ w h r):cZ (uP v w) (fun i=>uP (g i) (h i)) (s+r):=by
 have e:=sq_sum s r
 have e2:=sr_le hs hr
 exact ⟨lR a.1 b.1 (by unfold bV;omega),fun i=>lR (a.2 i) (b.2 i) (by unfold bG;omega)⟩
theorem cZ.mul{v w:R2}{g h:Nat->R2}{s r:Nat}(hs:1<=s)(hr:1<=r)(a:cZ v g s)(b:cZ w h r):cZ (xE v w) (fun i=>gR (xE v (h i)) (xE w (g i))) (s+r):=by
 have e:=sq_sum s r
 have e2:=sr_le hs hr
 exact ⟨nZ a.1 b.1 (by unfold bV;omega),fun i=>gl_add (nZ a.1 (b.2 i) (Nat.le_refl _)) (nZ b.1 (a.2 i) (Nat.le_refl _)) (by unfold bV bG;omega)⟩
theorem cZ.div{v w:R2}{g h:Nat->R2}{s r:Nat}(hs:1<=s)(hr:1<=r)(a:cZ v g s)(b:cZ w h r):cZ (eN v w) (fun i=>eN (uP (g i) (xE (eN v w) (h i))) w) (s+r):=by
 have e:=sq_sum s r
 have e2:=sr_le hs hr
 have hq:GL (bV (s+r)) (eN v w):=gl_div a.1 b.1 (by unfold bV;omega)
 exact ⟨hq,fun i=>gl_div (lR (a.2 i) (nZ hq (b.2 i) (Nat.le_refl _)) (Nat.le_refl _)) b.1 (by unfold bV bG;omega)⟩
theorem cZ.neg{v:R2}{g:Nat->R2}{s:Nat}(a:cZ v g s):cZ (uP (gw 0) v) (fun i=>uP (gw 0) (g i)) s :=
 ⟨by rw[gs0];exact gl_neg a.1,fun i=>by show GL _ (uP (gw 0) (g i));rw[gs0];exact gl_neg (a.2 i)⟩
theorem cZ.sq{v:R2}{g:Nat->R2}{s:Nat}(hs:1<=s)(a:cZ v g s):cZ (gsq v) (fun i=>xE (gw 2) (xE v (g i))) (2*s):=by
 have e:=sq_sum s s
 have e2:=sr_le hs hs
 rw[show 2*s=s+s by omega]
 exact ⟨gl_sq a.1 (by unfold bV;omega),fun i=>nZ gl_2 (nZ a.1 (a.2 i) (Nat.le_refl _)) (by unfold bV bG;omega)⟩
theorem nJ_get{bx:List R2}{L:List JV}{x:jO}{s:Nat}(h1:1<=s)(h:cZ (nV bx L x) (nG bx L x) s):cZ (nJ bx L x).v (fun i=>(nJ bx L x).g.getD i z2) s:=by
 refine ⟨h.1,fun i=>?_⟩
 have h2:s*1<=s*s:=Nat.mul_le_mul (Nat.le_refl _) h1
 show GL _ ((nJ bx L x).g.getD i z2)
 unfold nJ jk
 dsimp only
 rw[List.getD_eq_getElem?_getD,List.getElem?_map]
 rcases Nat.lt_or_ge i bx.length with h3 | h3
 ·rw[List.getElem?_range h3];exact h.2 i
 ·rw[List.getElem?_eq_none (by simpa using h3)]
  exact ⟨uE fE (by unfold bG;omega),uE fE (by unfold bG;omega),Rat.le_refl⟩
theorem bd_at{ss:List Int}{L:List JV}(h:BdOk ss L){a:Int}(h0:0<=a)(h1:a<L.length):∃ s:Nat,ss.getD a.toNat 0=(s:Int)/\1<=s/\cZ (jA L a).v (fun i=>(jA L a).g.getD i z2) s:=h a.toNat (by omega)
theorem bd_node{z:Int}{ss:List Int}{L:List JV}{bx:List R2}{x:jO}(hk:ndC z ss x=0)(hl:ss.length=L.length)(hq:yX x.n (vC x.n) 8)(hb:∀ y∈bx,GL 24 y)(h:BdOk ss L) :
  ∃ s:Nat,gN ss x=(s:Int)/\1<=s/\cZ (nV bx L x) (nG bx L x) s:=by
 obtain ⟨h1,h2,h3,_⟩:=nd_0 hk
 unfold cM at h1
 unfold dJ at h2
 rcases xS x.op with ⟨e,f⟩ | ⟨e,f⟩ | ⟨e,f⟩ | ⟨e,f⟩
 ·refine ⟨1,by unfold gN;rw[if_pos e];rfl,Nat.le_refl _,?_⟩
  rcases f with f | f
  ·refine .pt ?_ fun i=>?_
   ·unfold nV;rw[if_pos f];exact uH (gl_pt hq.ql) (by decide)
   ·unfold nG;rw[if_pos f];exact gl_0
  ·refine .pt ?_ fun i=>?_
   ·unfold nV;rw[if_neg (by omega),if_pos f];exact yD hb (by decide) _
   ·unfold nG;rw[if_neg (by omega),if_pos f];split
    ·exact gl_1
    ·exact gl_0
 ·obtain ⟨s,e1,e2,e3⟩:=bd_at h (a:=x.a) (by omega) (by omega)
  rcases f with f | f
  ·refine ⟨s,by unfold gN;rw[if_neg (by omega),if_pos f];exact e1,e2,?_⟩
   have e4:=e3.neg
   unfold nV nG;simp only[f];exact e4
  ·refine ⟨2*s,by unfold gN;rw[if_neg (by omega),if_neg (by omega),if_pos f,e1];omega,by omega,?_⟩
   have e4:=e3.sq e2
   unfold nV nG;simp only[f];exact e4
 ·obtain ⟨s,e1,e2,e3⟩:=bd_at h (a:=x.a) (by omega) (by omega)
  obtain ⟨r,g1,g2,g3⟩:=bd_at h (a:=x.b) (by omega) (by omega)
  refine ⟨s+r,by unfold gN;rw[if_neg (by omega),if_neg (by omega),if_neg (by omega),e1,g1];omega,by omega,?_⟩
  rcases f with f | f | f | f
  ·have e4:=e3.add e2 g2 g3
   unfold nV nG;simp only[f];exact e4
  ·have e4:=e3.sub e2 g2 g3
   unfold nV nG;simp only[f];exact e4
  ·have e4:=e3.mul e2 g2 g3
   unfold nV nG;simp only[f];exact e4
  ·have e4:=e3.div e2 g2 g3
   unfold nG;unfold nV;simp only[f];exact e4
 ·omega
theorem dS{α:Type}{l:List α}{x d:α}{j:Nat}:(l++[x]).getD j d=if j<l.length then l.getD j d else if j=l.length then x else d:=by
 rw[List.getD_eq_getElem?_getD,List.getD_eq_getElem?_getD]
 split
 ·rename_i h;rw[List.getElem?_append_left h]
 ·rename_i h
  rw[List.getElem?_append_right (by omega)]
  split
  ·rename_i e;subst e;rw[Nat.sub_self];rfl
  ·rename_i e;rw[List.getElem?_eq_none (by simp;omega)];rfl
structure eR (bx:List R2) (t:List jO):Prop where
 c0:zP ((bx.length:Nat):Int) t=0
 q:∀ x∈t,yX x.n (vC x.n) 8
 b:∀ y∈bx,GL 24 y
 s:∀ k,k<t.length->gN (vZ t k) (t.getD k tz)<=140
theorem cR{α:Type}{l:List α}{d:α}{k:Nat}(h:k<l.length):l.getD k d∈l:=by
 rw[List.getD_eq_getElem?_getD,List.getElem?_eq_getElem h];exact List.getElem_mem _
theorem eR.bd{bx:List R2}{t:List jO}(h:eR bx t):∀ {k:Nat},k<=t.length->BdOk (vZ t k) (jU bx t k)
 |0,_=>fun j hj=>by simp [jU] at hj
 |k+1,hk=>fun j hj=>by
  have ih:=h.bd (k:=k) (by omega)
  have l1:=qM t k
  have l2:=bD bx t k
  rw[bD] at hj
  have g1:(vZ t (k+1)).getD j 0=_:=dS
  have g2:(jU bx t (k+1)).getD j jz=_:=dS
  rcases Nat.lt_or_ge j k with hjk | hjk
  ·rw[if_pos (by omega)] at g1 g2
   rw[g1,g2];exact ih j (by omega)
  ·rw[if_neg (by omega),if_pos (by omega)] at g1 g2
   rw[g1,g2]
   obtain ⟨s,e1,e2,e3⟩:=bd_node ((mQ h.c0).2.2.2.2 k (by omega)) (l1.trans l2.symm) (h.q _ (cR (by omega))) h.b ih
   exact ⟨s,e1,e2,nJ_get e2 e3⟩
theorem bd_200{s:Nat}(h:s<=140):bV s<=1048576/\bG s<=1048576:=by
 have h2:s*s<=140*140:=Nat.mul_le_mul h h
 unfold bV bG;omega
theorem eR.jok{bx:List R2}{t:List jO}(h:eR bx t){k:Nat}(hk:k<t.length):cF 1048576 bx.length (nJ bx (jU bx t k) (t.getD k tz)):=by
 obtain ⟨s,e1,e2,e3⟩:=bd_node ((mQ h.c0).2.2.2.2 k hk) ((qM t k).trans (bD bx t k).symm) (h.q _ (cR hk)) h.b (h.bd (Nat.le_of_lt hk))
 have e4:=h.s k hk
 obtain ⟨e5,e6⟩:=bd_200 (s:=s) (by omega)
 exact jk_ok (uH e3.1 e5) fun i _=>uH (e3.2 i) e6
theorem eR.upto{bx:List R2}{t:List jO}(h:eR bx t):∀ {k},k<=t.length->∀ y∈jU bx t k,cF 1048576 bx.length y
 |0,_,y,hy=>by simp [jU] at hy
 |k+1,hk,y,hy=>by
  rw[jU,List.mem_append] at hy
  rcases hy with hy | hy
  ·exact h.upto (by omega) y hy
  ·rw[List.mem_singleton] at hy;subst hy
   exact h.jok (by omega)
def dzB(bx:List R2)(t:List jO)(k:Nat):Bool:=decide ((t.getD k tz).op=5)&&mW (jA (jU bx t k) (t.getD k tz).b).v.1 (jA (jU bx t k) (t.getD k tz).b).v.2
def dzT(bx:List R2)(t:List jO):Bool:=(List.range t.length).any (dzB bx t)
structure FstDz (bx:List R2) (t:List jO) (k:Nat):Prop where
 lt:k<t.length
 no:∀ j,j<k->dzB bx t j=false
 yes:dzB bx t k=true
theorem fst_any{p:Nat->Bool}:∀ {n:Nat},(List.range n).any p=true->∃ k,k<n/\(∀ j,j<k->p j=false)/\p k=true
 |0,h=>by simp at h
 |n+1,h=>by
  cases hn:(List.range n).any p with
  |true=>
   obtain ⟨k,h1,h2,h3⟩:=fst_any hn
   exact ⟨k,by omega,h2,h3⟩
  |false=>
   rw[List.range_succ,List.any_append,hn] at h
   refine ⟨n,by omega,fun j hj=>?_,by simpa using h⟩
   cases hp:p j with
   |false=>rfl
   |true=>rw[List.any_eq_true.2 ⟨j,List.mem_range.2 hj,hp⟩] at hn;cases hn
theorem dz_no{bx:List R2}{t:List jO}(h:dzT bx t=false){k:Nat}(hk:k<t.length):dzB bx t k=false:=by
 cases hp:dzB bx t k with
 |false=>rfl
 |true=>unfold dzT at h;rw[List.any_eq_true.2 ⟨k,List.mem_range.2 hk,hp⟩] at h;cases h
theorem dz_at{bx:List R2}{t:List jO}{k:Nat}(h:dzB bx t k=false)(ho:(t.getD k tz).op=5):mW (jA (jU bx t k) (t.getD k tz).b).v.1 (jA (jU bx t k) (t.getD k tz).b).v.2=false:=by
 unfold dzB at h;rw[decide_eq_true ho,Bool.true_and] at h;exact h
theorem eR.run{bx:List R2}{t:List jO}(h:eR bx t)(hd:dzT bx t=false):JRun bx t:=⟨h.c0,fun k hk=>h.jok hk,fun k hk ho=>dz_at (dz_no hd hk) ho⟩
theorem eR.up{bx:List R2}{t:List jO}(h:eR bx t):∀ x∈t,yX x.n (vC x.n) 1048576:=fun x hx=>jW (h.q x hx) (by decide)
theorem eR.nd{bx:List R2}{t:List jO}(h:eR bx t){k:Nat}(hk:k<t.length)(hd:dzB bx t k=false):bM bx.length (jU bx t k) (t.getD k tz) :=
 nd_ok ((mQ h.c0).2.2.2.2 k hk) (qM t k) (h.up _ (cR hk)) (dz_at hd)
def DzOk(L:List JV)(x:jO):Prop:=∃ a b:Nat,x=⟨5,(a:Int),(b:Int),zr⟩/\a<L.length/\b<L.length/\mW (L.getD b jz).v.1 (L.getD b jz).v.2=true
theorem eR.dz{bx:List R2}{t:List jO}(h:eR bx t){k:Nat}(hk:k<t.length)(hd:dzB bx t k=true):DzOk (jU bx t k) (t.getD k tz):=by
 have hc:=(mQ h.c0).2.2.2.2 k hk
 obtain ⟨h1,h2,h3,_⟩:=nd_0 hc
 rw[qM] at h2
 have hl:=bD bx t k
 unfold dzB at hd
 rw[Bool.and_eq_true,decide_eq_true_eq] at hd
 generalize t.getD k tz=x at *
 generalize jU bx t k=L at *
 obtain ⟨op,a,b,n⟩:=x
 unfold cM at h1
 unfold dJ at h2
 dsimp only at *
 obtain ⟨e,hz⟩:=hd
 subst e
 have e5:kZ 5=2:=rfl
 rw[e5] at h2
 have hu:n=zr:=uns_eq (by
  cases hh:unsB n with
  |true=>rfl
  |false=>exact absurd (Or.inr (Or.inr (Or.inr ⟨by decide,hh⟩))) h1)
 obtain ⟨m,hm⟩:=nat_of (a:=a) (by omega)
 subst hm
 obtain ⟨l,hl'⟩:=nat_of (a:=b) (by omega)
 subst hl'
 subst hu
 refine ⟨m,l,rfl,by omega,by omega,?_⟩
 unfold jA at hz
 rwa [Int.toNat_natCast] at hz
theorem nd_mono{z w:Int}(hw:z<=w){ss:List Int}{x:jO}(h:ndC z ss x=0):ndC w ss x=0:=by
 obtain ⟨h1,h2,h3,h4⟩:=nd_0 h
 exact nd_y h1 h2 (fun h=>h3 (by unfold lN at *;omega)) (by omega)
theorem tm_mono{z w:Int}(hw:z<=w)(h6:w<=64){t:List jO}(h:zP z t=0):zP w t=0:=by
 obtain ⟨h1,h2,h3,h4,h5⟩:=mQ h
 exact (tm_yes (by omega) h3 (by omega) fun i hi=>nd_mono hw (h5 i hi)).1
theorem szU_mem{t:List jO}:∀ {n k:Nat},k<n->gN (vZ t k) (t.getD k tz)∈vZ t n
 |0,k,h=>by omega
 |n+1,k,h=>by
  rw[vZ,List.mem_append]
  rcases Nat.lt_or_ge k n with h1 | h1
  ·exact .inl (szU_mem h1)
  ·obtain rfl:k=n:=by omega
   exact .inr (List.mem_singleton.2 rfl)
def StOk(n:Nat)(L:List JV)(x:jO):Prop:=bM n L x\/DzOk L x
theorem StOk.kd{n:Nat}{L:List JV}{x:jO}(h:StOk n L x):kZ x.op=0\/kZ x.op=1\/kZ x.op=2:=by
 rcases h with h | ⟨a,b,rfl,_⟩
 ·cases h<;>first | exact .inl rfl | exact .inr (.inl rfl) | exact .inr (.inr rfl)
 ·exact .inr (.inr rfl)
theorem StOk.a{n:Nat}{L:List JV}{x:jO}(h:StOk n L x)(h1:1<=kZ x.op):0<=x.a/\x.a.toNat<L.length:=by
 rcases h with h | ⟨a,b,rfl,ha,_⟩
 ·cases h with
  |c hp=>exact absurd h1 (by show ¬ (1:Int)<=kZ 0;decide)
  |v ha=>exact absurd h1 (by show ¬ (1:Int)<=kZ 1;decide)
  |add ha hb=>exact ⟨by show 0<=((_:Nat):Int);omega,by show (((_:Nat):Int)).toNat<_;rwa [Int.toNat_natCast]⟩
  |sub ha hb=>exact ⟨by show 0<=((_:Nat):Int);omega,by show (((_:Nat):Int)).toNat<_;rwa [Int.toNat_natCast]⟩
  |mul ha hb=>exact ⟨by show 0<=((_:Nat):Int);omega,by show (((_:Nat):Int)).toNat<_;rwa [Int.toNat_natCast]⟩
  |div ha hb hz=>exact ⟨by show 0<=((_:Nat):Int);omega,by show (((_:Nat):Int)).toNat<_;rwa [Int.toNat_natCast]⟩
  |neg ha=>exact ⟨by show 0<=((_:Nat):Int);omega,by show (((_:Nat):Int)).toNat<_;rwa [Int.toNat_natCast]⟩
  |sq ha=>exact ⟨by show 0<=((_:Nat):Int);omega,by show (((_:Nat):Int)).toNat<_;rwa [Int.toNat_natCast]⟩
 ·exact ⟨by show 0<=((_:Nat):Int);omega,by show (((_:Nat):Int)).toNat<_;rwa [Int.toNat_natCast]⟩
theorem StOk.b{n:Nat}{L:List JV}{x:jO}(h:StOk n L x)(h2:kZ x.op=2):0<=x.b/\x.b.toNat<L.length:=by
 rcases h with h | ⟨a,b,rfl,_,hb,_⟩
 ·cases h with
  |c hp=>exact absurd h2 (by show ¬ kZ 0=2;decide)
  |v ha=>exact absurd h2 (by show ¬ kZ 1=2;decide)
  |add ha hb=>exact ⟨by show 0<=((_:Nat):Int);omega,by show (((_:Nat):Int)).toNat<_;rwa [Int.toNat_natCast]⟩
  |sub ha hb=>exact ⟨by show 0<=((_:Nat):Int);omega,by show (((_:Nat):Int)).toNat<_;rwa [Int.toNat_natCast]⟩
  |mul ha hb=>exact ⟨by show 0<=((_:Nat):Int);omega,by show (((_:Nat):Int)).toNat<_;rwa [Int.toNat_natCast]⟩
  |div ha hb hz=>exact ⟨by show 0<=((_:Nat):Int);omega,by show (((_:Nat):Int)).toNat<_;rwa [Int.toNat_natCast]⟩
  |neg ha=>exact absurd h2 (by show ¬ kZ 6=2;decide)
  |sq ha=>exact absurd h2 (by show ¬ kZ 7=2;decide)
 ·exact ⟨by show 0<=((_:Nat):Int);omega,by show (((_:Nat):Int)).toNat<_;rwa [Int.toNat_natCast]⟩
theorem bM.op{n:Nat}{L:List JV}{x:jO}(h:bM n L x):x.op=0\/x.op=1\/x.op=2\/x.op=3\/x.op=4\/x.op=5\/x.op=6\/x.op=7:=by
 cases h<;>simp
theorem bM.con{n:Nat}{L:List JV}{x:jO}(h:bM n L x)(e:x.op=0):x.n=jM (vC x.n)/\QL (vC x.n) 1048576:=by
 cases h with
 |c hp=>exact ⟨by rw[nI],by rw[nI];exact hp⟩
 |_=>simp at e
theorem bM.var{n:Nat}{L:List JV}{x:jO}(h:bM n L x)(e:x.op=1):0<=x.a/\x.a.toNat<n:=by
 cases h with
 |v ha=>exact ⟨by show 0<=((_:Nat):Int);omega,by show (((_:Nat):Int)).toNat<_;rwa [Int.toNat_natCast]⟩
 |_=>simp at e
theorem DzOk.kd{L:List JV}{x:jO}(h:DzOk L x):kZ x.op=2:=by
 obtain ⟨a,b,rfl,_⟩:=h
 rfl
structure DEnd (bx:List R2) (t:List jO) (k0:Nat):Prop where
 c0:zP ((bx.length:Nat):Int) t=0
 le:k0<=t.length
 nd:∀ j,j<k0->bM bx.length (jU bx t j) (t.getD j tz)
 ok:∀ j,j<=k0->∀ y∈jU bx t j,cF 1048576 bx.length y
 nv:∀ j,j<k0->cF 1048576 bx.length (nJ bx (jU bx t j) (t.getD j tz))
 dz:k0<t.length->DzOk (jU bx t k0) (t.getD k0 tz)
theorem DEnd.st{bx:List R2}{t:List jO}{k0 k:Nat}(h:DEnd bx t k0)(hk:k<=k0)(hl:k<t.length):StOk bx.length (jU bx t k) (t.getD k tz):=by
 rcases Nat.lt_or_ge k k0 with h1 | h1
 ·exact .inl (h.nd k h1)
 ·obtain rfl:k=k0:=by omega
  exact .inr (h.dz hl)
theorem DEnd.last{bx:List R2}{t:List jO}(h:DEnd bx t t.length):cF 1048576 bx.length (dL bx t):=by
 have h0:=mQ h.c0
 have hl:=bD bx t t.length
 refine h.ok t.length (Nat.le_refl _) _ ?_
 unfold dL
 exact cR (by omega)
end Go.Fid
namespace Go.Proofs.YtckccjhflbljgaaGreatDoor
open Go.Fid
end Go.Proofs.YtckccjhflbljgaaGreatDoor
namespace Go.Proofs.YtckccjhflbljgaaGreatDoor
open Go.Fid
def dgB(x:jO):Bool:=decide (digR x.n<=8)
def szB(m:Nat)(s:Int):Bool:=decide (s<=(m:Int))
def gP(n m:Nat)(t:List jO):Bool:=decide (t.length<=n)&&(t.all dgB&&(decide (zP 8 t≠0)||(tmL 8 t).all (szB m)))
theorem fewT_long{n m:Nat}{t:List jO}(h:((n:Nat):Int)<((t.length:Nat):Int)):gP n m t=false:=by unfold gP;rw[decide_eq_false (by omega)];rfl
theorem fewT_dig{n m:Nat}{t:List jO}(h:t.all dgB=false):gP n m t=false:=by unfold gP;rw[h,Bool.false_and,Bool.and_false]
theorem fewT_code{n m:Nat}{t:List jO}(h0:¬ ((n:Nat):Int)<((t.length:Nat):Int))(h:t.all dgB=true)(hc:((zP 8 t:Nat):Int)≠0):gP n m t=true:=by
 unfold gP;rw[decide_eq_true (by omega),h,decide_eq_true (by omega)];rfl
theorem tmL_len{z:Int}{t:List jO}(h:((zP z t:Nat):Int)=0):(tmL z t).length=t.length:=by
 unfold tmL;rw[if_pos (by omega),qM]
theorem fewT_big{n m:Nat}{t:List jO}(hc:((zP 8 t:Nat):Int)=0)(h:(tmL 8 t).all (szB m)=false):gP n m t=false:=by
 unfold gP;rw[h,Bool.or_false,show decide (zP 8 t≠0)=false from decide_eq_false (by omega),Bool.and_false,Bool.and_false]
theorem fewT_yes{n m:Nat}{t:List jO}(h0:¬ ((n:Nat):Int)<((t.length:Nat):Int))(h:t.all dgB=true)(hs:(tmL 8 t).all (szB m)=true):gP n m t=true:=by
 unfold gP;rw[decide_eq_true (by omega),h,hs,Bool.or_true];rfl
theorem dgB_y{x:jO}(h:¬ ((8:Nat):Int)<((digR x.n:Nat):Int)):dgB x=true:=decide_eq_true (by omega)
theorem dgB_n{x:jO}(h:((8:Nat):Int)<((digR x.n:Nat):Int)):dgB x=false:=decide_eq_false (by omega)
theorem dg_ok{t:List jO}(h:t.all dgB=true):∀ x∈t,yX x.n (vC x.n) 8:=fun x hx=>by
 have h1:=List.all_eq_true.1 h x hx
 unfold dgB digR at h1
 rw[decide_eq_true_eq] at h1
 exact iY (by decide) (by omega) (by omega)
theorem mF{n m:Nat}{t:List jO}(h:gP n m t=true):t.length<=n/\(∀ x∈t,yX x.n (vC x.n) 8)/\(zP 8 t=0->∀ s∈tmL 8 t,s<=(m:Int)):=by
 unfold gP at h
 rw[Bool.and_eq_true,Bool.and_eq_true,Bool.or_eq_true,decide_eq_true_eq,decide_eq_true_eq] at h
 refine ⟨h.1,dg_ok h.2.1,fun hc s hs=>?_⟩
 rcases h.2.2 with h1 | h1
 ·exact absurd hc h1
 ·have:=List.all_eq_true.1 h1 s hs
  unfold szB at this
  rwa [decide_eq_true_eq] at this
theorem tame_of{n m:Nat}{bx:List R2}{t:List jO}(h:gP n m t=true)(hm:m<=140)(h8:bx.length<=8)(hb:∀ y∈bx,GL 24 y)(hc:zP ((bx.length:Nat):Int) t=0):eR bx t:=by
 obtain ⟨_,h2,h3⟩:=mF h
 have hc8:zP 8 t=0:=tm_mono (by omega) (by decide) hc
 refine ⟨hc,h2,hb,fun k hk=>?_⟩
 have h4:=h3 hc8 (gN (vZ t k) (t.getD k tz)) (by unfold tmL;rw[if_pos hc8];exact szU_mem hk)
 omega
theorem gpt_24{xs:List Rat}(h:∀ q∈xs,QL q 24):∀ y∈List.map gpt xs,GL 24 y:=fun y hy=>by
 obtain ⟨q,hq,rfl⟩:=List.mem_map.1 hy
 exact gl_pt (h q hq)
theorem gpt_8{xs:List Rat}(h:∀ q∈xs,QL q 8):∀ y∈List.map gpt xs,GL 24 y:=gpt_24 fun q hq=>uE (h q hq) (by decide)
theorem shR_len{c n:Nat}{l:List kT}(h:shR c n l=true):l.length<=c:=by
 unfold shR at h;rw[Bool.and_eq_true,decide_eq_true_eq] at h;exact h.1
theorem shR_ok{c n:Nat}{l:List kT}(h:shR c n l=true)(h1:1<=n):∀ x∈l,yX x (vC x) n:=fun x hx=>by
 unfold shR at h;rw[Bool.and_eq_true] at h
 have h3:=shX_le (List.all_eq_true.1 h.2 x hx)
 unfold digR at h3
 exact iY h1 (by omega) (by omega)
theorem vrow_map:∀ {l:List kT},vRow l=true->List.map jM (List.map vC l)=l
 |[],_=>rfl
 |x::l,h=>by
  unfold vRow at h
  rw[List.all_cons,Bool.and_eq_true] at h
  rw[List.map_cons,List.map_cons,vrow_map (l:=l) h.2,ofQ_toQ h.1]
theorem row_form{c n:Nat}{l:List kT}(h:shR c n l=true)(h1:1<=n)(hv:vRow l=true):∃ xs:List Rat,l=List.map jM xs/\(∀ q∈xs,QL q n)/\xs.length<=c:=by
 refine ⟨l.map vC,?_,fun q hq=>?_,by rw[List.length_map];exact shR_len h⟩
 ·exact (vrow_map hv).symm
 ·obtain ⟨x,hx,rfl⟩:=List.mem_map.1 hq
  exact (shR_ok h h1 x hx).ql
def exT:List jO:=[⟨1,0,0,zr⟩,⟨1,1,0,zr⟩,⟨4,0,1,zr⟩,⟨7,0,0,zr⟩,⟨2,2,3,zr⟩]
def exD:List jO:=[⟨1,0,0,zr⟩,⟨1,1,0,zr⟩,⟨0,0,0,jM ((2:Int):Rat)⟩,⟨4,2,0,zr⟩,⟨2,1,3,zr⟩]
def exX:List Rat:=zQ [2,3]
def exB:List R2:=[(((1:Int):Rat),((2:Int):Rat)),(((3:Int):Rat),((4:Int):Rat))]
theorem exX_ql:∀ q∈exX,QL q 1048576:=fun q hq=>uE (zQ_ql (by decide) q hq) (by decide)
theorem exB_gl:∀ x∈exB,GL 1048576 x:=by unfold exB;decide +kernel
theorem zr_ok:yX zr (vC zr) 1048576:=⟨rfl,by decide,by decide,by decide⟩
theorem exT_ok:∀ x∈exT,yX x.n (vC x.n) 1048576:=fun x hx=>by
 have:x.n=zr:=by
  unfold exT at hx
  simp only[List.mem_cons,List.not_mem_nil,or_false] at hx
  rcases hx with rfl | rfl | rfl | rfl | rfl<;>rfl
 rw[this]
 exact zr_ok
theorem exD_ok:∀ x∈exD,yX x.n (vC x.n) 1048576:=fun x hx=>by
 have:x.n=zr\/x.n=jM ((2:Int):Rat):=by
  unfold exD at hx
  simp only[List.mem_cons,List.not_mem_nil,or_false] at hx
  rcases hx with rfl | rfl | rfl | rfl | rfl<;>first | exact .inl rfl | exact .inr rfl
 rcases this with h | h
 ·rw[h];exact zr_ok
 ·rw[h,nI];exact kC (ql_i)
theorem exT_c0:zP ((2:Nat):Int) exT=0:=by decide +kernel
theorem exT_run:iB exX exT:=by
 refine ⟨by decide +kernel,⟨fun k hk=>?_,fun k hk=>?_⟩⟩
 ·match k,hk with
  |0,_=>unfold QL;decide +kernel
  |1,_=>unfold QL;decide +kernel
  |2,_=>unfold QL;decide +kernel
  |3,_=>unfold QL;decide +kernel
  |4,_=>unfold QL;decide +kernel
 ·match k,hk with
  |0,_=>intro h;revert h;decide
  |1,_=>intro h;revert h;decide
  |2,_=>intro h;revert h;decide
  |3,_=>intro h;revert h;decide
  |4,_=>intro h;revert h;decide
theorem exD_run:iB exX exD:=by
 refine ⟨by decide +kernel,⟨fun k hk=>?_,fun k hk=>?_⟩⟩
 ·match k,hk with
  |0,_=>unfold QL;decide +kernel
  |1,_=>unfold QL;decide +kernel
  |2,_=>unfold QL;decide +kernel
  |3,_=>unfold QL;decide +kernel
  |4,_=>unfold QL;decide +kernel
 ·match k,hk with
  |0,_=>intro h;revert h;decide
  |1,_=>intro h;revert h;decide
  |2,_=>intro h;revert h;decide
  |3,_=>intro h;revert h;decide
  |4,_=>intro h;revert h;decide
theorem exB_run:JRun exB exT:=by
 refine ⟨by decide +kernel,fun k hk=>?_,fun k hk=>?_⟩
 ·match k,hk with
  |0,_=>exact ⟨by decide +kernel,by decide +kernel,rfl⟩
  |1,_=>exact ⟨by decide +kernel,by decide +kernel,rfl⟩
  |2,_=>exact ⟨by decide +kernel,by decide +kernel,rfl⟩
  |3,_=>exact ⟨by decide +kernel,by decide +kernel,rfl⟩
  |4,_=>exact ⟨by decide +kernel,by decide +kernel,rfl⟩
 ·match k,hk with
  |0,_=>intro h;revert h;decide
  |1,_=>intro h;revert h;decide
  |2,_=>intro h;revert h;decide
  |3,_=>intro h;revert h;decide
  |4,_=>intro h;revert h;decide
theorem ex_10:xA exX exT=((10:Int):Rat):=by decide +kernel
theorem ex_7:xA exX exD=((7:Int):Rat):=by decide +kernel
theorem ex_v:(dL exB exT).v=(((4:Int):Rat),((12:Int):Rat)):=by decide +kernel
theorem ex_g:(dL exB exT).g=[(((5:Int):Rat),((8:Int):Rat)),(((1:Int):Rat),((2:Int):Rat))]:=by decide +kernel
instance:DecidableEq kS:=fun a b=>if h:a.neg=b.neg/\a.gs=b.gs then isTrue (by cases a;cases b;obtain ⟨rfl,rfl⟩:=h;rfl) else isFalse (fun e=>h (by rw[e];exact ⟨rfl,rfl⟩))
instance:DecidableEq kT:=fun a b=>if h:a.num=b.num/\a.den=b.den then isTrue (by cases a;cases b;obtain ⟨rfl,rfl⟩:=h;rfl) else isFalse (fun e=>h (by rw[e];exact ⟨rfl,rfl⟩))
instance:DecidableEq jO:=fun a b=>if h:a.op=b.op/\a.a=b.a/\a.b=b.b/\a.n=b.n then isTrue (by cases a;cases b;obtain ⟨rfl,rfl,rfl,rfl⟩:=h;rfl) else isFalse (fun e=>h (by rw[e];exact ⟨rfl,rfl,rfl,rfl⟩))
theorem ex_d:DRT 0 exT=exD:=by decide +kernel
theorem ex_c:DRC 0 exT=0:=by decide +kernel
theorem x_exm :jQ Tryz.prog 40 [] (.sl 72 7 (List.map jK exT)):=by
 let y2:=uG
 let y1:=[(jO.mk 1 0 0 y2),(jO.mk 1 1 0 y2),(jO.mk 4 0 1 y2),(jO.mk 7 0 0 y2),(jO.mk 2 2 3 y2)]
 refine uR Tryz.func40 ?_
 refine jB<|kx [] [] (zE (aY 72 7)<|zZ) ?_
 refine jB<|kx [(0,(vl 72 7 jK y1))] [] (zE (oBd pl72 mD dH)<|zE (oBd pl72 mD dH)<|zE (oBd pl72 mD dH)<|zE (oBd pl72 mD dH)<|zE (oBd pl72 mD dH)<|zE (eY vE mD dH)<|zM<|zZ) ?_
 refine jF ⟨_,(.tmp (d:=(.sl 72 7 (List.map jK y1))) rfl .nil),?_⟩
 rfl
theorem x_whole(zs:List Int)(hz:∀ z∈zs,-9223372036854775808<=z/\z<=9223372036854775807:=by decide)(hzl:zs.length<=1000000:=by decide):jQ Tryz.prog 41 [(.sl 3 1 (List.map jL zs))] (.sl 32 4 (List.map jG (List.map jM (zQ zs)))):=by
 refine uR Tryz.func41 ?_
 refine jB<|kx [] [] (zE (aY 32 4)<|zZ) ?_
 refine jB<|kx [(3,(.own 0 32 4 0))] [(0,some (uK jG []))] (zN (oBo 0 qF qY uJ)<|zM<|zZ) ?_
 refine jB<|jB<|kx [(7,(vl 3 1 jL zs)),(8,(kF zs.length)),(9,(kF 0))] [] (zM<|zE (xW uI)<|zM<|zZ) ?_
 refine jH<|kO (α:=Nat × List kT) (fun (i,o)=>⟨[(3,(.own 0 32 4 o.length)),(7,(vl 3 1 jL zs)),(8,(kF zs.length)),(9,(kF i))],[(0,some (uK jG o))]⟩) (fun (i,o)=>i<=zs.length/\o=(zs.take i).map (fun z:Int=>jM (z:Rat))) (fun (i,o)=>zs.length-i) (0,[]) wk ⟨Nat.zero_le _,by simp⟩ ?_
 rintro ⟨i,o⟩ ⟨hi,ho⟩
 have hol:o.length=i:=by rw[ho,List.length_map,List.length_take];omega
 refine jB<|kx [(10,(vb (decide (((i:Nat):Int)<((zs.length:Nat):Int)))))] [] (zE gZ<|zZ) ?_
 refine jB<|jE rfl (fun h1=>?_) (fun h1=>?_)
 ·replace h1:=vY h1
  have hzi:=zs_at hz (show i<zs.length by omega)
  refine jD<|jB<|jH<|jB<|kx [(5,(vi (zs.getD i 0)))] [] (zE (cT uI i (0:Int))<|zE (nY qZ)<|zM<|zZ) ?_
  refine kf [(3,(.own 0 32 4 ((o++[(jM ((zs.getD i 0:Int):Rat))]).length)))] [(0,some (uK jG (o++[(jM ((zs.getD i 0:Int):Rat))])))] (zM<|zM<|zE (jY (g_whole (zs.getD i 0) (by omega) (by omega)))<|zE (eY qF qY uJ)<|zAS jG o [(jM ((zs.getD i 0:Int):Rat))] rfl qF qY by32<|zM<|zF) ?_
  refine kx [(9,(kF (i+1)))] [] (zE (vT (i+1))<|zM<|zZ) ?_
  exact ⟨(i+1,o++[jM ((zs.getD i 0:Int):Rat)]),wk,⟨by omega,by rw[ho];exact mapt_step (f:=fun z:Int=>jM (z:Rat)) (by omega)⟩,(by first|omega|(dsimp only;omega))⟩
 ·replace h1:=xC h1
  refine kL<|jB<|kx [(2,(.own 0 32 4 o.length))] [] (zM<|zM<|zZ) ?_
  refine qG (yG (t:=2) (k:=0) (es:=List.map jG o) rfl rfl (fP _ _ (fun _=>rfl)) (xR _ _ rfl) (bO jG o (fun _=>rfl) rfl)) ?_
  refine jF ⟨_,(.tmp (d:=(.sl 32 4 (List.map jG o))) rfl .nil),?_⟩
  rw[ho,show i=zs.length by omega,List.take_length,show List.map (fun z:Int=>jM (z:Rat)) zs=List.map jM (zQ zs) from (by unfold zQ;rw[List.map_map];rfl)];rfl
theorem exT_tx:∀ x∈exT,x.op=0->lI (vC x.n):=fun x hx h0=>by
 unfold exT at hx
 simp only[List.mem_cons,List.not_mem_nil,or_false] at hx
 rcases hx with rfl | rfl | rfl | rfl | rfl<;>exact absurd h0 (by decide)
theorem exB_runP:JRunP exB exT:=run_p exB_gl exT_ok exB_run
theorem mZ :jQ Tryz.prog 8 [] (.val (.bool (true))):=by
 have hxl:exX.length=2:=rfl
 have hgl:(dL exB exT).g.length=2:=by rw[ex_g];rfl
 let y2:=(kK.mk (jM ((5:Int):Rat)) (jM ((8:Int):Rat)))
 let y1:=(kK.mk (jM ((4:Int):Rat)) (jM ((12:Int):Rat)))
 refine uR Tryz.func8 ?_
 refine jB<|kx [] [] (zM<|zZ) ?_
 refine jB<|kx [(1,(.ref 0 0)),(2,(kF 0))] [(0,some (bx (jG (jM ((10:Int):Rat)))))] (zE (oQd (.sl 72 7 (List.map jK exT)) (.sl 72 7 (List.map jK exT)) (jY x_exm) (by exact rfl))<|zE (eY uI ze3 zo3)<|zE (oQd (.sl 32 4 (List.map jG (List.map jM (zQ [((2:Nat):Int),((3:Nat):Int)])))) (.sl 32 4 (List.map jG (List.map jM exX))) (jY (x_whole [((2:Nat):Int),((3:Nat):Int)])) (by exact rfl))<|zE (jY (p_val exT exT_ok exX exX_ql exT_run (by omega)))<|zM<|zE (oQd (jG (jM (xA exX exT))) (jG (jM ((10:Int):Rat))) xJ (by exact (congrArg (fun q=>jG (jM q)) ex_10)))<|zE xJ<|zN (vH 0 qY uJ)<|zT (qJ jT)<|zM<|zZ) ?_
 refine jB ?_
 have bn1:QL ((1:Int):Rat) 1:=(zW (z:=1) (xB))
 have bn2:QL ((2:Int):Rat) 1:=(zW (z:=2) (xB))
 have bn3:QL ((3:Int):Rat) 1:=(zW (z:=3) (xB))
 have bn4:QL ((4:Int):Rat) 1:=(zW (z:=4) (xB))
 refine kx [(3,(.ref 1 0)),(4,(kF 0))] [(1,some (bx (jP (uW (dL exB exT)))))] (zE (oQd (.sl 72 7 (List.map jK exT)) (.sl 72 7 (List.map jK exT)) (jY x_exm) (by exact rfl))<|zE (jY (h_whole 1 2))<|zE (jY (h_whole 3 4))<|zE (oQd (.sl 42 8 (List.map jN [(kK.mk (jM ((1:Int):Rat)) (jM ((2:Int):Rat))),(kK.mk (jM ((3:Int):Rat)) (jM ((4:Int):Rat)))])) (.sl 42 8 (List.map jN (List.map qI exB))) (eY dX xT xZ) (by exact rfl))<|zE (jY (j_jets exT exT_ok exB exB_gl exB_runP))<|zM<|zE xJ<|zE xJ<|zN (vH 1 ze46 zo46)<|zT (qJ sh46)<|zM<|zZ) ?_
 refine jB<|kx [(5,(vl 72 7 jK exD)),(6,(kF 0))] [] (zE (oQd (.sl 72 7 (List.map jK exT)) (.sl 72 7 (List.map jK exT)) (jY x_exm) (by exact rfl))<|zE (jY (p_drv exT exT_ok 2 0 exT_c0 (by omega) (bZ 0) (bZ 1) (bZ 2) exT_tx))<|zM<|zE (oQd (.sl 72 7 (List.map jK (DRT 0 exT))) (.sl 72 7 (List.map jK exD)) xJ (by exact (congrArg (fun t=>jS.sl 72 7 (List.map jK t)) ex_d)))<|zE (oQd (.val (.int .i64 ((((DRC 0 exT):Nat):Int)))) (.val (.int .i64 (((0:Nat):Int)))) xJ (by exact (congrArg (fun n:Nat=>jS.val (.int .i64 ((n:Nat):Int))) ex_c)))<|zM<|zM<|zZ) ?_
 refine jB<|kx [(7,(.ref 2 0)),(8,(kF 0))] [(2,some (bx (jG (jM ((7:Int):Rat)))))] (zM<|zE (eY uI ze3 zo3)<|zE (oQd (.sl 32 4 (List.map jG (List.map jM (zQ [((2:Nat):Int),((3:Nat):Int)])))) (.sl 32 4 (List.map jG (List.map jM exX))) (jY (x_whole [((2:Nat):Int),((3:Nat):Int)])) (by exact rfl))<|zE (jY (p_val exD exD_ok exX exX_ql exD_run (by omega)))<|zM<|zE (oQd (jG (jM (xA exX exD))) (jG (jM ((7:Int):Rat))) xJ (by exact (congrArg (fun q=>jG (jM q)) ex_7)))<|zE xJ<|zN (vH 2 qY uJ)<|zT (qJ jT)<|zM<|zZ) ?_
 refine jB<|jB<|kx [(55,(vb false))] [] (zM<|zE (vS false cK)<|zM<|zM<|zE (vS false cK)<|zE vL<|zM<|zM<|zE (vS false cK)<|zE vL<|zM<|zM<|zE (vS false cK)<|zE vL<|zM<|zE (kI cG)<|zR (mR (.sl 42 8 (List.map jN (List.map qI ((dL exB exT).g)))) (.sl 42 8 (List.map jN (List.map qI ((dL exB exT).g)))) (qH sh43) (by exact rfl))<|zE (oLn dX (((dL exB exT).g).length))<|zE (vS false cK (by exact bne_eq_false_iff_eq.2 (by rw[show ((dL exB exT).g).length=2 from (by rw[ex_g];rfl)]<;>rfl)))<|zE vL<|zZ) ?_
 refine qE ?_
 refine jD<|jB ?_
 have bn5:QL ((10:Int):Rat) 1:=(zW (z:=10) (xB))
 have bn6:QL ((7:Int):Rat) 1:=(zW (z:=7) (xB))
 have bn7:QL ((12:Int):Rat) 1:=(zW (z:=12) (xB))
 have bn8:QL ((5:Int):Rat) 1:=(zW (z:=5) (xB))
 have bn9:QL ((8:Int):Rat) 1:=(zW (z:=8) (xB))
 refine kd [(0,(vb true))] [] mo (wR (kP jT)<|wE (jY (g_whole 10))<|wE (vS true (jY (by have h:=g_same (jM ((10:Int):Rat)) (jM ((10:Int):Rat)) ((10:Int):Rat) ((10:Int):Rat) (jW (kC (zW (mU)))) (jW (kC bn5));rw[sameR_of] at h;exact h)) (by exact decide_eq_true rfl))<|wM<|wR (kP jT)<|wE (jY (g_whole 7))<|wE (vS true (jY (by have h:=g_same (jM ((7:Int):Rat)) (jM ((7:Int):Rat)) ((7:Int):Rat) ((7:Int):Rat) (jW (kC (zW (mU)))) (jW (kC bn6));rw[sameR_of] at h;exact h)) (by exact decide_eq_true rfl))<|wE yH<|wM<|wE (kI mA)<|wR (mR (jN (qI ((dL exB exT).v))) (jN y1) (kP kN) (by exact (congrArg (fun p=>jN (qI p)) ex_v)))<|wE (jY (h_whole 4 12))<|wE (jY (by have h:=h_same y1 y1 (cQ (⟨qX (jW (kC (zW (mU))) (by decide:3<=3)),qX (jW (kC (zW (mU))) (by decide:3<=3))⟩)) (cQ (⟨qX (jW (kC bn4) (by decide:1<=1)),qX (jW (kC bn7) (by decide:1<=1))⟩));rw[show sameG y1 y1=true from by rw[sameG_of];kernel_rfl] at h;exact h))<|wE yH<|wM<|wE (kI cG)<|wR (mR (.sl 42 8 (List.map jN (List.map qI ((dL exB exT).g)))) (.sl 42 8 (List.map jN (List.map qI ((dL exB exT).g)))) (qH sh43) (by exact rfl))<|wE (oXm dX qI 0 z2)<|wE (oQd (jN (qI (((dL exB exT).g).getD 0 z2))) (jN y2) (eJ kN) (by exact (by rw[ex_g];rfl)))<|wE (jY (h_whole 5 8))<|wE (jY (by have h:=h_same y2 y2 (cQ (⟨qX (jW (kC (zW (mU))) (by decide:3<=3)),qX (jW (kC (zW (mU))) (by decide:3<=3))⟩)) (cQ (⟨qX (jW (kC bn8) (by decide:1<=1)),qX (jW (kC bn9) (by decide:1<=1))⟩));rw[show sameG y2 y2=true from by rw[sameG_of];kernel_rfl] at h;exact h))<|wE yH<|wM<|wE (jY x_exm)<|wE (oQd (.val (.int .i64 ((((zP 2 exT):Nat):Int)))) (.val (.int .i64 (((0:Nat):Int)))) (jY (j_chk exT exT_ok ((2:Nat):Int))) (by exact (congrArg (fun n:Nat=>jS.val (.int .i64 ((n:Nat):Int))) exT_c0)))<|wE (vS true xU)<|wE yH<|wM<|wZ) ?_
 refine jF ⟨_,(.tmp (d:=(.val (.bool (true)))) rfl .nil),?_⟩
 rfl
end Go.Proofs.YtckccjhflbljgaaGreatDoor
