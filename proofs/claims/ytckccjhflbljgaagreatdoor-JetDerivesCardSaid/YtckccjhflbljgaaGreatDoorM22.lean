/- Part 22 of a proof: rules, plain facts, and functions walked. -/
import Derived.Test.YtckccjhflbljgaaGreatDoorM12
import Derived.Test.YtckccjhflbljgaaGreatDoorM20
import Derived.Test.YtckccjhflbljgaaGreatDoorM21
import Derived.Test.YtckccjhflbljgaaGreatDoorM13
import Derived.Test.YtckccjhflbljgaaGreatDoorM18
import Derived.Test.YtckccjhflbljgaaGreatDoorM17
import Derived.Test.YtckccjhflbljgaaGreatDoorM11
import Derived.Test.YtckccjhflbljgaaGreatDoorM19
set_option linter.all false
set_option maxRecDepth 4000
namespace Go.Fid
open List
theorem gs0(a:R2):gS (gw 0) a=lR a:=by
 unfold gS gw lR
 rw[show ((0:Int):Rat)=0 from rfl,Rat.sub_eq_add_neg,Rat.sub_eq_add_neg,Rat.zero_add,Rat.zero_add]
theorem ga0(a:R2):qE (gw 0) a=a:=by
 unfold qE gw
 rw[show ((0:Int):Rat)=0 from rfl,Rat.zero_add,Rat.zero_add]
def bV(s:Nat):Nat:=25*s-1
def bG(s:Nat):Nat:=51*(s*s)
def cO(v:R2)(g:Nat->R2)(s:Nat):Prop:=GL (bV s) v/\∀ i,GL (bG s) (g i)
def BdOk(ss:List Int)(L:List JV):Prop:=∀ j,j<L.length->∃ s:Nat,ss.getD j 0=(s:Int)/\1<=s/\cO (L.getD j jz).v (λi=>(L.getD j jz).g.getD i z2) s
theorem gl_0:GL 3 (gw 0):=gl_w (z:=0) (by omega) (by omega)
theorem gl_1:GL 3 (gw 1):=gl_w (z:=1) (by omega) (by omega)
theorem gl_2:GL 3 (gw 2):=gl_w (z:=2) (by omega) (by omega)
theorem sq_sum(s r:Nat):(s+r)*(s+r)=s*s+r*r+2*(s*r):=by
 rw[Nat.add_mul,Nat.mul_add,Nat.mul_add,Nat.mul_comm r s];omega
theorem sr_le{s r:Nat}(hs:1<=s)(hr:1<=r):s+r<=2*(s*r):=by
 have h1:s*1<=s*r:=Nat.mul_le_mul (Nat.le_refl _) hr
 have h2:1*r<=s*r:=Nat.mul_le_mul hs (Nat.le_refl _)
 omega
theorem cO.pt{v:R2}{g:Nat->R2}(hv:GL 24 v)(hg:∀ i,GL 3 (g i)):cO v g 1:=⟨hv,λi=>kU (hg i) (by decide)⟩
theorem cO.add{v w:R2}{g h:Nat->R2}{s r:Nat}(hs:1<=s)(hr:1<=r)(a:cO v g s)(b:cO w h r):cO (qE v w) (λi=>qE (g i) (h i)) (s+r):=by
 have e:=sq_sum s r
 have e2:=sr_le hs hr
 exact ⟨gY a.1 b.1 (by unfold bV;omega),λi=>gY (a.2 i) (b.2 i) (by unfold bG;omega)⟩
theorem cO.sub{v w:R2}{g h:Nat->R2}{s r:Nat}(hs:1<=s)(hr:1<=r)(a:cO v g s)(b:cO w h r):cO (gS v w) (λi=>gS (g i) (h i)) (s+r):=by
 have e:=sq_sum s r
 have e2:=sr_le hs hr
 exact ⟨gl_sub a.1 b.1 (by unfold bV;omega),λi=>gl_sub (a.2 i) (b.2 i) (by unfold bG;omega)⟩
theorem cO.mul{v w:R2}{g h:Nat->R2}{s r:Nat}(hs:1<=s)(hr:1<=r)(a:cO v g s)(b:cO w h r):cO (kL v w) (λi=>qE (kL v (h i)) (kL w (g i))) (s+r):=by
 have e:=sq_sum s r
 have e2:=sr_le hs hr
 exact ⟨uM a.1 b.1 (by unfold bV;omega),λi=>gY (uM a.1 (b.2 i) (Nat.le_refl _)) (uM b.1 (a.2 i) (Nat.le_refl _)) (by unfold bV bG;omega)⟩
theorem cO.div{v w:R2}{g h:Nat->R2}{s r:Nat}(hs:1<=s)(hr:1<=r)(a:cO v g s)(b:cO w h r):cO (fK v w) (λi=>fK (gS (g i) (kL (fK v w) (h i))) w) (s+r):=by
 have e:=sq_sum s r
 have e2:=sr_le hs hr
 have hq:GL (bV (s+r)) (fK v w):=gl_div a.1 b.1 (by unfold bV;omega)
 exact ⟨hq,λi=>gl_div (gl_sub (a.2 i) (uM hq (b.2 i) (Nat.le_refl _)) (Nat.le_refl _)) b.1 (by unfold bV bG;omega)⟩
theorem cO.neg{v:R2}{g:Nat->R2}{s:Nat}(a:cO v g s):cO (gS (gw 0) v) (λi=>gS (gw 0) (g i)) s :=
 ⟨by rw[gs0];exact gl_neg a.1,λi=>by show GL _ (gS (gw 0) (g i));rw[gs0];exact gl_neg (a.2 i)⟩
theorem cO.sq{v:R2}{g:Nat->R2}{s:Nat}(hs:1<=s)(a:cO v g s):cO (gsq v) (λi=>kL (gw 2) (kL v (g i))) (2*s):=by
 have e:=sq_sum s s
 have e2:=sr_le hs hs
 rw[show 2*s=s+s by omega]
 exact ⟨gl_sq a.1 (by unfold bV;omega),λi=>uM gl_2 (uM a.1 (a.2 i) (Nat.le_refl _)) (by unfold bV bG;omega)⟩
theorem nJ_get{bx:List R2}{L:List JV}{x:jS}{s:Nat}(h1:1<=s)(h:cO (nV bx L x) (nG bx L x) s):cO (nJ bx L x).v (λi=>(nJ bx L x).g.getD i z2) s:=by
 refine ⟨h.1,λi=>?_⟩
 have h2:s*1<=s*s:=Nat.mul_le_mul (Nat.le_refl _) h1
 show GL _ ((nJ bx L x).g.getD i z2)
 unfold nJ jk
 dsimp only
 rw[getD_eq_getElem?_getD,getElem?_map]
 rcases Nat.lt_or_ge i bx.length with h3 | h3
 ·rw[getElem?_range h3];exact h.2 i
 ·rw[getElem?_eq_none (by simpa using h3)]
  exact ⟨uG cY (by unfold bG;omega),uG cY (by unfold bG;omega),Rat.le_refl⟩
theorem bd_at{ss:List Int}{L:List JV}(h:BdOk ss L){a:Int}(h0:0<=a)(h1:a<L.length):∃ s:Nat,ss.getD a.toNat 0=(s:Int)/\1<=s/\cO (jA L a).v (λi=>(jA L a).g.getD i z2) s:=h a.toNat (by omega)
theorem bd_node{z:Int}{ss:List Int}{L:List JV}{bx:List R2}{x:jS}(hk:ndC z ss x=0)(hl:ss.length=L.length)(hq:yB x.n (qS x.n) 8)(hb:∀ y∈bx,GL 24 y)(h:BdOk ss L) :
  ∃ s:Nat,mP ss x=(s:Int)/\1<=s/\cO (nV bx L x) (nG bx L x) s:=by
 obtain ⟨h1,h2,h3,_⟩:=nd_0 hk
 unfold dI at h1
 unfold eA at h2
 rcases vJ x.op with ⟨e,f⟩ | ⟨e,f⟩ | ⟨e,f⟩ | ⟨e,f⟩
 ·refine ⟨1,by unfold mP;rw[if_pos e];rfl,Nat.le_refl _,?_⟩
  rcases f with f | f
  ·refine .pt ?_ λi=>?_
   ·unfold nV;rw[if_pos f];exact kU (gl_pt hq.ql) (by decide)
   ·unfold nG;rw[if_pos f];exact gl_0
  ·refine .pt ?_ λi=>?_
   ·unfold nV;rw[if_neg (by omega),if_pos f];exact uH hb (by decide) _
   ·unfold nG;rw[if_neg (by omega),if_pos f];split
    ·exact gl_1
    ·exact gl_0
 ·obtain ⟨s,e1,e2,e3⟩:=bd_at h (a:=x.a) (by omega) (by omega)
  rcases f with f | f
  ·refine ⟨s,by unfold mP;rw[if_neg (by omega),if_pos f];exact e1,e2,?_⟩
   have e4:=e3.neg
   unfold nV nG;simp only[f];exact e4
  ·refine ⟨2*s,by unfold mP;rw[if_neg (by omega),if_neg (by omega),if_pos f,e1];omega,by omega,?_⟩
   have e4:=e3.sq e2
   unfold nV nG;simp only[f];exact e4
 ·obtain ⟨s,e1,e2,e3⟩:=bd_at h (a:=x.a) (by omega) (by omega)
  obtain ⟨r,g1,g2,g3⟩:=bd_at h (a:=x.b) (by omega) (by omega)
  refine ⟨s+r,by unfold mP;rw[if_neg (by omega),if_neg (by omega),if_neg (by omega),e1,g1];omega,by omega,?_⟩
  rcases f with f | f | f | f
  ·have e4:=e3.add e2 g2 g3
   unfold nV nG;simp only[f];exact e4
  ·have e4:=e3.sub e2 g2 g3
   unfold nV nG;simp only[f];exact e4
  ·have e4:=e3.mul e2 g2 g3
   unfold nV nG;simp only[f];exact e4
  ·have e4:=e3.div e2 g2 g3
   unfold nG;unfold nV;simp only[f];exact e4
 ·omega
theorem zG{α:Type}{l:List α}{x d:α}{j:Nat}:(l++[x]).getD j d=if j<l.length then l.getD j d else if j=l.length then x else d:=by
 rw[getD_eq_getElem?_getD,getD_eq_getElem?_getD]
 split
 ·rename_i h;rw[getElem?_append_left h]
 ·rename_i h
  rw[getElem?_append_right (by omega)]
  split
  ·rename_i e;subst e;rw[Nat.sub_self];rfl
  ·rename_i e;rw[getElem?_eq_none (by simp;omega)];rfl
structure cQ (bx:List R2) (t:List jS):Prop where
 c0:yT ((bx.length:Nat):Int) t=0
 q:∀ x∈t,yB x.n (qS x.n) 8
 b:∀ y∈bx,GL 24 y
 s:∀ k,k<t.length->mP (gM t k) (t.getD k tz)<=140
theorem qG{α:Type}{l:List α}{d:α}{k:Nat}(h:k<l.length):l.getD k d∈l:=by
 rw[getD_eq_getElem?_getD,getElem?_eq_getElem h];exact getElem_mem _
theorem cQ.bd{bx:List R2}{t:List jS}(h:cQ bx t):∀ {k:Nat},k<=t.length->BdOk (gM t k) (jU bx t k)
 |0,_=>λj hj=>by simp [jU] at hj
 |k+1,hk=>λj hj=>by
  have ih:=h.bd (k:=k) (by omega)
  have l1:=xE t k
  have l2:=gZ bx t k
  rw[gZ] at hj
  have g1:(gM t (k+1)).getD j 0=_:=zG
  have g2:(jU bx t (k+1)).getD j jz=_:=zG
  rcases Nat.lt_or_ge j k with hjk | hjk
  ·rw[if_pos (by omega)] at g1 g2
   rw[g1,g2];exact ih j (by omega)
  ·rw[if_neg (by omega),if_pos (by omega)] at g1 g2
   rw[g1,g2]
   obtain ⟨s,e1,e2,e3⟩:=bd_node ((dF h.c0).2.2.2.2 k (by omega)) (l1.trans l2.symm) (h.q _ (qG (by omega))) h.b ih
   exact ⟨s,e1,e2,nJ_get e2 e3⟩
theorem bd_200{s:Nat}(h:s<=140):bV s<=1048576/\bG s<=1048576:=by
 have h2:s*s<=140*140:=Nat.mul_le_mul h h
 unfold bV bG;omega
theorem cQ.jok{bx:List R2}{t:List jS}(h:cQ bx t){k:Nat}(hk:k<t.length):aW 1048576 bx.length (nJ bx (jU bx t k) (t.getD k tz)):=by
 obtain ⟨s,e1,e2,e3⟩:=bd_node ((dF h.c0).2.2.2.2 k hk) ((xE t k).trans (gZ bx t k).symm) (h.q _ (qG hk)) h.b (h.bd (Nat.le_of_lt hk))
 have e4:=h.s k hk
 obtain ⟨e5,e6⟩:=bd_200 (s:=s) (by omega)
 exact jk_ok (kU e3.1 e5) λi _=>kU (e3.2 i) e6
theorem cQ.upto{bx:List R2}{t:List jS}(h:cQ bx t):∀ {k},k<=t.length->∀ y∈jU bx t k,aW 1048576 bx.length y
 |0,_,y,hy=>by simp [jU] at hy
 |k+1,hk,y,hy=>by
  rw[jU,mem_append] at hy
  rcases hy with hy | hy
  ·exact h.upto (by omega) y hy
  ·rw[mem_singleton] at hy;subst hy
   exact h.jok (by omega)
def dzB(bx:List R2)(t:List jS)(k:Nat):Bool:=decide ((t.getD k tz).op=5)&&mU (jA (jU bx t k) (t.getD k tz).b).v.1 (jA (jU bx t k) (t.getD k tz).b).v.2
def dzT(bx:List R2)(t:List jS):Bool:=(range t.length).any (dzB bx t)
structure FstDz (bx:List R2) (t:List jS) (k:Nat):Prop where
 lt:k<t.length
 no:∀ j,j<k->dzB bx t j=false
 yes:dzB bx t k=true
theorem fst_any{p:Nat->Bool}:∀ {n:Nat},(range n).any p=true->∃ k,k<n/\(∀ j,j<k->p j=false)/\p k=true
 |0,h=>by simp at h
 |n+1,h=>by
  cases hn:(range n).any p with
  |true=>
   obtain ⟨k,h1,h2,h3⟩:=fst_any hn
   exact ⟨k,by omega,h2,h3⟩
  |false=>
   rw[range_succ,any_append,hn] at h
   refine ⟨n,by omega,λj hj=>?_,by simpa using h⟩
   cases hp:p j with
   |false=>rfl
   |true=>rw[any_eq_true.2 ⟨j,mem_range.2 hj,hp⟩] at hn;cases hn
theorem dz_fst{bx:List R2}{t:List jS}(h:dzT bx t=true):∃ k,FstDz bx t k:=by
 obtain ⟨k,h1,h2,h3⟩:=fst_any h
 exact ⟨k,h1,h2,h3⟩
theorem dz_no{bx:List R2}{t:List jS}(h:dzT bx t=false){k:Nat}(hk:k<t.length):dzB bx t k=false:=by
 cases hp:dzB bx t k with
 |false=>rfl
 |true=>unfold dzT at h;rw[any_eq_true.2 ⟨k,mem_range.2 hk,hp⟩] at h;cases h
theorem dz_at{bx:List R2}{t:List jS}{k:Nat}(h:dzB bx t k=false)(ho:(t.getD k tz).op=5):mU (jA (jU bx t k) (t.getD k tz).b).v.1 (jA (jU bx t k) (t.getD k tz).b).v.2=false:=by
 unfold dzB at h;rw[decide_eq_true ho,Bool.true_and] at h;exact h
theorem cQ.run{bx:List R2}{t:List jS}(h:cQ bx t)(hd:dzT bx t=false):JRun bx t:=⟨h.c0,λk hk=>h.jok hk,λk hk ho=>dz_at (dz_no hd hk) ho⟩
theorem cQ.up{bx:List R2}{t:List jS}(h:cQ bx t):∀ x∈t,yB x.n (qS x.n) 1048576:=λx hx=>jO (h.q x hx) (by decide)
theorem cQ.nd{bx:List R2}{t:List jS}(h:cQ bx t){k:Nat}(hk:k<t.length)(hd:dzB bx t k=false):eY bx.length (jU bx t k) (t.getD k tz) :=
 nd_ok ((dF h.c0).2.2.2.2 k hk) (xE t k) (h.up _ (qG hk)) (dz_at hd)
def DzOk(L:List JV)(x:jS):Prop:=∃ a b:Nat,x=⟨5,(a:Int),(b:Int),zr⟩/\a<L.length/\b<L.length/\mU (L.getD b jz).v.1 (L.getD b jz).v.2=true
theorem cQ.dz{bx:List R2}{t:List jS}(h:cQ bx t){k:Nat}(hk:k<t.length)(hd:dzB bx t k=true):DzOk (jU bx t k) (t.getD k tz):=by
 have hc:=(dF h.c0).2.2.2.2 k hk
 obtain ⟨h1,h2,h3,_⟩:=nd_0 hc
 rw[xE] at h2
 have hl:=gZ bx t k
 unfold dzB at hd
 rw[Bool.and_eq_true,decide_eq_true_eq] at hd
 generalize t.getD k tz=x at *
 generalize jU bx t k=L at *
 obtain ⟨op,a,b,n⟩:=x
 unfold dI at h1
 unfold eA at h2
 dsimp only at *
 obtain ⟨e,hz⟩:=hd
 subst e
 have e5:qB 5=2:=rfl
 rw[e5] at h2
 have hu:n=zr:=uns_eq (by
  cases hh:unsB n with
  |true=>rfl
  |false=>exact absurd (Or.inr (Or.inr (Or.inr ⟨by decide,hh⟩))) h1)
 obtain ⟨m,hm⟩:=nat_of (a:=a) (by omega)
 subst hm
 obtain ⟨l,hl'⟩:=nat_of (a:=b) (by omega)
 subst hl'
 subst hu
 refine ⟨m,l,rfl,by omega,by omega,?_⟩
 unfold jA at hz
 rwa [Int.toNat_natCast] at hz
theorem nd_mono{z w:Int}(hw:z<=w){ss:List Int}{x:jS}(h:ndC z ss x=0):ndC w ss x=0:=by
 obtain ⟨h1,h2,h3,h4⟩:=nd_0 h
 exact nd_y h1 h2 (λh=>h3 (by unfold rngN at *;omega)) (by omega)
theorem tm_mono{z w:Int}(hw:z<=w)(h6:w<=64){t:List jS}(h:yT z t=0):yT w t=0:=by
 obtain ⟨h1,h2,h3,h4,h5⟩:=dF h
 exact (tm_yes (by omega) h3 (by omega) λi hi=>nd_mono hw (h5 i hi)).1
theorem szU_mem{t:List jS}:∀ {n k:Nat},k<n->mP (gM t k) (t.getD k tz)∈gM t n
 |0,k,h=>by omega
 |n+1,k,h=>by
  rw[gM,mem_append]
  rcases Nat.lt_or_ge k n with h1 | h1
  ·exact .inl (szU_mem h1)
  ·obtain rfl:k=n:=by omega
   exact .inr (mem_singleton.2 rfl)
def dC(t:List jS)(k:Nat):Nat:=if k=t.length then 0 else 14
theorem dC_y(t:List jS):dC t t.length=0:=if_pos rfl
theorem dC_n{t:List jS}{k:Nat}(h:k<t.length):dC t k=14:=if_neg (by omega)
def StOk(n:Nat)(L:List JV)(x:jS):Prop:=eY n L x\/DzOk L x
theorem StOk.kd{n:Nat}{L:List JV}{x:jS}(h:StOk n L x):qB x.op=0\/qB x.op=1\/qB x.op=2:=by
 rcases h with h | ⟨a,b,rfl,_⟩
 ·cases h<;>first | exact .inl rfl | exact .inr (.inl rfl) | exact .inr (.inr rfl)
 ·exact .inr (.inr rfl)
theorem StOk.a{n:Nat}{L:List JV}{x:jS}(h:StOk n L x)(h1:1<=qB x.op):0<=x.a/\x.a.toNat<L.length:=by
 rcases h with h | ⟨a,b,rfl,ha,_⟩
 ·cases h with
  |c hp=>exact absurd h1 (by show ¬ (1:Int)<=qB 0;decide)
  |v ha=>exact absurd h1 (by show ¬ (1:Int)<=qB 1;decide)
  |add ha hb=>exact ⟨by show 0<=((_:Nat):Int);omega,by show (((_:Nat):Int)).toNat<_;rwa [Int.toNat_natCast]⟩
  |sub ha hb=>exact ⟨by show 0<=((_:Nat):Int);omega,by show (((_:Nat):Int)).toNat<_;rwa [Int.toNat_natCast]⟩
  |mul ha hb=>exact ⟨by show 0<=((_:Nat):Int);omega,by show (((_:Nat):Int)).toNat<_;rwa [Int.toNat_natCast]⟩
  |div ha hb hz=>exact ⟨by show 0<=((_:Nat):Int);omega,by show (((_:Nat):Int)).toNat<_;rwa [Int.toNat_natCast]⟩
  |neg ha=>exact ⟨by show 0<=((_:Nat):Int);omega,by show (((_:Nat):Int)).toNat<_;rwa [Int.toNat_natCast]⟩
  |sq ha=>exact ⟨by show 0<=((_:Nat):Int);omega,by show (((_:Nat):Int)).toNat<_;rwa [Int.toNat_natCast]⟩
 ·exact ⟨by show 0<=((_:Nat):Int);omega,by show (((_:Nat):Int)).toNat<_;rwa [Int.toNat_natCast]⟩
theorem StOk.b{n:Nat}{L:List JV}{x:jS}(h:StOk n L x)(h2:qB x.op=2):0<=x.b/\x.b.toNat<L.length:=by
 rcases h with h | ⟨a,b,rfl,_,hb,_⟩
 ·cases h with
  |c hp=>exact absurd h2 (by show ¬ qB 0=2;decide)
  |v ha=>exact absurd h2 (by show ¬ qB 1=2;decide)
  |add ha hb=>exact ⟨by show 0<=((_:Nat):Int);omega,by show (((_:Nat):Int)).toNat<_;rwa [Int.toNat_natCast]⟩
  |sub ha hb=>exact ⟨by show 0<=((_:Nat):Int);omega,by show (((_:Nat):Int)).toNat<_;rwa [Int.toNat_natCast]⟩
  |mul ha hb=>exact ⟨by show 0<=((_:Nat):Int);omega,by show (((_:Nat):Int)).toNat<_;rwa [Int.toNat_natCast]⟩
  |div ha hb hz=>exact ⟨by show 0<=((_:Nat):Int);omega,by show (((_:Nat):Int)).toNat<_;rwa [Int.toNat_natCast]⟩
  |neg ha=>exact absurd h2 (by show ¬ qB 6=2;decide)
  |sq ha=>exact absurd h2 (by show ¬ qB 7=2;decide)
 ·exact ⟨by show 0<=((_:Nat):Int);omega,by show (((_:Nat):Int)).toNat<_;rwa [Int.toNat_natCast]⟩
theorem eY.op{n:Nat}{L:List JV}{x:jS}(h:eY n L x):x.op=0\/x.op=1\/x.op=2\/x.op=3\/x.op=4\/x.op=5\/x.op=6\/x.op=7:=by
 cases h<;>simp
theorem eY.con{n:Nat}{L:List JV}{x:jS}(h:eY n L x)(e:x.op=0):x.n=jM (qS x.n)/\QL (qS x.n) 1048576:=by
 cases h with
 |c hp=>exact ⟨by rw[vY],by rw[vY];exact hp⟩
 |_=>simp at e
theorem eY.var{n:Nat}{L:List JV}{x:jS}(h:eY n L x)(e:x.op=1):0<=x.a/\x.a.toNat<n:=by
 cases h with
 |v ha=>exact ⟨by show 0<=((_:Nat):Int);omega,by show (((_:Nat):Int)).toNat<_;rwa [Int.toNat_natCast]⟩
 |_=>simp at e
theorem eY.zf{n:Nat}{L:List JV}{x:jS}(h:eY n L x)(e:x.op=5):mU (jA L x.b).v.1 (jA L x.b).v.2=false:=by
 cases h with
 |div ha hb hz=>unfold jA;rw[Int.toNat_natCast];exact hz
 |_=>simp at e
theorem nV_0{bx:List R2}{L:List JV}{x:jS}(h:x.op=0):nV bx L x=xG (qS x.n):=by unfold nV;simp only[h];rfl
theorem nV_1{bx:List R2}{L:List JV}{x:jS}(h:x.op=1):nV bx L x=bx.getD x.a.toNat z2:=by unfold nV;simp only[h];rfl
theorem nV_2{bx:List R2}{L:List JV}{x:jS}(h:x.op=2):nV bx L x=qE (jA L x.a).v (jA L x.b).v:=by unfold nV;simp only[h];rfl
theorem nV_3{bx:List R2}{L:List JV}{x:jS}(h:x.op=3):nV bx L x=gS (jA L x.a).v (jA L x.b).v:=by unfold nV;simp only[h];rfl
theorem nV_4{bx:List R2}{L:List JV}{x:jS}(h:x.op=4):nV bx L x=kL (jA L x.a).v (jA L x.b).v:=by unfold nV;simp only[h];rfl
theorem nV_5{bx:List R2}{L:List JV}{x:jS}(h:x.op=5):nV bx L x=fK (jA L x.a).v (jA L x.b).v:=by unfold nV;simp only[h];rfl
theorem nV_6{bx:List R2}{L:List JV}{x:jS}(h:x.op=6):nV bx L x=lR (jA L x.a).v:=by rw[<- gs0];unfold nV;simp only[h];rfl
theorem nV_7{bx:List R2}{L:List JV}{x:jS}(h:x.op=7):nV bx L x=gsq (jA L x.a).v:=by unfold nV;simp only[h];rfl
theorem nG_0{bx:List R2}{L:List JV}{x:jS}{i:Nat}(h:x.op=0):nG bx L x i=gw 0:=by unfold nG;simp only[h];rfl
theorem nG_1{bx:List R2}{L:List JV}{x:jS}{i:Nat}(h:x.op=1):nG bx L x i=if (i:Int)=x.a then gw 1 else gw 0:=by unfold nG;simp only[h];rfl
theorem nG_2{bx:List R2}{L:List JV}{x:jS}{i:Nat}(h:x.op=2):nG bx L x i=qE ((jA L x.a).g.getD i z2) ((jA L x.b).g.getD i z2):=by unfold nG;simp only[h];rfl
theorem nG_3{bx:List R2}{L:List JV}{x:jS}{i:Nat}(h:x.op=3):nG bx L x i=gS ((jA L x.a).g.getD i z2) ((jA L x.b).g.getD i z2):=by unfold nG;simp only[h];rfl
theorem nG_4{bx:List R2}{L:List JV}{x:jS}{i:Nat}(h:x.op=4):nG bx L x i=qE (kL (jA L x.a).v ((jA L x.b).g.getD i z2)) (kL (jA L x.b).v ((jA L x.a).g.getD i z2)):=by unfold nG;simp only[h];rfl
theorem nG_5{bx:List R2}{L:List JV}{x:jS}{i:Nat}(h:x.op=5):nG bx L x i=fK (gS ((jA L x.a).g.getD i z2) (kL (nV bx L x) ((jA L x.b).g.getD i z2))) (jA L x.b).v:=by unfold nG;simp only[h];rfl
theorem nG_6{bx:List R2}{L:List JV}{x:jS}{i:Nat}(h:x.op=6):nG bx L x i=lR ((jA L x.a).g.getD i z2):=by rw[<- gs0];unfold nG;simp only[h];rfl
theorem nG_7{bx:List R2}{L:List JV}{x:jS}{i:Nat}(h:x.op=7):nG bx L x i=kL (gw 2) (kL (jA L x.a).v ((jA L x.a).g.getD i z2)):=by unfold nG;simp only[h];rfl
theorem DzOk.kd{L:List JV}{x:jS}(h:DzOk L x):qB x.op=2:=by
 obtain ⟨a,b,rfl,_⟩:=h
 rfl
structure DEnd (bx:List R2) (t:List jS) (k0:Nat):Prop where
 c0:yT ((bx.length:Nat):Int) t=0
 le:k0<=t.length
 nd:∀ j,j<k0->eY bx.length (jU bx t j) (t.getD j tz)
 ok:∀ j,j<=k0->∀ y∈jU bx t j,aW 1048576 bx.length y
 nv:∀ j,j<k0->aW 1048576 bx.length (nJ bx (jU bx t j) (t.getD j tz))
 dz:k0<t.length->DzOk (jU bx t k0) (t.getD k0 tz)
theorem DEnd.st{bx:List R2}{t:List jS}{k0 k:Nat}(h:DEnd bx t k0)(hk:k<=k0)(hl:k<t.length):StOk bx.length (jU bx t k) (t.getD k tz):=by
 rcases Nat.lt_or_ge k k0 with h1 | h1
 ·exact .inl (h.nd k h1)
 ·obtain rfl:k=k0:=by omega
  exact .inr (h.dz hl)
theorem DEnd.dzk{bx:List R2}{t:List jS}{k0 k:Nat}(h:DEnd bx t k0)(hk:k<=k0)(hl:k<t.length)(h1:¬ k<k0):DzOk (jU bx t k) (t.getD k tz):=by
 obtain rfl:k=k0:=by omega
 exact h.dz hl
theorem DEnd.last{bx:List R2}{t:List jS}(h:DEnd bx t t.length):aW 1048576 bx.length (mI bx t):=by
 have h0:=dF h.c0
 have hl:=gZ bx t t.length
 refine h.ok t.length (Nat.le_refl _) _ ?_
 unfold mI
 exact qG (by omega)
theorem cQ.dend{bx:List R2}{t:List jS}(h:cQ bx t)(hd:dzT bx t=false):DEnd bx t t.length :=
 ⟨h.c0,Nat.le_refl _,λj hj=>h.nd hj (dz_no hd hj),λj hj=>h.upto hj,λj hj=>h.jok hj,λh1=>absurd h1 (Nat.lt_irrefl _)⟩
theorem cQ.dfail{bx:List R2}{t:List jS}(h:cQ bx t){k:Nat}(hk:FstDz bx t k):DEnd bx t k :=
 have hl:=hk.lt
 ⟨h.c0,Nat.le_of_lt hl,λj hj=>h.nd (by omega) (hk.no j hj),λj hj=>h.upto (by omega),λj hj=>h.jok (by omega),λ_=>h.dz hl hk.yes⟩
theorem nG_gl{bx:List R2}{L:List JV}{x:jS}{N i:Nat}(h:aW N bx.length (nJ bx L x))(hi:i<bx.length):GL N (nG bx L x i) :=
 h.2.1 _ (mem_map.2 ⟨i,mem_range.2 hi,rfl⟩)
end Go.Fid
namespace Go.Proofs.YtckccjhflbljgaaGreatDoor
open List
open Go.Fid
end Go.Proofs.YtckccjhflbljgaaGreatDoor
namespace Go.Proofs.YtckccjhflbljgaaGreatDoor
open List Tryz
open Go.Fid
def dgB(x:jS):Bool:=decide (digR x.n<=8)
def szB(m:Nat)(s:Int):Bool:=decide (s<=(m:Int))
def dS(n m:Nat)(t:List jS):Bool:=decide (t.length<=n)&&(t.all dgB&&(decide (yT 8 t≠0)||(tmL 8 t).all (szB m)))
theorem fewT_long{n m:Nat}{t:List jS}(h:((n:Nat):Int)<((t.length:Nat):Int)):dS n m t=false:=by unfold dS;rw[decide_eq_false (by omega)];rfl
theorem fewT_dig{n m:Nat}{t:List jS}(h:t.all dgB=false):dS n m t=false:=by unfold dS;rw[h,Bool.false_and,Bool.and_false]
theorem fewT_code{n m:Nat}{t:List jS}(h0:¬ ((n:Nat):Int)<((t.length:Nat):Int))(h:t.all dgB=true)(hc:((yT 8 t:Nat):Int)≠0):dS n m t=true:=by
 unfold dS;rw[decide_eq_true (by omega),h,decide_eq_true (by omega)];rfl
theorem tmL_len{z:Int}{t:List jS}(h:((yT z t:Nat):Int)=0):(tmL z t).length=t.length:=by
 unfold tmL;rw[if_pos (by omega),xE]
theorem fewT_big{n m:Nat}{t:List jS}(hc:((yT 8 t:Nat):Int)=0)(h:(tmL 8 t).all (szB m)=false):dS n m t=false:=by
 unfold dS;rw[h,Bool.or_false,show decide (yT 8 t≠0)=false from decide_eq_false (by omega),Bool.and_false,Bool.and_false]
theorem fewT_yes{n m:Nat}{t:List jS}(h0:¬ ((n:Nat):Int)<((t.length:Nat):Int))(h:t.all dgB=true)(hs:(tmL 8 t).all (szB m)=true):dS n m t=true:=by
 unfold dS;rw[decide_eq_true (by omega),h,hs,Bool.or_true];rfl
theorem dgB_y{x:jS}(h:¬ ((8:Nat):Int)<((digR x.n:Nat):Int)):dgB x=true:=decide_eq_true (by omega)
theorem dgB_n{x:jS}(h:((8:Nat):Int)<((digR x.n:Nat):Int)):dgB x=false:=decide_eq_false (by omega)
theorem dg_ok{t:List jS}(h:t.all dgB=true):∀ x∈t,yB x.n (qS x.n) 8:=λx hx=>by
 have h1:=all_eq_true.1 h x hx
 unfold dgB digR at h1
 rw[decide_eq_true_eq] at h1
 exact qok_raw (by decide) (by omega) (by omega)
theorem few_of{n m:Nat}{t:List jS}(h:dS n m t=true):t.length<=n/\(∀ x∈t,yB x.n (qS x.n) 8)/\(yT 8 t=0->∀ s∈tmL 8 t,s<=(m:Int)):=by
 unfold dS at h
 rw[Bool.and_eq_true,Bool.and_eq_true,Bool.or_eq_true,decide_eq_true_eq,decide_eq_true_eq] at h
 refine ⟨h.1,dg_ok h.2.1,λhc s hs=>?_⟩
 rcases h.2.2 with h1 | h1
 ·exact absurd hc h1
 ·have:=all_eq_true.1 h1 s hs
  unfold szB at this
  rwa [decide_eq_true_eq] at this
theorem tame_of{n m:Nat}{bx:List R2}{t:List jS}(h:dS n m t=true)(hm:m<=140)(h8:bx.length<=8)(hb:∀ y∈bx,GL 24 y)(hc:yT ((bx.length:Nat):Int) t=0):cQ bx t:=by
 obtain ⟨_,h2,h3⟩:=few_of h
 have hc8:yT 8 t=0:=tm_mono (by omega) (by decide) hc
 refine ⟨hc,h2,hb,λk hk=>?_⟩
 have h4:=h3 hc8 (mP (gM t k) (t.getD k tz)) (by unfold tmL;rw[if_pos hc8];exact szU_mem hk)
 omega
theorem gpt_24{xs:List Rat}(h:∀ q∈xs,QL q 24):∀ y∈map xG xs,GL 24 y:=λy hy=>by
 obtain ⟨q,hq,rfl⟩:=mem_map.1 hy
 exact gl_pt (h q hq)
theorem gpt_8{xs:List Rat}(h:∀ q∈xs,QL q 8):∀ y∈map xG xs,GL 24 y:=gpt_24 λq hq=>uG (h q hq) (by decide)
theorem shR_len{c n:Nat}{l:List kY}(h:shR c n l=true):l.length<=c:=by
 unfold shR at h;rw[Bool.and_eq_true,decide_eq_true_eq] at h;exact h.1
theorem shR_ok{c n:Nat}{l:List kY}(h:shR c n l=true)(h1:1<=n):∀ x∈l,yB x (qS x) n:=λx hx=>by
 unfold shR at h;rw[Bool.and_eq_true] at h
 have h3:=shX_le (all_eq_true.1 h.2 x hx)
 unfold digR at h3
 exact qok_raw h1 (by omega) (by omega)
theorem vrow_map:∀ {l:List kY},vRow l=true->map jM (map qS l)=l
 |[],_=>rfl
 |x::l,h=>by
  unfold vRow at h
  rw[all_cons,Bool.and_eq_true] at h
  rw[map_cons,map_cons,vrow_map (l:=l) h.2,ofQ_toQ h.1]
theorem row_form{c n:Nat}{l:List kY}(h:shR c n l=true)(h1:1<=n)(hv:vRow l=true):∃ xs:List Rat,l=map jM xs/\(∀ q∈xs,QL q n)/\xs.length<=c:=by
 refine ⟨l.map qS,?_,λq hq=>?_,by rw[length_map];exact shR_len h⟩
 ·exact (vrow_map hv).symm
 ·obtain ⟨x,hx,rfl⟩:=mem_map.1 hq
  exact (shR_ok h h1 x hx).ql
def exT:List jS:=[⟨1,0,0,zr⟩,⟨1,1,0,zr⟩,⟨4,0,1,zr⟩,⟨7,0,0,zr⟩,⟨2,2,3,zr⟩]
def exD:List jS:=[⟨1,0,0,zr⟩,⟨1,1,0,zr⟩,⟨0,0,0,jM ((2:Int):Rat)⟩,⟨4,2,0,zr⟩,⟨2,1,3,zr⟩]
def exX:List Rat:=zQ [2,3]
def exB:List R2:=[(((1:Int):Rat),((2:Int):Rat)),(((3:Int):Rat),((4:Int):Rat))]
theorem exX_ql:∀ q∈exX,QL q 1048576:=λq hq=>uG (zQ_ql (by decide) q hq) (by decide)
theorem exB_gl:∀ x∈exB,GL 1048576 x:=by unfold exB;decide +kernel
theorem zr_ok:yB zr (qS zr) 1048576:=⟨rfl,by decide,by decide,by decide⟩
theorem exT_ok:∀ x∈exT,yB x.n (qS x.n) 1048576:=λx hx=>by
 have:x.n=zr:=by
  unfold exT at hx
  simp only[mem_cons,not_mem_nil,or_false] at hx
  rcases hx with rfl | rfl | rfl | rfl | rfl<;>rfl
 rw[this]
 exact zr_ok
theorem exD_ok:∀ x∈exD,yB x.n (qS x.n) 1048576:=λx hx=>by
 have:x.n=zr\/x.n=jM ((2:Int):Rat):=by
  unfold exD at hx
  simp only[mem_cons,not_mem_nil,or_false] at hx
  rcases hx with rfl | rfl | rfl | rfl | rfl<;>first | exact .inl rfl | exact .inr rfl
 rcases this with h | h
 ·rw[h];exact zr_ok
 ·rw[h,vY];exact jZ (ql_i)
theorem exT_c0:yT ((2:Nat):Int) exT=0:=by decide +kernel
theorem exT_run:VRun exX exT:=by
 refine ⟨by decide +kernel,⟨λk hk=>?_,λk hk=>?_⟩⟩
 ·match k,hk with
  |0,_=>unfold QL;decide +kernel
  |1,_=>unfold QL;decide +kernel
  |2,_=>unfold QL;decide +kernel
  |3,_=>unfold QL;decide +kernel
  |4,_=>unfold QL;decide +kernel
 ·match k,hk with
  |0,_=>intro h;revert h;decide
  |1,_=>intro h;revert h;decide
  |2,_=>intro h;revert h;decide
  |3,_=>intro h;revert h;decide
  |4,_=>intro h;revert h;decide
theorem exD_run:VRun exX exD:=by
 refine ⟨by decide +kernel,⟨λk hk=>?_,λk hk=>?_⟩⟩
 ·match k,hk with
  |0,_=>unfold QL;decide +kernel
  |1,_=>unfold QL;decide +kernel
  |2,_=>unfold QL;decide +kernel
  |3,_=>unfold QL;decide +kernel
  |4,_=>unfold QL;decide +kernel
 ·match k,hk with
  |0,_=>intro h;revert h;decide
  |1,_=>intro h;revert h;decide
  |2,_=>intro h;revert h;decide
  |3,_=>intro h;revert h;decide
  |4,_=>intro h;revert h;decide
theorem exB_run:JRun exB exT:=by
 refine ⟨by decide +kernel,λk hk=>?_,λk hk=>?_⟩
 ·match k,hk with
  |0,_=>exact ⟨by decide +kernel,by decide +kernel,rfl⟩
  |1,_=>exact ⟨by decide +kernel,by decide +kernel,rfl⟩
  |2,_=>exact ⟨by decide +kernel,by decide +kernel,rfl⟩
  |3,_=>exact ⟨by decide +kernel,by decide +kernel,rfl⟩
  |4,_=>exact ⟨by decide +kernel,by decide +kernel,rfl⟩
 ·match k,hk with
  |0,_=>intro h;revert h;decide
  |1,_=>intro h;revert h;decide
  |2,_=>intro h;revert h;decide
  |3,_=>intro h;revert h;decide
  |4,_=>intro h;revert h;decide
theorem ex_10:uJ exX exT=((10:Int):Rat):=by decide +kernel
theorem ex_7:uJ exX exD=((7:Int):Rat):=by decide +kernel
theorem ex_v:(mI exB exT).v=(((4:Int):Rat),((12:Int):Rat)):=by decide +kernel
theorem ex_g:(mI exB exT).g=[(((5:Int):Rat),((8:Int):Rat)),(((1:Int):Rat),((2:Int):Rat))]:=by decide +kernel
instance:DecidableEq kW:=λa b=>if h:a.neg=b.neg/\a.gs=b.gs then isTrue (by cases a;cases b;obtain ⟨rfl,rfl⟩:=h;rfl) else isFalse (λe=>h (by rw[e];exact ⟨rfl,rfl⟩))
instance:DecidableEq kY:=λa b=>if h:a.num=b.num/\a.den=b.den then isTrue (by cases a;cases b;obtain ⟨rfl,rfl⟩:=h;rfl) else isFalse (λe=>h (by rw[e];exact ⟨rfl,rfl⟩))
instance:DecidableEq jS:=λa b=>if h:a.op=b.op/\a.a=b.a/\a.b=b.b/\a.n=b.n then isTrue (by cases a;cases b;obtain ⟨rfl,rfl,rfl,rfl⟩:=h;rfl) else isFalse (λe=>h (by rw[e];exact ⟨rfl,rfl,rfl,rfl⟩))
theorem ex_d:iX 0 exT=exD:=by decide +kernel
theorem ex_c:DRC 0 exT=0:=by decide +kernel
theorem x_exm :jP prog 40 [] (.sl 72 7 (map jN exT)):=by
 let y2:=qX
 let y1:=[(jS.mk 1 0 0 y2),(jS.mk 1 1 0 y2),(jS.mk 4 0 1 y2),(jS.mk 7 0 0 y2),(jS.mk 2 2 3 y2)]
 refine vD func40 ?_
 refine jB<|kx [] [] (zE (aN 72 7)<|zZ) ?_
 refine jB<|kx [(0,(vl 72 7 jN y1))] [] (zE (iS pl72 dW fZ)<|zE (iS pl72 dW fZ)<|zE (iS pl72 dW fZ)<|zE (iS pl72 dW fZ)<|zE (iS pl72 dW fZ)<|zE (fC zY dW fZ)<|zM<|zZ) ?_
 refine jE ⟨_,(.tmp (d:=(.sl 72 7 (map jN y1))) rfl .nil),?_⟩
 rfl
theorem x_whole(zs:List Int)(hz:∀ z∈zs,-9223372036854775808<=z/\z<=9223372036854775807:=by decide)(hzl:zs.length<=1000000:=by decide):jP prog 41 [(.sl 3 1 (map jL zs))] (.sl 32 4 (map jJ (map jM (zQ zs)))):=by
 refine vD func41 ?_
 refine jB<|kx [] [] (zE (aN 32 4)<|zZ) ?_
 refine jB<|kx [(3,(.own 0 32 4 0))] [(0,some (uD jJ []))] (zN (oBo 0 uA uO vP)<|zM<|zZ) ?_
 refine jB<|jB<|kx [(7,(vl 3 1 jL zs)),(8,(kE zs.length)),(9,(kE 0))] [] (zM<|zE (yA uR)<|zM<|zZ) ?_
 refine jH<|kR (α:=Nat × List kY) (λ(i,o)=>⟨[(3,(.own 0 32 4 o.length)),(7,(vl 3 1 jL zs)),(8,(kE zs.length)),(9,(kE i))],[(0,some (uD jJ o))]⟩) (λ(i,o)=>i<=zs.length/\o=(zs.take i).map (λz:Int=>jM (z:Rat))) (λ(i,o)=>zs.length-i) (0,[]) wk ⟨Nat.zero_le _,by simp⟩ ?_
 rintro ⟨i,o⟩ ⟨hi,ho⟩
 have hol:o.length=i:=by rw[ho,length_map,length_take];omega
 refine jB<|kx [(10,(vb (decide (((i:Nat):Int)<((zs.length:Nat):Int)))))] [] (zE gX<|zZ) ?_
 refine jB<|jD rfl (λh1=>?_) (λh1=>?_)
 ·replace h1:=vF h1
  have hzi:=zs_at hz (show i<zs.length by omega)
  refine jF<|jB<|jH<|jB<|kx [(5,(vi (zs.getD i 0)))] [] (zE (cB uR i (0:Int))<|zE (dK uN)<|zM<|zZ) ?_
  refine kf [(3,(.own 0 32 4 ((o++[(jM ((zs.getD i 0:Int):Rat))]).length)))] [(0,some (uD jJ (o++[(jM ((zs.getD i 0:Int):Rat))])))] (zM<|zM<|zE (kB (cM (zs.getD i 0) (by omega) (by omega)))<|zE (fC uA uO vP)<|zAS jJ o [(jM ((zs.getD i 0:Int):Rat))] rfl uA uO by32<|zM<|zF) ?_
  refine kx [(9,(kE (i+1)))] [] (zE (xO (i+1))<|zM<|zZ) ?_
  exact ⟨(i+1,o++[jM ((zs.getD i 0:Int):Rat)]),wk,⟨by omega,by rw[ho];exact mapt_step (f:=λz:Int=>jM (z:Rat)) (by omega)⟩,(by first|omega|(dsimp only;omega))⟩
 ·replace h1:=vT h1
  refine kO<|jB<|kx [(2,(.own 0 32 4 o.length))] [] (zM<|zM<|zZ) ?_
  refine kS (xY (t:=2) (k:=0) (es:=map jJ o) rfl rfl (gO _ _ (λ_=>rfl)) (vK _ _ rfl) (mA jJ o (λ_=>rfl) rfl)) ?_
  refine jE ⟨_,(.tmp (d:=(.sl 32 4 (map jJ o))) rfl .nil),?_⟩
  rw[ho,show i=zs.length by omega,take_length,show map (λz:Int=>jM (z:Rat)) zs=map jM (zQ zs) from (by unfold zQ;rw[map_map];rfl)];rfl
theorem exT_tx:∀ x∈exT,x.op=0->lX (qS x.n):=λx hx h0=>by
 unfold exT at hx
 simp only[mem_cons,not_mem_nil,or_false] at hx
 rcases hx with rfl | rfl | rfl | rfl | rfl<;>exact absurd h0 (by decide)
theorem exB_runP:JRunP exB exT:=run_p4 exB_gl exT_ok exB_run (by unfold okOp;decide)
theorem x_known :jP prog 8 [] (.val (.bool (true))):=by
 have hxl:exX.length=2:=rfl
 have hgl:(mI exB exT).g.length=2:=by rw[ex_g];rfl
 let y2:=(jX.mk (jM ((5:Int):Rat)) (jM ((8:Int):Rat)))
 let y1:=(jX.mk (jM ((4:Int):Rat)) (jM ((12:Int):Rat)))
 refine vD func8 ?_
 refine jB<|kx [] [] (zM<|zZ) ?_
 refine jB<|kx [(1,(.ref 0 0)),(2,(kE 0))] [(0,some (bx (jJ (jM ((10:Int):Rat)))))] (zE (oQd (.sl 72 7 (map jN exT)) (.sl 72 7 (map jN exT)) (kB x_exm) (by exact rfl))<|zE (fC uR ze3 zo3)<|zE (oQd (.sl 32 4 (map jJ (map jM (zQ [((2:Nat):Int),((3:Nat):Int)])))) (.sl 32 4 (map jJ (map jM exX))) (kB (x_whole [((2:Nat):Int),((3:Nat):Int)])) (by exact rfl))<|zE (kB (p_val exT exT_ok exX exX_ql exT_run (by unfold VOps;decide) (by omega)))<|zM<|zE (oQd (jJ (jM (uJ exX exT))) (jJ (jM ((10:Int):Rat))) zP (by exact (congrArg (λq=>jJ (jM q)) ex_10)))<|zE zP<|zN (vB 0 uO vP)<|zT (qL jT)<|zM<|zZ) ?_
 refine jB ?_
 have bn1:QL ((1:Int):Rat) 1:=(vL (z:=1) (uB))
 have bn2:QL ((2:Int):Rat) 1:=(vL (z:=2) (uB))
 have bn3:QL ((3:Int):Rat) 1:=(vL (z:=3) (uB))
 have bn4:QL ((4:Int):Rat) 1:=(vL (z:=4) (uB))
 refine kx [(3,(.ref 1 0)),(4,(kE 0))] [(1,some (bx (jR (nI (mI exB exT)))))] (zE (oQd (.sl 72 7 (map jN exT)) (.sl 72 7 (map jN exT)) (kB x_exm) (by exact rfl))<|zE (kB (iW 1 2))<|zE (kB (iW 3 4))<|zE (oQd (.sl 42 8 (map jG [(jX.mk (jM ((1:Int):Rat)) (jM ((2:Int):Rat))),(jX.mk (jM ((3:Int):Rat)) (jM ((4:Int):Rat)))])) (.sl 42 8 (map jG (map kF exB))) (fC xK uQ uV) (by exact rfl))<|zE (kB (j_jets exT exT_ok exB exB_gl exB_runP))<|zM<|zE zP<|zE zP<|zN (vB 1 bT zo46)<|zT (qL nF)<|zM<|zZ) ?_
 refine jB<|kx [(5,(vl 72 7 jN exD)),(6,(kE 0))] [] (zE (oQd (.sl 72 7 (map jN exT)) (.sl 72 7 (map jN exT)) (kB x_exm) (by exact rfl))<|zE (kB (p_drv exT exT_ok 2 0 exT_c0 (by omega) (iB 0) (iB 1) (iB 2) exT_tx))<|zM<|zE (oQd (.sl 72 7 (map jN (iX 0 exT))) (.sl 72 7 (map jN exD)) zP (by exact (congrArg (λt=>jY.sl 72 7 (map jN t)) ex_d)))<|zE (oQd (.val (.int .i64 ((((DRC 0 exT):Nat):Int)))) (.val (.int .i64 (((0:Nat):Int)))) zP (by exact (congrArg (λn:Nat=>jY.val (.int .i64 ((n:Nat):Int))) ex_c)))<|zM<|zM<|zZ) ?_
 refine jB<|kx [(7,(.ref 2 0)),(8,(kE 0))] [(2,some (bx (jJ (jM ((7:Int):Rat)))))] (zM<|zE (fC uR ze3 zo3)<|zE (oQd (.sl 32 4 (map jJ (map jM (zQ [((2:Nat):Int),((3:Nat):Int)])))) (.sl 32 4 (map jJ (map jM exX))) (kB (x_whole [((2:Nat):Int),((3:Nat):Int)])) (by exact rfl))<|zE (kB (p_val exD exD_ok exX exX_ql exD_run (by unfold VOps;decide) (by omega)))<|zM<|zE (oQd (jJ (jM (uJ exX exD))) (jJ (jM ((7:Int):Rat))) zP (by exact (congrArg (λq=>jJ (jM q)) ex_7)))<|zE zP<|zN (vB 2 uO vP)<|zT (qL jT)<|zM<|zZ) ?_
 refine jB<|jB<|kx [(55,(vb false))] [] (zM<|zE (nA false aZ)<|zM<|zM<|zE (nA false aZ)<|zE yD<|zM<|zM<|zE (nA false aZ)<|zE yD<|zM<|zM<|zE (nA false aZ)<|zE yD<|zM<|zE (kK vS)<|zR (yN (.sl 42 8 (map jG (map kF ((mI exB exT).g)))) (.sl 42 8 (map jG (map kF ((mI exB exT).g)))) (qH mE) (by exact rfl))<|zE (oLn xK (((mI exB exT).g).length))<|zE (nA false aZ (by exact bne_eq_false_iff_eq.2 (by rw[show ((mI exB exT).g).length=2 from (by rw[ex_g];rfl)]<;>rfl)))<|zE yD<|zZ) ?_
 refine uI ?_
 refine jF<|jB ?_
 have bn5:QL ((10:Int):Rat) 1:=(vL (z:=10) (uB))
 have bn6:QL ((7:Int):Rat) 1:=(vL (z:=7) (uB))
 have bn7:QL ((12:Int):Rat) 1:=(vL (z:=12) (uB))
 have bn8:QL ((5:Int):Rat) 1:=(vL (z:=5) (uB))
 have bn9:QL ((8:Int):Rat) 1:=(vL (z:=8) (uB))
 refine kd [(0,(vb true))] [] mo (wR (kP jT)<|wE (kB (cM 10))<|wE (nA true (kB (by have h:=g_same (jM ((10:Int):Rat)) (jM ((10:Int):Rat)) ((10:Int):Rat) ((10:Int):Rat) (jO (jZ (vL (cE)))) (jO (jZ bn5));rw[fT] at h;exact h)) (by exact decide_eq_true rfl))<|wM<|wR (kP jT)<|wE (kB (cM 7))<|wE (nA true (kB (by have h:=g_same (jM ((7:Int):Rat)) (jM ((7:Int):Rat)) ((7:Int):Rat) ((7:Int):Rat) (jO (jZ (vL (cE)))) (jO (jZ bn6));rw[fT] at h;exact h)) (by exact decide_eq_true rfl))<|wE nO<|wM<|wE (kK yI)<|wR (yN (jG (kF ((mI exB exT).v))) (jG y1) (kP jW) (by exact (congrArg (λp=>jG (kF p)) ex_v)))<|wE (kB (iW 4 12))<|wE (kB (by have h:=h_same y1 y1 (fU (⟨uW (jO (jZ (vL (cE))) (by decide:3<=3)),uW (jO (jZ (vL (cE))) (by decide:3<=3))⟩)) (fU (⟨uW (jO (jZ bn4) (by decide:1<=1)),uW (jO (jZ bn7) (by decide:1<=1))⟩));rw[show sameG y1 y1=true from by rw[sameG_of];kernel_rfl] at h;exact h))<|wE nO<|wM<|wE (kK vS)<|wR (yN (.sl 42 8 (map jG (map kF ((mI exB exT).g)))) (.sl 42 8 (map jG (map kF ((mI exB exT).g)))) (qH mE) (by exact rfl))<|wE (iO xK kF 0 z2)<|wE (oQd (jG (kF (((mI exB exT).g).getD 0 z2))) (jG y2) (mR jW) (by exact (by rw[ex_g];rfl)))<|wE (kB (iW 5 8))<|wE (kB (by have h:=h_same y2 y2 (fU (⟨uW (jO (jZ (vL (cE))) (by decide:3<=3)),uW (jO (jZ (vL (cE))) (by decide:3<=3))⟩)) (fU (⟨uW (jO (jZ bn8) (by decide:1<=1)),uW (jO (jZ bn9) (by decide:1<=1))⟩));rw[show sameG y2 y2=true from by rw[sameG_of];kernel_rfl] at h;exact h))<|wE nO<|wM<|wE (kB x_exm)<|wE (oQd (.val (.int .i64 ((((yT 2 exT):Nat):Int)))) (.val (.int .i64 (((0:Nat):Int)))) (kB (j_chk exT exT_ok ((2:Nat):Int))) (by exact (congrArg (λn:Nat=>jY.val (.int .i64 ((n:Nat):Int))) exT_c0)))<|wE (nA true xL)<|wE nO<|wM<|wZ) ?_
 refine jE ⟨_,(.tmp (d:=(.val (.bool (true)))) rfl .nil),?_⟩
 rfl
theorem u_add(a:R2)(ha:GL 67108864 a)(b:R2)(hb:GL 67108864 b):jP prog 31 [(jG (kF a)),(jG (kF b))] (jG (kF (qE a b))):=h_add (kF a) a.1 a.2 (jO (jZ ha.1)) (jO (jZ ha.2.1)) (kF b) b.1 b.2 (jO (jZ hb.1)) (jO (jZ hb.2.1))
theorem u_sub(a:R2)(ha:GL 67108864 a)(b:R2)(hb:GL 67108864 b):jP prog 99 [(jG (kF a)),(jG (kF b))] (jG (kF (gS a b))):=h_sub (kF a) a.1 a.2 (jO (jZ ha.1)) (jO (jZ ha.2.1)) (kF b) b.1 b.2 (jO (jZ hb.1)) (jO (jZ hb.2.1))
theorem u_mul(a:R2)(ha:GL 67108864 a)(b:R2)(hb:GL 67108864 b):jP prog 32 [(jG (kF a)),(jG (kF b))] (jG (kF (kL a b))):=h_mul (kF a) a.1 a.2 (jO (jZ ha.1)) (jO (jZ ha.2.1)) (kF b) b.1 b.2 (jO (jZ hb.1)) (jO (jZ hb.2.1))
theorem u_sq(a:R2)(ha:GL 67108864 a):jP prog 102 [(jG (kF a))] (jG (kF (gsq a))):=h_square (kF a) a.1 a.2 (jO (jZ ha.1)) (jO (jZ ha.2.1))
theorem u_neg(a:R2)(ha:GL 67108864 a):jP prog 101 [(jG (kF a))] (jG (kF (lR a))):=h_neg (kF a) a.1 a.2 (jO (jZ ha.1)) (jO (jZ ha.2.1))
theorem u_div(a:R2)(ha:GL 67108864 a)(b:R2)(hb:GL 67108864 b)(hz:mU b.1 b.2=false):jP prog 100 [(jG (kF a)),(jG (kF b))] (.tup [(jG (kF (fK a b))),(.val (.int .i64 (((0:Nat):Int))))]):=h_divide a.1 a.2 (uG ha.1) (uG ha.2.1) ha.2.2 b.1 b.2 (uG hb.1) (uG hb.2.1) hb.2.2 hz
theorem u_none :jP prog 107 [] (jG (kF (gw 0))):=by
 refine vD func107 ?_
 refine jB<|kx [(0,(.ref 0 0))] [(0,some (bx (jG (jX.mk qX qX))))] (zN (vB 0 uQ uV)<|zZ) ?_
 refine jB<|kx [] [(0,some (bx (jG (jX.mk (jM ((0:Int):Rat)) (jM ((0:Int):Rat))))))] (zE (kB (iW 0 0))<|zT (qL jW)<|zZ) ?_
 refine jE ⟨_,(kM (cs:=(bx (jG (jX.mk (jM ((0:Int):Rat)) (jM ((0:Int):Rat)))))) (d:=(jG (jX.mk (jM ((0:Int):Rat)) (jM ((0:Int):Rat))))) rfl rfl jW rfl rfl .nil),?_⟩
 rfl
theorem u_one :jP prog 104 [] (jG (kF (gw 1))):=by
 refine vD func104 ?_
 refine jB<|kx [(0,(.ref 0 0))] [(0,some (bx (jG (jX.mk qX qX))))] (zN (vB 0 uQ uV)<|zZ) ?_
 refine jB<|kx [] [(0,some (bx (jG (jX.mk (jM ((1:Int):Rat)) (jM ((1:Int):Rat))))))] (zE (kB (iW 1 1))<|zT (qL jW)<|zZ) ?_
 refine jE ⟨_,(kM (cs:=(bx (jG (jX.mk (jM ((1:Int):Rat)) (jM ((1:Int):Rat)))))) (d:=(jG (jX.mk (jM ((1:Int):Rat)) (jM ((1:Int):Rat))))) rfl rfl jW rfl rfl .nil),?_⟩
 rfl
theorem u_twice(a:R2)(ha:GL 67108864 a):jP prog 106 [(jG (kF a))] (jG (kF (kL (gw 2) a))):=by
 refine vD func106 ?_
 refine jB<|kx [(1,(.ref 0 0)),(2,(.ref 1 0))] [(0,some (bx (jG (kF a)))),(1,some (bx (jG (jX.mk qX qX))))] (zN (xD 0)<|zN (vB 1 uQ uV)<|zZ) ?_
 refine jB<|kd [] [(1,some (bx (jG (kF (kL (((2:Int):Rat),((2:Int):Rat)) a)))))] mo (wE (kB (iW 2 2))<|wR (kP jW)<|wE (kB (u_mul (((2:Int):Rat),((2:Int):Rat)) (kU (⟨(vL (z:=2) (uB)),(vL (z:=2) (uB)),(by decide:((2:Int):Rat)<=((2:Int):Rat))⟩)) a ha))<|wT (qL jW)<|wZ) ?_
 refine jE ⟨_,(kM (cs:=(bx (jG (kF (kL (((2:Int):Rat),((2:Int):Rat)) a))))) (d:=(jG (kF (kL (((2:Int):Rat),((2:Int):Rat)) a)))) rfl rfl jW rfl rfl .nil),?_⟩
 rfl
theorem u_held(a:R2)(ha:GL 67108864 a):jP prog 57 [(jG (kF a)),(.val (.int .i64 (-1)))] (jG (kF a)):=by
 refine vD func57 ?_
 refine jB<|kx [(2,(.ref 0 0)),(4,(.ref 1 0))] [(0,some (bx (jG (kF a)))),(1,some (bx (jG (jX.mk qX qX))))] (zN (xD 0)<|zN (vB 1 uQ uV)<|zZ) ?_
 refine jB<|jB<|kx [(8,(vb true))] [] (zM<|zE (nA true gX)<|zZ) ?_
 refine yP ?_
 refine jB<|kx [] [(1,some (bx (jG (kF a))))] (zR (kP jW)<|zT (qL jW)<|zZ) ?_
 refine jE ⟨_,(kM (cs:=(bx (jG (kF a)))) (d:=(jG (kF a))) rfl rfl jW rfl rfl .nil),?_⟩
 rfl
def prS(l:List R2):Nat->R2
 |0=>gw 0
 |j+1=>qE (prS l j) (kL (l.getD (2*j) z2) (l.getD (2*j+1) z2))
theorem prS_b{l:List R2}(h:∀ x∈l,GL 4194304 x):∀ j,GL (3+j*8388609) (prS l j)
 |0=>gl_0
 |j+1=>gY (prS_b h j) (uM (uH h (by decide) _) (uH h (by decide) _) (Nat.le_refl _)) (by omega)
theorem prS_gl{l:List R2}(h:∀ x∈l,GL 4194304 x){j:Nat}(hj:j<=4):GL 67108864 (prS l j):=kU (prS_b h j) (by omega)
theorem glc{n:Nat}{a:R2}{l:List R2}(h:GL n a)(k:∀ x∈l,GL n x):∀ x∈a::l,GL n x:=λx hx=>by
 rcases mem_cons.1 hx with rfl | hx
 ·exact h
 ·exact k x hx
theorem gln{n:Nat}:∀ x∈([]:List R2),GL n x:=λx hx=>by cases hx
theorem u_pairN(ls:List R2)(hls:∀ x∈ls,GL 4194304 x)(m:Nat)(hm:ls.length=2*m)(h4:m<=4):jP prog 105 [(.sl 42 8 (map jG (map kF ls)))] (jG (kF (prS ls m))):=by
 refine vD func105 ?_
 refine jB<|kx [(2,(.ref 0 0))] [(0,some (bx (jG (jX.mk qX qX))))] (zN (vB 0 uQ uV)<|zZ) ?_
 refine jB<|kx [(3,(.ref 1 0))] [(1,some (bx (jG (kF (gw 0)))))] (zE (kB u_none)<|zN (vB 1 uQ uV)<|zT (qL jW)<|zZ) ?_
 refine jB<|jB<|kx [(4,(kE 0))] [] (zM<|zZ) ?_
 refine jH<|kR (α:=Nat × Nat) (λ(i,j)=>⟨[(0,(vl 42 8 jG (map kF ls))),(2,(.ref 0 0)),(3,(.ref 1 0)),(4,(kE i))],[(0,some (bx (jG (jX.mk qX qX)))),(1,some (bx (jG (kF (prS ls j)))))]⟩) (λ(i,j)=>i=2*j/\j<=m) (λ(i,j)=>m-j) (0,0) wk ⟨rfl,Nat.zero_le _⟩ ?_
 rintro ⟨i,j⟩ ⟨hij,hj⟩
 refine jB<|jB<|kx [(10,(vb (decide ((((i+1):Nat):Int)<((ls.length:Nat):Int)))))] [] (zM<|zE (xO (i+1))<|zM<|zE (oLn xK ls.length)<|zE gX<|zZ) ?_
 refine jD rfl (λh1=>?_) (λh1=>?_)
 ·replace h1:=vF h1
  refine jF<|jB<|jH<|kd [] [(1,some (bx (jG (kF (prS ls (j+1))))))] mo (wR (kP jW)<|wM<|wM<|wE (iO xK kF i z2)<|wE (mR jW)<|wM<|wM<|wE (xO (i+1))<|wE (iO xK kF (i+1) z2)<|wE (mR jW)<|wE (kB (u_mul (ls.getD i z2) (kU (uH hls (by decide) i)) (ls.getD (i+1) z2) (kU (uH hls (by decide) (i+1)))))<|wE (oQd (jG (kF (qE (prS ls j) (kL (ls.getD i z2) (ls.getD (i+1) z2))))) (jG (kF (prS ls (j+1)))) (kB (u_add (prS ls j) (prS_gl hls (show j<=4 by omega)) (kL (ls.getD i z2) (ls.getD (i+1) z2)) (kU (uM (k:=8388608) (uH hls (by decide) i) (uH hls (by decide) (i+1)))))) (by exact (by rw[hij];rfl)))<|wT (qL jW)<|wZ) ?_
  refine kx [(4,(kE (i+2)))] [] (zM<|zE (xO (i+2))<|zM<|zZ) ?_
  exact ⟨(i+2,j+1),wk,⟨by omega,by omega⟩,(by first|omega|(dsimp only;omega))⟩
 ·replace h1:=vT h1
  refine kO<|jB<|kx [] [(0,some (bx (jG (kF (prS ls j)))))] (zR (kP jW)<|zT (qL jW)<|zZ) ?_
  refine jE ⟨_,(kM (cs:=(bx (jG (kF (prS ls j))))) (d:=(jG (kF (prS ls j)))) rfl rfl jW rfl rfl .nil),?_⟩
  rw[show j=m by omega];rfl
theorem u_pair(l0 l1 l2 l3:R2)(hl0:GL 4194304 l0)(hl1:GL 4194304 l1)(hl2:GL 4194304 l2)(hl3:GL 4194304 l3):jP prog 105 [(.sl 42 8 (map jG [(kF l0),(kF l1),(kF l2),(kF l3)]))] (jG (kF (qE (kL l0 l1) (kL l2 l3)))):=by
 have h:=u_pairN [l0,l1,l2,l3] (glc hl0 (glc hl1 (glc hl2 (glc hl3 gln)))) 2 rfl (by decide)
 rw[show prS [l0,l1,l2,l3] 2=qE (qE (gw 0) (kL l0 l1)) (kL l2 l3) from rfl,ga0] at h
 exact h
theorem u_w(x:jS)(y:jX)(z:jX)(bv:List R2)(hbx:∀ x∈bv,GL 1048576 x)(L:List JV)(hbl:bv.length<=1000000)(hn:eY bv.length L x)(hLk:∀ e9∈L,aW 1048576 bv.length e9)(hJ:aW 1048576 bv.length (nJ bv L x))(hy:1<=qB x.op->y=kF (jA L x.a).v)(hz:qB x.op=2->z=kF (jA L x.b).v):jP prog 56 [(jN x),(jG y),(jG z),(.sl 42 8 (map jG (map kF bv)))] (.tup [(jG (kF (nV bv L x))),(.val (.int .i64 (((0:Nat):Int))))]):=by
 have hS:StOk bv.length L x:=.inl hn
 refine vD func56 ?_
 refine jB<|kx [(4,(.ref 0 0)),(5,(.ref 1 0)),(6,(.ref 2 0)),(8,(.ref 3 0))] [(0,some (bx (jN x))),(1,some (bx (jG y))),(2,some (bx (jG z))),(3,some (bx (jG (jX.mk qX qX))))] (zN (xD 0)<|zN (xD 1)<|zN (xD 2)<|zN (vB 3 uQ uV)<|zM<|zZ) ?_
 refine jB<|jB<|kx [(11,(vi x.op))] [] (zE (kK xN)<|zR (qH cN)<|zZ) ?_
 refine jH<|jB<|kx [(12,(vb (x.op == 1)))] [] (zE xL<|zM<|zZ) ?_
 refine jD (b:=(x.op == 1)) rfl (λh1=>?_) (λh1=>?_)
 ·replace h1:=eq_of_beq h1
  have hop:=h1
  obtain ⟨a1,a2⟩:=hn.var hop
  refine jB<|kx [(9,(kE 0))] [(3,some (bx (jG (kF (bv.getD ((x.a).toNat) z2)))))] (zM<|zE (kK qN)<|zR (qH uN)<|zE (iO xK kF ((x.a).toNat) z2)<|zE (mR jW)<|zT (qL jW)<|zM<|zZ) ?_
  refine jE ⟨_,(kM (cs:=(bx (jG (kF (bv.getD ((x.a).toNat) z2))))) (d:=(jG (kF (bv.getD ((x.a).toNat) z2)))) rfl rfl jW rfl rfl (.tmp (d:=(.val (.int .i64 (0)))) rfl .nil)),?_⟩
  rw[nV_1 hop];rfl
 ·replace h1:=ne_of_beq_false h1
  refine jB<|kx [(19,(vb (x.op == 2)))] [] (zE xL<|zM<|zZ) ?_
  refine jD (b:=(x.op == 2)) rfl (λh2=>?_) (λh2=>?_)
  ·replace h2:=eq_of_beq h2
   have hk2:qB x.op=2:=by rw[h2];rfl
   have hop:=h2
   obtain ⟨a1,a2⟩:=hS.a (by omega)
   obtain ⟨b1,b2⟩:=hS.b hk2
   have hy2:=hy (by omega)
   have hz2:=hz hk2
   have hu:=hLk _ (qG (d:=jz) a2)
   have hv:=hLk _ (qG (d:=jz) b2)
   have hul:(jA L x.a).g.length=bv.length:=hu.2.2
   have hvl:(jA L x.b).g.length=bv.length:=hv.2.2
   refine jB<|kx [(9,(kE 0))] [(3,some (bx (jG (kF (qE ((jA L x.a).v) ((jA L x.b).v))))))] (zR (yN (jG y) (jG (kF ((jA L x.a).v))) (kP jW) (by exact (congrArg jG hy2)))<|zR (yN (jG z) (jG (kF ((jA L x.b).v))) (kP jW) (by exact (congrArg jG hz2)))<|zE (kB (u_add ((jA L x.a).v) (kU hu.1) ((jA L x.b).v) (kU hv.1)))<|zT (qL jW)<|zM<|zZ) ?_
   refine jE ⟨_,(kM (cs:=(bx (jG (kF (qE ((jA L x.a).v) ((jA L x.b).v)))))) (d:=(jG (kF (qE ((jA L x.a).v) ((jA L x.b).v))))) rfl rfl jW rfl rfl (.tmp (d:=(.val (.int .i64 (0)))) rfl .nil)),?_⟩
   rw[nV_2 hop];rfl
  ·replace h2:=ne_of_beq_false h2
   refine jB<|kx [(24,(vb (x.op == 3)))] [] (zE xL<|zM<|zZ) ?_
   refine jD (b:=(x.op == 3)) rfl (λh3=>?_) (λh3=>?_)
   ·replace h3:=eq_of_beq h3
    have hk2:qB x.op=2:=by rw[h3];rfl
    have hop:=h3
    obtain ⟨a1,a2⟩:=hS.a (by omega)
    obtain ⟨b1,b2⟩:=hS.b hk2
    have hy2:=hy (by omega)
    have hz2:=hz hk2
    have hu:=hLk _ (qG (d:=jz) a2)
    have hv:=hLk _ (qG (d:=jz) b2)
    have hul:(jA L x.a).g.length=bv.length:=hu.2.2
    have hvl:(jA L x.b).g.length=bv.length:=hv.2.2
    refine jB<|kx [(9,(kE 0))] [(3,some (bx (jG (kF (gS ((jA L x.a).v) ((jA L x.b).v))))))] (zR (yN (jG y) (jG (kF ((jA L x.a).v))) (kP jW) (by exact (congrArg jG hy2)))<|zR (yN (jG z) (jG (kF ((jA L x.b).v))) (kP jW) (by exact (congrArg jG hz2)))<|zE (kB (u_sub ((jA L x.a).v) (kU hu.1) ((jA L x.b).v) (kU hv.1)))<|zT (qL jW)<|zM<|zZ) ?_
    refine jE ⟨_,(kM (cs:=(bx (jG (kF (gS ((jA L x.a).v) ((jA L x.b).v)))))) (d:=(jG (kF (gS ((jA L x.a).v) ((jA L x.b).v))))) rfl rfl jW rfl rfl (.tmp (d:=(.val (.int .i64 (0)))) rfl .nil)),?_⟩
    rw[nV_3 hop];rfl
   ·replace h3:=ne_of_beq_false h3
    refine jB<|kx [(29,(vb (x.op == 4)))] [] (zE xL<|zM<|zZ) ?_
    refine jD (b:=(x.op == 4)) rfl (λh4=>?_) (λh4=>?_)
    ·replace h4:=eq_of_beq h4
     have hk2:qB x.op=2:=by rw[h4];rfl
     have hop:=h4
     obtain ⟨a1,a2⟩:=hS.a (by omega)
     obtain ⟨b1,b2⟩:=hS.b hk2
     have hy2:=hy (by omega)
     have hz2:=hz hk2
     have hu:=hLk _ (qG (d:=jz) a2)
     have hv:=hLk _ (qG (d:=jz) b2)
     have hul:(jA L x.a).g.length=bv.length:=hu.2.2
     have hvl:(jA L x.b).g.length=bv.length:=hv.2.2
     refine jB<|kx [(9,(kE 0))] [(3,some (bx (jG (kF (kL ((jA L x.a).v) ((jA L x.b).v))))))] (zR (yN (jG y) (jG (kF ((jA L x.a).v))) (kP jW) (by exact (congrArg jG hy2)))<|zR (yN (jG z) (jG (kF ((jA L x.b).v))) (kP jW) (by exact (congrArg jG hz2)))<|zE (kB (u_mul ((jA L x.a).v) (kU hu.1) ((jA L x.b).v) (kU hv.1)))<|zT (qL jW)<|zM<|zZ) ?_
     refine jE ⟨_,(kM (cs:=(bx (jG (kF (kL ((jA L x.a).v) ((jA L x.b).v)))))) (d:=(jG (kF (kL ((jA L x.a).v) ((jA L x.b).v))))) rfl rfl jW rfl rfl (.tmp (d:=(.val (.int .i64 (0)))) rfl .nil)),?_⟩
     rw[nV_4 hop];rfl
    ·replace h4:=ne_of_beq_false h4
     refine jB<|kx [(34,(vb (x.op == 5)))] [] (zE xL<|zM<|zZ) ?_
     refine jD (b:=(x.op == 5)) rfl (λh5=>?_) (λh5=>?_)
     ·replace h5:=eq_of_beq h5
      have hk2:qB x.op=2:=by rw[h5];rfl
      have hop:=h5
      obtain ⟨a1,a2⟩:=hS.a (by omega)
      obtain ⟨b1,b2⟩:=hS.b hk2
      have hy2:=hy (by omega)
      have hz2:=hz hk2
      have hu:=hLk _ (qG (d:=jz) a2)
      have hv:=hLk _ (qG (d:=jz) b2)
      have hul:(jA L x.a).g.length=bv.length:=hu.2.2
      have hvl:(jA L x.b).g.length=bv.length:=hv.2.2
      refine jB<|kx [(9,(kE 0))] [(3,some (bx (jG (kF (fK ((jA L x.a).v) ((jA L x.b).v))))))] (zR (yN (jG y) (jG (kF ((jA L x.a).v))) (kP jW) (by exact (congrArg jG hy2)))<|zR (yN (jG z) (jG (kF ((jA L x.b).v))) (kP jW) (by exact (congrArg jG hz2)))<|zE (kB (u_div ((jA L x.a).v) (kU hu.1) ((jA L x.b).v) (kU hv.1) (hn.zf hop)))<|zE zP<|zE zP<|zT (qL jW)<|zM<|zZ) ?_
      refine jE ⟨_,(kM (cs:=(bx (jG (kF (fK ((jA L x.a).v) ((jA L x.b).v)))))) (d:=(jG (kF (fK ((jA L x.a).v) ((jA L x.b).v))))) rfl rfl jW rfl rfl (.tmp (d:=(.val (.int .i64 (((0:Nat):Int))))) rfl .nil)),?_⟩
      rw[nV_5 hop];rfl
     ·replace h5:=ne_of_beq_false h5
      refine jB<|kx [(41,(vb (x.op == 6)))] [] (zE xL<|zM<|zZ) ?_
      refine jD (b:=(x.op == 6)) rfl (λh6=>?_) (λh6=>?_)
      ·replace h6:=eq_of_beq h6
       have hk1:qB x.op=1:=by rw[h6];rfl
       have hop:=h6
       obtain ⟨a1,a2⟩:=hS.a (by omega)
       have hy2:=hy (by omega)
       have hu:=hLk _ (qG (d:=jz) a2)
       have hul:(jA L x.a).g.length=bv.length:=hu.2.2
       refine jB<|kx [(9,(kE 0))] [(3,some (bx (jG (kF (lR ((jA L x.a).v))))))] (zR (yN (jG y) (jG (kF ((jA L x.a).v))) (kP jW) (by exact (congrArg jG hy2)))<|zE (kB (u_neg ((jA L x.a).v) (kU hu.1)))<|zT (qL jW)<|zM<|zZ) ?_
       refine jE ⟨_,(kM (cs:=(bx (jG (kF (lR ((jA L x.a).v)))))) (d:=(jG (kF (lR ((jA L x.a).v))))) rfl rfl jW rfl rfl (.tmp (d:=(.val (.int .i64 (0)))) rfl .nil)),?_⟩
       rw[nV_6 hop];rfl
      ·replace h6:=ne_of_beq_false h6
       refine jB<|kx [(45,(vb (x.op == 7)))] [] (zE xL<|zM<|zZ) ?_
       refine jD (b:=(x.op == 7)) rfl (λh7=>?_) (λh7=>?_)
       ·replace h7:=eq_of_beq h7
        have hk1:qB x.op=1:=by rw[h7];rfl
        have hop:=h7
        obtain ⟨a1,a2⟩:=hS.a (by omega)
        have hy2:=hy (by omega)
        have hu:=hLk _ (qG (d:=jz) a2)
        have hul:(jA L x.a).g.length=bv.length:=hu.2.2
        refine jB<|kx [(9,(kE 0))] [(3,some (bx (jG (kF (gsq ((jA L x.a).v))))))] (zR (yN (jG y) (jG (kF ((jA L x.a).v))) (kP jW) (by exact (congrArg jG hy2)))<|zE (kB (u_sq ((jA L x.a).v) (kU hu.1)))<|zT (qL jW)<|zM<|zZ) ?_
        refine jE ⟨_,(kM (cs:=(bx (jG (kF (gsq ((jA L x.a).v)))))) (d:=(jG (kF (gsq ((jA L x.a).v))))) rfl rfl jW rfl rfl (.tmp (d:=(.val (.int .i64 (0)))) rfl .nil)),?_⟩
        rw[nV_7 hop];rfl
       ·replace h7:=ne_of_beq_false h7
        have hop:x.op=0:=by have:=hn.op;omega
        have hc9:=hn.con hop
        refine jF<|jB<|kx [(9,(kE 0))] [(3,some (bx (jG (jX.mk (jM (qS x.n)) (jM (qS x.n))))))] (zE (kK mL)<|zR (yN (jJ x.n) (jJ (jM (qS x.n))) (kP jT) (by exact (congrArg jJ hc9.1)))<|zE (kB (h_point (qS x.n) (uG hc9.2)))<|zT (qL jW)<|zM<|zZ) ?_
        refine jE ⟨_,(kM (cs:=(bx (jG (jX.mk (jM (qS x.n)) (jM (qS x.n)))))) (d:=(jG (jX.mk (jM (qS x.n)) (jM (qS x.n))))) rfl rfl jW rfl rfl (.tmp (d:=(.val (.int .i64 (0)))) rfl .nil)),?_⟩
        rw[nV_0 hop];rfl
theorem u_vF(a:Nat)(b:Nat)(u:R2)(hu:GL 1048576 u)(v:R2)(hv:GL 1048576 v)(b_:jY)(hz:mU v.1 v.2=true):jP prog 56 [(jN (jS.mk 5 ((a:Nat):Int) ((b:Nat):Int) qX)),(jG (kF u)),(jG (kF v)),(b_)] (.tup [(jG (jX.mk qX qX)),(.val (.int .i64 (((14:Nat):Int))))]):=by
 let y2:=qX
 let y1:=(bx (jG (jX.mk y2 y2)))
 refine vD func56 ?_
 refine jB<|kx [(4,(.ref 0 0)),(5,(.ref 1 0)),(6,(.ref 2 0)),(8,(.ref 3 0))] [(0,some (bx (jN (jS.mk 5 ((a:Nat):Int) ((b:Nat):Int) y2)))),(1,some (bx (jG (kF u)))),(2,some (bx (jG (kF v)))),(3,some y1)] (zN (xD 0)<|zN (xD 1)<|zN (xD 2)<|zN (vB 3 uQ uV)<|zM<|zZ) ?_
 refine jB<|jB<|kx [(11,(vi 5))] [] (zE (kK xN)<|zR (qH cN)<|zZ) ?_
 refine jH<|jB<|kx [(12,(vb false))] [] (zE (nA false xL)<|zM<|zZ) ?_
 refine uI ?_
 refine jB<|kx [(19,(vb false))] [] (zE (nA false xL)<|zM<|zZ) ?_
 refine uI ?_
 refine jB<|kx [(24,(vb false))] [] (zE (nA false xL)<|zM<|zZ) ?_
 refine uI ?_
 refine jB<|kx [(29,(vb false))] [] (zE (nA false xL)<|zM<|zZ) ?_
 refine uI ?_
 refine jB<|kx [(34,(vb true))] [] (zE (nA true xL)<|zM<|zZ) ?_
 refine yP ?_
 refine jB<|kx [(9,(vi 14))] [(3,some y1)] (zR (kP jW)<|zR (kP jW)<|zE (kB (h_divideZ u.1 u.2 (uG hu.1) (uG hu.2.1) hu.2.2 v.1 v.2 (uG hv.1) (uG hv.2.1) hv.2.2 hz))<|zE zP<|zE zP<|zT (qL jW)<|zM<|zZ) ?_
 refine jE ⟨_,(kM (cs:=y1) (d:=(jG (jX.mk y2 y2))) rfl rfl jW rfl rfl (.tmp (d:=(.val (.int .i64 (14)))) rfl .nil)),?_⟩
 rfl
theorem u_x(x:jS)(y:xS)(z:xS)(w:jX)(i:Nat)(bv:List R2)(L:List JV)(hn:eY bv.length L x)(hLk:∀ e9∈L,aW 1048576 bv.length e9)(hJ:aW 1048576 bv.length (nJ bv L x))(hi:i<bv.length)(hy:1<=qB x.op->y.value=kF (jA L x.a).v/\y.grad=map kF (jA L x.a).g)(hz:qB x.op=2->z.value=kF (jA L x.b).v/\z.grad=map kF (jA L x.b).g)(hw:w=kF (nV bv L x)):jP prog 58 [(jN x),(jR y),(jR z),(jG w),(.val (.int .i64 (((i:Nat):Int))))] (jG (kF (nG bv L x i))):=by
 have hS:StOk bv.length L x:=.inl hn
 let y3:=(map jG (map kF ((jA L x.a).g)))
 let y2:=(jG (kF (qE (kL ((jA L x.a).v) (((jA L x.b).g).getD i z2)) (kL ((jA L x.b).v) (((jA L x.a).g).getD i z2)))))
 let y1:=(bx (jG (kF (fK (gS (((jA L x.a).g).getD i z2) (kL (nV bv L x) (((jA L x.b).g).getD i z2))) ((jA L x.b).v)))))
 refine vD func58 ?_
 refine jB<|kx [(5,(.ref 0 0)),(6,(.ref 1 0)),(7,(.ref 2 0)),(8,(.ref 3 0)),(10,(.ref 4 0))] [(0,some (bx (jN x))),(1,some (bx (jR y))),(2,some (bx (jR z))),(3,some (bx (jG w))),(4,some (bx (jG (jX.mk qX qX))))] (zN (xD 0)<|zN (xD 1)<|zN (xD 2)<|zN (xD 3)<|zN (vB 4 uQ uV)<|zZ) ?_
 refine jB<|jB<|kx [(14,(vi x.op))] [] (zE (kK xN)<|zR (qH cN)<|zZ) ?_
 refine jH<|jB<|kx [(15,(vb (x.op == 1)))] [] (zE xL<|zM<|zZ) ?_
 refine jD (b:=(x.op == 1)) rfl (λh1=>?_) (λh1=>?_)
 ·replace h1:=eq_of_beq h1
  have hop:=h1
  refine jB<|kx [(20,(vb (((i:Nat):Int) == x.a)))] [] (zM<|zE (kK qN)<|zR (qH uN)<|zE xL<|zZ) ?_
  refine jD (b:=(((i:Nat):Int) == x.a)) rfl (λh2=>?_) (λh2=>?_)
  ·replace h2:=eq_of_beq h2
   refine jB<|kx [] [(4,some (bx (jG (kF (gw 1)))))] (zE (kB u_one)<|zT (qL jW)<|zZ) ?_
   refine jE ⟨_,(kM (cs:=(bx (jG (kF (gw 1))))) (d:=(jG (kF (gw 1)))) rfl rfl jW rfl rfl .nil),?_⟩
   rw[nG_1 hop,if_pos h2];rfl
  ·replace h2:=ne_of_beq_false h2
   refine jF<|jB<|kx [] [(4,some (bx (jG (kF (gw 0)))))] (zE (kB u_none)<|zT (qL jW)<|zZ) ?_
   refine jE ⟨_,(kM (cs:=(bx (jG (kF (gw 0))))) (d:=(jG (kF (gw 0)))) rfl rfl jW rfl rfl .nil),?_⟩
   rw[nG_1 hop,if_neg h2];rfl
 ·replace h1:=ne_of_beq_false h1
  refine jB<|kx [(22,(vb (x.op == 2)))] [] (zE xL<|zM<|zZ) ?_
  refine jD (b:=(x.op == 2)) rfl (λh3=>?_) (λh3=>?_)
  ·replace h3:=eq_of_beq h3
   have hk2:qB x.op=2:=by rw[h3];rfl
   have hop:=h3
   obtain ⟨a1,a2⟩:=hS.a (by omega)
   obtain ⟨b1,b2⟩:=hS.b hk2
   have hy2:=hy (by omega)
   have hz2:=hz hk2
   have hu:=hLk _ (qG (d:=jz) a2)
   have hv:=hLk _ (qG (d:=jz) b2)
   have hul:(jA L x.a).g.length=bv.length:=hu.2.2
   have hvl:(jA L x.b).g.length=bv.length:=hv.2.2
   refine jB<|kd [] [(4,some (bx (jG (kF (qE (((jA L x.a).g).getD i z2) (((jA L x.b).g).getD i z2))))))] mo (wE (kK vS)<|wR (yN (.sl 42 8 (map jG y.grad)) (.sl 42 8 y3) (qH mE) (by exact (by rw[hy2.2])))<|wM<|wE (iO xK kF i z2)<|wE (mR jW)<|wE (kK vS)<|wR (yN (.sl 42 8 (map jG z.grad)) (.sl 42 8 (map jG (map kF ((jA L x.b).g)))) (qH mE) (by exact (by rw[hz2.2])))<|wM<|wE (iO xK kF i z2)<|wE (mR jW)<|wE (kB (u_add (((jA L x.a).g).getD i z2) (kU (uH hu.2.1 (by decide) i)) (((jA L x.b).g).getD i z2) (kU (uH hv.2.1 (by decide) i))))<|wT (qL jW)<|wZ) ?_
   refine jE ⟨_,(kM (cs:=(bx (jG (kF (qE (((jA L x.a).g).getD i z2) (((jA L x.b).g).getD i z2)))))) (d:=(jG (kF (qE (((jA L x.a).g).getD i z2) (((jA L x.b).g).getD i z2))))) rfl rfl jW rfl rfl .nil),?_⟩
   rw[nG_2 hop];rfl
  ·replace h3:=ne_of_beq_false h3
   refine jB<|kx [(35,(vb (x.op == 3)))] [] (zE xL<|zM<|zZ) ?_
   refine jD (b:=(x.op == 3)) rfl (λh4=>?_) (λh4=>?_)
   ·replace h4:=eq_of_beq h4
    have hk2:qB x.op=2:=by rw[h4];rfl
    have hop:=h4
    obtain ⟨a1,a2⟩:=hS.a (by omega)
    obtain ⟨b1,b2⟩:=hS.b hk2
    have hy2:=hy (by omega)
    have hz2:=hz hk2
    have hu:=hLk _ (qG (d:=jz) a2)
    have hv:=hLk _ (qG (d:=jz) b2)
    have hul:(jA L x.a).g.length=bv.length:=hu.2.2
    have hvl:(jA L x.b).g.length=bv.length:=hv.2.2
    refine jB<|kd [] [(4,some (bx (jG (kF (gS (((jA L x.a).g).getD i z2) (((jA L x.b).g).getD i z2))))))] mo (wE (kK vS)<|wR (yN (.sl 42 8 (map jG y.grad)) (.sl 42 8 y3) (qH mE) (by exact (by rw[hy2.2])))<|wM<|wE (iO xK kF i z2)<|wE (mR jW)<|wE (kK vS)<|wR (yN (.sl 42 8 (map jG z.grad)) (.sl 42 8 (map jG (map kF ((jA L x.b).g)))) (qH mE) (by exact (by rw[hz2.2])))<|wM<|wE (iO xK kF i z2)<|wE (mR jW)<|wE (kB (u_sub (((jA L x.a).g).getD i z2) (kU (uH hu.2.1 (by decide) i)) (((jA L x.b).g).getD i z2) (kU (uH hv.2.1 (by decide) i))))<|wT (qL jW)<|wZ) ?_
    refine jE ⟨_,(kM (cs:=(bx (jG (kF (gS (((jA L x.a).g).getD i z2) (((jA L x.b).g).getD i z2)))))) (d:=(jG (kF (gS (((jA L x.a).g).getD i z2) (((jA L x.b).g).getD i z2))))) rfl rfl jW rfl rfl .nil),?_⟩
    rw[nG_3 hop];rfl
   ·replace h4:=ne_of_beq_false h4
    refine jB<|kx [(48,(vb (x.op == 6)))] [] (zE xL<|zM<|zZ) ?_
    refine jD (b:=(x.op == 6)) rfl (λh5=>?_) (λh5=>?_)
    ·replace h5:=eq_of_beq h5
     have hk1:qB x.op=1:=by rw[h5];rfl
     have hop:=h5
     obtain ⟨a1,a2⟩:=hS.a (by omega)
     have hy2:=hy (by omega)
     have hu:=hLk _ (qG (d:=jz) a2)
     have hul:(jA L x.a).g.length=bv.length:=hu.2.2
     refine jB<|kx [] [(4,some (bx (jG (kF (lR (((jA L x.a).g).getD i z2))))))] (zE (kK vS)<|zR (yN (.sl 42 8 (map jG y.grad)) (.sl 42 8 y3) (qH mE) (by exact (by rw[hy2.2])))<|zM<|zE (iO xK kF i z2)<|zE (mR jW)<|zE (kB (u_neg (((jA L x.a).g).getD i z2) (kU (uH hu.2.1 (by decide) i))))<|zT (qL jW)<|zZ) ?_
     refine jE ⟨_,(kM (cs:=(bx (jG (kF (lR (((jA L x.a).g).getD i z2)))))) (d:=(jG (kF (lR (((jA L x.a).g).getD i z2))))) rfl rfl jW rfl rfl .nil),?_⟩
     rw[nG_6 hop];rfl
    ·replace h5:=ne_of_beq_false h5
     refine jB<|kx [(56,(vb (x.op == 4)))] [] (zE xL<|zM<|zZ) ?_
     refine jD (b:=(x.op == 4)) rfl (λh6=>?_) (λh6=>?_)
     ·replace h6:=eq_of_beq h6
      have hk2:qB x.op=2:=by rw[h6];rfl
      have hop:=h6
      obtain ⟨a1,a2⟩:=hS.a (by omega)
      obtain ⟨b1,b2⟩:=hS.b hk2
      have hy2:=hy (by omega)
      have hz2:=hz hk2
      have hu:=hLk _ (qG (d:=jz) a2)
      have hv:=hLk _ (qG (d:=jz) b2)
      have hul:(jA L x.a).g.length=bv.length:=hu.2.2
      have hvl:(jA L x.b).g.length=bv.length:=hv.2.2
      refine jB<|kd [] [(4,some (bx y2))] mo (wE (kK yI)<|wR (yN (jG y.value) (jG (kF ((jA L x.a).v))) (kP jW) (by exact (by rw[hy2.1])))<|wE (kK vS)<|wR (yN (.sl 42 8 (map jG z.grad)) (.sl 42 8 (map jG (map kF ((jA L x.b).g)))) (qH mE) (by exact (by rw[hz2.2])))<|wM<|wE (iO xK kF i z2)<|wE (mR jW)<|wE (kK yI)<|wR (yN (jG z.value) (jG (kF ((jA L x.b).v))) (kP jW) (by exact (by rw[hz2.1])))<|wE (kK vS)<|wR (yN (.sl 42 8 (map jG y.grad)) (.sl 42 8 y3) (qH mE) (by exact (by rw[hy2.2])))<|wM<|wE (iO xK kF i z2)<|wE (mR jW)<|wE (fC xK uQ uV)<|wE (kB (u_pair ((jA L x.a).v) (((jA L x.b).g).getD i z2) ((jA L x.b).v) (((jA L x.a).g).getD i z2) (kU hu.1) (kU (uH hv.2.1 (by decide) i)) (kU hv.1) (kU (uH hu.2.1 (by decide) i))))<|wT (qL jW)<|wZ) ?_
      refine jE ⟨_,(kM (cs:=(bx y2)) (d:=y2) rfl rfl jW rfl rfl .nil),?_⟩
      rw[nG_4 hop];rfl
     ·replace h6:=ne_of_beq_false h6
      refine jB<|kx [(74,(vb (x.op == 7)))] [] (zE xL<|zM<|zZ) ?_
      refine jD (b:=(x.op == 7)) rfl (λh7=>?_) (λh7=>?_)
      ·replace h7:=eq_of_beq h7
       have hk1:qB x.op=1:=by rw[h7];rfl
       have hop:=h7
       obtain ⟨a1,a2⟩:=hS.a (by omega)
       have hy2:=hy (by omega)
       have hu:=hLk _ (qG (d:=jz) a2)
       have hul:(jA L x.a).g.length=bv.length:=hu.2.2
       refine jB<|kd [] [(4,some (bx (jG (kF (kL (gw 2) (kL ((jA L x.a).v) (((jA L x.a).g).getD i z2)))))))] mo (wE (kK yI)<|wR (yN (jG y.value) (jG (kF ((jA L x.a).v))) (kP jW) (by exact (by rw[hy2.1])))<|wE (kK vS)<|wR (yN (.sl 42 8 (map jG y.grad)) (.sl 42 8 y3) (qH mE) (by exact (by rw[hy2.2])))<|wM<|wE (iO xK kF i z2)<|wE (mR jW)<|wE (kB (u_mul ((jA L x.a).v) (kU hu.1) (((jA L x.a).g).getD i z2) (kU (uH hu.2.1 (by decide) i))))<|wE (kB (u_twice (kL ((jA L x.a).v) (((jA L x.a).g).getD i z2)) (kU (uM (k:=2097152) hu.1 (uH hu.2.1 (by decide) i)))))<|wT (qL jW)<|wZ) ?_
       refine jE ⟨_,(kM (cs:=(bx (jG (kF (kL (gw 2) (kL ((jA L x.a).v) (((jA L x.a).g).getD i z2))))))) (d:=(jG (kF (kL (gw 2) (kL ((jA L x.a).v) (((jA L x.a).g).getD i z2)))))) rfl rfl jW rfl rfl .nil),?_⟩
       rw[nG_7 hop];rfl
      ·replace h7:=ne_of_beq_false h7
       refine jB<|kx [(85,(vb (x.op == 5)))] [] (zE xL<|zM<|zZ) ?_
       refine jD (b:=(x.op == 5)) rfl (λh8=>?_) (λh8=>?_)
       ·replace h8:=eq_of_beq h8
        have hk2:qB x.op=2:=by rw[h8];rfl
        have hop:=h8
        obtain ⟨a1,a2⟩:=hS.a (by omega)
        obtain ⟨b1,b2⟩:=hS.b hk2
        have hy2:=hy (by omega)
        have hz2:=hz hk2
        have hu:=hLk _ (qG (d:=jz) a2)
        have hv:=hLk _ (qG (d:=jz) b2)
        have hul:(jA L x.a).g.length=bv.length:=hu.2.2
        have hvl:(jA L x.b).g.length=bv.length:=hv.2.2
        refine jB<|kd [(11,(.ref 5 0))] [(5,some y1)] mo (wE (kK vS)<|wR (yN (.sl 42 8 (map jG y.grad)) (.sl 42 8 y3) (qH mE) (by exact (by rw[hy2.2])))<|wM<|wE (iO xK kF i z2)<|wE (mR jW)<|wR (yN (jG w) (jG (kF (nV bv L x))) (kP jW) (by exact (congrArg jG hw)))<|wE (kK vS)<|wR (yN (.sl 42 8 (map jG z.grad)) (.sl 42 8 (map jG (map kF ((jA L x.b).g)))) (qH mE) (by exact (by rw[hz2.2])))<|wM<|wE (iO xK kF i z2)<|wE (mR jW)<|wE (kB (u_mul (nV bv L x) (kU hJ.1) (((jA L x.b).g).getD i z2) (kU (uH hv.2.1 (by decide) i))))<|wE (kB (u_sub (((jA L x.a).g).getD i z2) (kU (uH hu.2.1 (by decide) i)) (kL (nV bv L x) (((jA L x.b).g).getD i z2)) (kU (uM (k:=2097152) hJ.1 (uH hv.2.1 (by decide) i)))))<|wE (kK yI)<|wR (yN (jG z.value) (jG (kF ((jA L x.b).v))) (kP jW) (by exact (by rw[hz2.1])))<|wE (kB (u_div (gS (((jA L x.a).g).getD i z2) (kL (nV bv L x) (((jA L x.b).g).getD i z2))) (kU (gl_sub (k:=3145729) (uH hu.2.1 (by decide) i) (uM (k:=2097152) hJ.1 (uH hv.2.1 (by decide) i)))) ((jA L x.b).v) (kU hv.1) (hn.zf hop)))<|wM<|wE zP<|wE zP<|wN (vB 5 uQ uV)<|wT (qL jW)<|wM<|wZ) ?_
        refine jB<|kx [] [(4,some y1)] (zR (kP jW)<|zT (qL jW)<|zZ) ?_
        refine jE ⟨_,(kM (cs:=y1) (d:=(jG (kF (fK (gS (((jA L x.a).g).getD i z2) (kL (nV bv L x) (((jA L x.b).g).getD i z2))) ((jA L x.b).v))))) rfl rfl jW rfl rfl .nil),?_⟩
        rw[nG_5 hop];rfl
       ·replace h8:=ne_of_beq_false h8
        have hop:x.op=0:=by have:=hn.op;omega
        have hc9:=hn.con hop
        refine jF<|jB<|kx [] [(4,some (bx (jG (kF (gw 0)))))] (zE (kB u_none)<|zT (qL jW)<|zZ) ?_
        refine jE ⟨_,(kM (cs:=(bx (jG (kF (gw 0))))) (d:=(jG (kF (gw 0)))) rfl rfl jW rfl rfl .nil),?_⟩
        rw[nG_0 hop];rfl
end Go.Proofs.YtckccjhflbljgaaGreatDoor
