/- Part 24 of a proof: rules, plain facts, and functions walked. -/
import Derived.Test.YtciingpdmjepgabGreatDoorM23
import Derived.Test.YtciingpdmjepgabGreatDoorM21
import Derived.Test.YtciingpdmjepgabGreatDoorM12
import Derived.Test.YtciingpdmjepgabGreatDoorM22
set_option linter.all false
namespace Go.Fid
theorem gs0(a:R2):dB (gw 0) a=gneg a:=by
 unfold dB gw gneg
 rw[show ((0:Int):Rat)=0 from rfl,Rat.sub_eq_add_neg,Rat.sub_eq_add_neg,Rat.zero_add,Rat.zero_add]
def bV(s:Nat):Nat:=25*s-1
def bG(s:Nat):Nat:=51*(s*s)
def nQ(v:R2)(g:Nat->R2)(s:Nat):Prop:=GL (bV s) v/\∀ i,GL (bG s) (g i)
def BdOk(ss:List Int)(L:List JV):Prop:=∀ j,j<L.length->∃ s:Nat,ss.getD j 0=(s:Int)/\1<=s/\nQ (L.getD j jz).v (fun i=>(L.getD j jz).g.getD i z2) s
theorem gl_0:GL 3 (gw 0):=gl_w (z:=0) (by omega) (by omega)
theorem gl_1:GL 3 (gw 1):=gl_w (z:=1) (by omega) (by omega)
theorem gl_2:GL 3 (gw 2):=gl_w (z:=2) (by omega) (by omega)
theorem sq_sum(s r:Nat):(s+r)*(s+r)=s*s+r*r+2*(s*r):=by
 rw[Nat.add_mul,Nat.mul_add,Nat.mul_add,Nat.mul_comm r s];omega
theorem sr_le{s r:Nat}(hs:1<=s)(hr:1<=r):s+r<=2*(s*r):=by
 have h1:s*1<=s*r:=Nat.mul_le_mul (Nat.le_refl _) hr
 have h2:1*r<=s*r:=Nat.mul_le_mul hs (Nat.le_refl _)
 omega
theorem nQ.pt{v:R2}{g:Nat->R2}(hv:GL 24 v)(hg:∀ i,GL 3 (g i)):nQ v g 1:=⟨hv,fun i=>qG (hg i) (by decide)⟩
theorem nQ.add{v w:R2}{g h:Nat->R2}{s r:Nat}(hs:1<=s)(hr:1<=r)(a:nQ v g s)(b:nQ w h r):nQ (jO v w) (fun i=>jO (g i) (h i)) (s+r):=by
 have e:=sq_sum s r
 have e2:=sr_le hs hr
 exact ⟨vL a.1 b.1 (by unfold bV;omega),fun i=>vL (a.2 i) (b.2 i) (by unfold bG;omega)⟩
theorem nQ.sub{v w:R2}{g h:Nat->R2}{s r:Nat}(hs:1<=s)(hr:1<=r)(a:nQ v g s)(b:nQ w h r):nQ (dB v w) (fun i=>dB (g i) (h i)) (s+r):=by
 have e:=sq_sum s r
 have e2:=sr_le hs hr
 exact ⟨fN a.1 b.1 (by unfold bV;omega),fun i=>fN (a.2 i) (b.2 i) (by unfold bG;omega)⟩
theorem nQ.mul{v w:R2}{g h:Nat->R2}{s r:Nat}(hs:1<=s)(hr:1<=r)(a:nQ v g s)(b:nQ w h r):nQ (jN v w) (fun i=>jO (jN v (h i)) (jN w (g i))) (s+r):=by
 have e:=sq_sum s r
 have e2:=sr_le hs hr
 exact ⟨qN a.1 b.1 (by unfold bV;omega),fun i=>vL (qN a.1 (b.2 i) (Nat.le_refl _)) (qN b.1 (a.2 i) (Nat.le_refl _)) (by unfold bV bG;omega)⟩
theorem nQ.div{v w:R2}{g h:Nat->R2}{s r:Nat}(hs:1<=s)(hr:1<=r)(a:nQ v g s)(b:nQ w h r):nQ (gdiv v w) (fun i=>gdiv (dB (g i) (jN (gdiv v w) (h i))) w) (s+r):=by
 have e:=sq_sum s r
 have e2:=sr_le hs hr
 have hq:GL (bV (s+r)) (gdiv v w):=gl_div a.1 b.1 (by unfold bV;omega)
 exact ⟨hq,fun i=>gl_div (fN (a.2 i) (qN hq (b.2 i) (Nat.le_refl _)) (Nat.le_refl _)) b.1 (by unfold bV bG;omega)⟩
theorem nQ.neg{v:R2}{g:Nat->R2}{s:Nat}(a:nQ v g s):nQ (dB (gw 0) v) (fun i=>dB (gw 0) (g i)) s :=
 ⟨by rw[gs0];exact gl_neg a.1,fun i=>by show GL _ (dB (gw 0) (g i));rw[gs0];exact gl_neg (a.2 i)⟩
theorem nQ.sq{v:R2}{g:Nat->R2}{s:Nat}(hs:1<=s)(a:nQ v g s):nQ (gsq v) (fun i=>jN (gw 2) (jN v (g i))) (2*s):=by
 have e:=sq_sum s s
 have e2:=sr_le hs hs
 rw[show 2*s=s+s by omega]
 exact ⟨gl_sq a.1 (by unfold bV;omega),fun i=>qN gl_2 (qN a.1 (a.2 i) (Nat.le_refl _)) (by unfold bV bG;omega)⟩
theorem nJ_get{bx:List R2}{L:List JV}{x:kI}{s:Nat}(h1:1<=s)(h:nQ (nV bx L x) (nG bx L x) s):nQ (nJ bx L x).v (fun i=>(nJ bx L x).g.getD i z2) s:=by
 refine ⟨h.1,fun i=>?_⟩
 have h2:s*1<=s*s:=Nat.mul_le_mul (Nat.le_refl _) h1
 show GL _ ((nJ bx L x).g.getD i z2)
 unfold nJ jk
 dsimp only
 rw[List.getD_eq_getElem?_getD,List.getElem?_map]
 rcases Nat.lt_or_ge i bx.length with h3 | h3
 ·rw[List.getElem?_range h3];exact h.2 i
 ·rw[List.getElem?_eq_none (by simpa using h3)]
  exact ⟨kS mW (by unfold bG;omega),kS mW (by unfold bG;omega),Rat.le_refl⟩
theorem bd_at{ss:List Int}{L:List JV}(h:BdOk ss L){a:Int}(h0:0<=a)(h1:a<L.length):∃ s:Nat,ss.getD a.toNat 0=(s:Int)/\1<=s/\nQ (jA L a).v (fun i=>(jA L a).g.getD i z2) s:=h a.toNat (by omega)
theorem bd_node{z:Int}{ss:List Int}{L:List JV}{bx:List R2}{x:kI}(hk:ndC z ss x=0)(hl:ss.length=L.length)(hq:gD x.n (xZ x.n) 8)(hb:∀ y∈bx,GL 24 y)(h:BdOk ss L) :
  ∃ s:Nat,eD ss x=(s:Int)/\1<=s/\nQ (nV bx L x) (nG bx L x) s:=by
 obtain ⟨h1,h2,h3,_⟩:=nd_0 hk
 unfold cC at h1
 unfold nP at h2
 rcases nC x.op with ⟨e,f⟩ | ⟨e,f⟩ | ⟨e,f⟩ | ⟨e,f⟩
 ·refine ⟨1,by unfold eD;rw[if_pos e];rfl,Nat.le_refl _,?_⟩
  rcases f with f | f
  ·refine .pt ?_ fun i=>?_
   ·unfold nV;rw[if_pos f];exact qG (gl_pt hq.ql) (by decide)
   ·unfold nG;rw[if_pos f];exact gl_0
  ·refine .pt ?_ fun i=>?_
   ·unfold nV;rw[if_neg (by omega),if_pos f];exact aA hb (by decide) _
   ·unfold nG;rw[if_neg (by omega),if_pos f];split
    ·exact gl_1
    ·exact gl_0
 ·obtain ⟨s,e1,e2,e3⟩:=bd_at h (a:=x.a) (by omega) (by omega)
  rcases f with f | f
  ·refine ⟨s,by unfold eD;rw[if_neg (by omega),if_pos f];exact e1,e2,?_⟩
   have e4:=e3.neg
   unfold nV nG;simp only[f];exact e4
  ·refine ⟨2*s,by unfold eD;rw[if_neg (by omega),if_neg (by omega),if_pos f,e1];omega,by omega,?_⟩
   have e4:=e3.sq e2
   unfold nV nG;simp only[f];exact e4
 ·obtain ⟨s,e1,e2,e3⟩:=bd_at h (a:=x.a) (by omega) (by omega)
  obtain ⟨r,g1,g2,g3⟩:=bd_at h (a:=x.b) (by omega) (by omega)
  refine ⟨s+r,by unfold eD;rw[if_neg (by omega),if_neg (by omega),if_neg (by omega),e1,g1];omega,by omega,?_⟩
  rcases f with f | f | f | f
  ·have e4:=e3.add e2 g2 g3
   unfold nV nG;simp only[f];exact e4
  ·have e4:=e3.sub e2 g2 g3
   unfold nV nG;simp only[f];exact e4
  ·have e4:=e3.mul e2 g2 g3
   unfold nV nG;simp only[f];exact e4
  ·have e4:=e3.div e2 g2 g3
   unfold nG;unfold nV;simp only[f];exact e4
 ·omega
theorem gL{α:Type}{l:List α}{x d:α}{j:Nat}:(l++[x]).getD j d=if j<l.length then l.getD j d else if j=l.length then x else d:=by
 rw[List.getD_eq_getElem?_getD,List.getD_eq_getElem?_getD]
 split
 ·rename_i h;rw[List.getElem?_append_left h]
 ·rename_i h
  rw[List.getElem?_append_right (by omega)]
  split
  ·rename_i e;subst e;rw[Nat.sub_self];rfl
  ·rename_i e;rw[List.getElem?_eq_none (by simp;omega)];rfl
structure Tame (bx:List R2) (t:List kI):Prop where
 c0:dQ ((bx.length:Nat):Int) t=0
 q:∀ x∈t,gD x.n (xZ x.n) 8
 b:∀ y∈bx,GL 24 y
 s:∀ k,k<t.length->eD (gX t k) (t.getD k tz)<=140
theorem fX{α:Type}{l:List α}{d:α}{k:Nat}(h:k<l.length):l.getD k d∈l:=by
 rw[List.getD_eq_getElem?_getD,List.getElem?_eq_getElem h];exact List.getElem_mem _
theorem Tame.bd{bx:List R2}{t:List kI}(h:Tame bx t):∀ {k:Nat},k<=t.length->BdOk (gX t k) (jU bx t k)
 |0,_=>fun j hj=>by simp [jU] at hj
 |k+1,hk=>fun j hj=>by
  have ih:=h.bd (k:=k) (by omega)
  have l1:=xT t k
  have l2:=aS bx t k
  rw[aS] at hj
  have g1:(gX t (k+1)).getD j 0=_:=gL
  have g2:(jU bx t (k+1)).getD j jz=_:=gL
  rcases Nat.lt_or_ge j k with hjk | hjk
  ·rw[if_pos (by omega)] at g1 g2
   rw[g1,g2];exact ih j (by omega)
  ·rw[if_neg (by omega),if_pos (by omega)] at g1 g2
   rw[g1,g2]
   obtain ⟨s,e1,e2,e3⟩:=bd_node ((tm_0 h.c0).2.2.2.2 k (by omega)) (l1.trans l2.symm) (h.q _ (fX (by omega))) h.b ih
   exact ⟨s,e1,e2,nJ_get e2 e3⟩
theorem bd_200{s:Nat}(h:s<=140):bV s<=1048576/\bG s<=1048576:=by
 have h2:s*s<=140*140:=Nat.mul_le_mul h h
 unfold bV bG;omega
theorem Tame.jok{bx:List R2}{t:List kI}(h:Tame bx t){k:Nat}(hk:k<t.length):JOk 1048576 bx.length (nJ bx (jU bx t k) (t.getD k tz)):=by
 obtain ⟨s,e1,e2,e3⟩:=bd_node ((tm_0 h.c0).2.2.2.2 k hk) ((xT t k).trans (aS bx t k).symm) (h.q _ (fX hk)) h.b (h.bd (Nat.le_of_lt hk))
 have e4:=h.s k hk
 obtain ⟨e5,e6⟩:=bd_200 (s:=s) (by omega)
 exact jk_ok (qG e3.1 e5) fun i _=>qG (e3.2 i) e6
def dzB(bx:List R2)(t:List kI)(k:Nat):Bool:=decide ((t.getD k tz).op=5)&&mL (jA (jU bx t k) (t.getD k tz).b).v.1 (jA (jU bx t k) (t.getD k tz).b).v.2
def dzT(bx:List R2)(t:List kI):Bool:=(List.range t.length).any (dzB bx t)
structure FstDz (bx:List R2) (t:List kI) (k:Nat):Prop where
 lt:k<t.length
 no:∀ j,j<k->dzB bx t j=false
 yes:dzB bx t k=true
theorem dz_no{bx:List R2}{t:List kI}(h:dzT bx t=false){k:Nat}(hk:k<t.length):dzB bx t k=false:=by
 cases hp:dzB bx t k with
 |false=>rfl
 |true=>unfold dzT at h;rw[List.any_eq_true.2 ⟨k,List.mem_range.2 hk,hp⟩] at h;cases h
theorem dz_at{bx:List R2}{t:List kI}{k:Nat}(h:dzB bx t k=false)(ho:(t.getD k tz).op=5):mL (jA (jU bx t k) (t.getD k tz).b).v.1 (jA (jU bx t k) (t.getD k tz).b).v.2=false:=by
 unfold dzB at h;rw[decide_eq_true ho,Bool.true_and] at h;exact h
theorem Tame.run{bx:List R2}{t:List kI}(h:Tame bx t)(hd:dzT bx t=false):JRun bx t:=⟨h.c0,fun k hk=>h.jok hk,fun k hk ho=>dz_at (dz_no hd hk) ho⟩
theorem Tame.up{bx:List R2}{t:List kI}(h:Tame bx t):∀ x∈t,gD x.n (xZ x.n) 1048576:=fun x hx=>kE (h.q x hx) (by decide)
theorem Tame.nd{bx:List R2}{t:List kI}(h:Tame bx t){k:Nat}(hk:k<t.length)(hd:dzB bx t k=false):aR bx.length (jU bx t k) (t.getD k tz) :=
 nd_ok ((tm_0 h.c0).2.2.2.2 k hk) (xT t k) (h.up _ (fX hk)) (dz_at hd)
def DzOk(L:List JV)(x:kI):Prop:=∃ a b:Nat,x=⟨5,(a:Int),(b:Int),zr⟩/\a<L.length/\b<L.length/\mL (L.getD b jz).v.1 (L.getD b jz).v.2=true
theorem Tame.dz{bx:List R2}{t:List kI}(h:Tame bx t){k:Nat}(hk:k<t.length)(hd:dzB bx t k=true):DzOk (jU bx t k) (t.getD k tz):=by
 have hc:=(tm_0 h.c0).2.2.2.2 k hk
 obtain ⟨h1,h2,h3,_⟩:=nd_0 hc
 rw[xT] at h2
 have hl:=aS bx t k
 unfold dzB at hd
 rw[Bool.and_eq_true,decide_eq_true_eq] at hd
 generalize t.getD k tz=x at *
 generalize jU bx t k=L at *
 obtain ⟨op,a,b,n⟩:=x
 unfold cC at h1
 unfold nP at h2
 dsimp only at *
 obtain ⟨e,hz⟩:=hd
 subst e
 have e5:xE 5=2:=rfl
 rw[e5] at h2
 have hu:n=zr:=uns_eq (by
  cases hh:unsB n with
  |true=>rfl
  |false=>exact absurd (Or.inr (Or.inr (Or.inr ⟨by decide,hh⟩))) h1)
 obtain ⟨m,hm⟩:=nat_of (a:=a) (by omega)
 subst hm
 obtain ⟨l,hl'⟩:=nat_of (a:=b) (by omega)
 subst hl'
 subst hu
 refine ⟨m,l,rfl,by omega,by omega,?_⟩
 unfold jA at hz
 rwa [Int.toNat_natCast] at hz
def StOk(n:Nat)(L:List JV)(x:kI):Prop:=aR n L x\/DzOk L x
theorem StOk.kd{n:Nat}{L:List JV}{x:kI}(h:StOk n L x):xE x.op=0\/xE x.op=1\/xE x.op=2:=by
 rcases h with h | ⟨a,b,rfl,_⟩
 ·cases h<;>first | exact .inl rfl | exact .inr (.inl rfl) | exact .inr (.inr rfl)
 ·exact .inr (.inr rfl)
theorem StOk.a{n:Nat}{L:List JV}{x:kI}(h:StOk n L x)(h1:1<=xE x.op):0<=x.a/\x.a.toNat<L.length:=by
 rcases h with h | ⟨a,b,rfl,ha,_⟩
 ·cases h with
  |c hp=>exact absurd h1 (by show ¬ (1:Int)<=xE 0;decide)
  |v ha=>exact absurd h1 (by show ¬ (1:Int)<=xE 1;decide)
  |add ha hb=>exact ⟨by show 0<=((_:Nat):Int);omega,by show (((_:Nat):Int)).toNat<_;rwa [Int.toNat_natCast]⟩
  |sub ha hb=>exact ⟨by show 0<=((_:Nat):Int);omega,by show (((_:Nat):Int)).toNat<_;rwa [Int.toNat_natCast]⟩
  |mul ha hb=>exact ⟨by show 0<=((_:Nat):Int);omega,by show (((_:Nat):Int)).toNat<_;rwa [Int.toNat_natCast]⟩
  |div ha hb hz=>exact ⟨by show 0<=((_:Nat):Int);omega,by show (((_:Nat):Int)).toNat<_;rwa [Int.toNat_natCast]⟩
  |neg ha=>exact ⟨by show 0<=((_:Nat):Int);omega,by show (((_:Nat):Int)).toNat<_;rwa [Int.toNat_natCast]⟩
  |sq ha=>exact ⟨by show 0<=((_:Nat):Int);omega,by show (((_:Nat):Int)).toNat<_;rwa [Int.toNat_natCast]⟩
 ·exact ⟨by show 0<=((_:Nat):Int);omega,by show (((_:Nat):Int)).toNat<_;rwa [Int.toNat_natCast]⟩
theorem StOk.b{n:Nat}{L:List JV}{x:kI}(h:StOk n L x)(h2:xE x.op=2):0<=x.b/\x.b.toNat<L.length:=by
 rcases h with h | ⟨a,b,rfl,_,hb,_⟩
 ·cases h with
  |c hp=>exact absurd h2 (by show ¬ xE 0=2;decide)
  |v ha=>exact absurd h2 (by show ¬ xE 1=2;decide)
  |add ha hb=>exact ⟨by show 0<=((_:Nat):Int);omega,by show (((_:Nat):Int)).toNat<_;rwa [Int.toNat_natCast]⟩
  |sub ha hb=>exact ⟨by show 0<=((_:Nat):Int);omega,by show (((_:Nat):Int)).toNat<_;rwa [Int.toNat_natCast]⟩
  |mul ha hb=>exact ⟨by show 0<=((_:Nat):Int);omega,by show (((_:Nat):Int)).toNat<_;rwa [Int.toNat_natCast]⟩
  |div ha hb hz=>exact ⟨by show 0<=((_:Nat):Int);omega,by show (((_:Nat):Int)).toNat<_;rwa [Int.toNat_natCast]⟩
  |neg ha=>exact absurd h2 (by show ¬ xE 6=2;decide)
  |sq ha=>exact absurd h2 (by show ¬ xE 7=2;decide)
 ·exact ⟨by show 0<=((_:Nat):Int);omega,by show (((_:Nat):Int)).toNat<_;rwa [Int.toNat_natCast]⟩
theorem aR.op{n:Nat}{L:List JV}{x:kI}(h:aR n L x):x.op=0\/x.op=1\/x.op=2\/x.op=3\/x.op=4\/x.op=5\/x.op=6\/x.op=7:=by
 cases h<;>simp
theorem aR.con{n:Nat}{L:List JV}{x:kI}(h:aR n L x)(e:x.op=0):x.n=jP (xZ x.n)/\QL (xZ x.n) 1048576:=by
 cases h with
 |c hp=>exact ⟨by rw[mV],by rw[mV];exact hp⟩
 |_=>simp at e
theorem aR.var{n:Nat}{L:List JV}{x:kI}(h:aR n L x)(e:x.op=1):0<=x.a/\x.a.toNat<n:=by
 cases h with
 |v ha=>exact ⟨by show 0<=((_:Nat):Int);omega,by show (((_:Nat):Int)).toNat<_;rwa [Int.toNat_natCast]⟩
 |_=>simp at e
theorem DzOk.kd{L:List JV}{x:kI}(h:DzOk L x):xE x.op=2:=by
 obtain ⟨a,b,rfl,_⟩:=h
 rfl
structure DEnd (bx:List R2) (t:List kI) (k0:Nat):Prop where
 c0:dQ ((bx.length:Nat):Int) t=0
 le:k0<=t.length
 nd:∀ j,j<k0->aR bx.length (jU bx t j) (t.getD j tz)
 ok:∀ j,j<=k0->∀ y∈jU bx t j,JOk 1048576 bx.length y
 nv:∀ j,j<k0->JOk 1048576 bx.length (nJ bx (jU bx t j) (t.getD j tz))
 dz:k0<t.length->DzOk (jU bx t k0) (t.getD k0 tz)
theorem DEnd.st{bx:List R2}{t:List kI}{k0 k:Nat}(h:DEnd bx t k0)(hk:k<=k0)(hl:k<t.length):StOk bx.length (jU bx t k) (t.getD k tz):=by
 rcases Nat.lt_or_ge k k0 with h1 | h1
 ·exact .inl (h.nd k h1)
 ·obtain rfl:k=k0:=by omega
  exact .inr (h.dz hl)
end Go.Fid
namespace Go.Proofs.YtciingpdmjepgabGreatDoor
open Go.Fid
end Go.Proofs.YtciingpdmjepgabGreatDoor
namespace Go.Fid
abbrev Nf (A:Type):=Int->Int->A->A->kP->A
structure NfOk {A:Type} (f:Nf A):Prop where
 k0:∀ o a u v u' v' n,xE o<=0->f o a u v n=f o a u' v' n
 k1:∀ o a a' u v v' n,xE o=1->f o a u v n=f o a' u v' n
 k2:∀ o a a' u v n,xE o=2->f o a u v n=f o a' u v n
 n0:∀ o a u v n n',o≠0->f o a u v n=f o a u v n'
def nfV{A:Type}(d:A)(f:Nf A)(L:List A)(x:kI):A:=f x.op x.a (L.getD x.a.toNat d) (L.getD x.b.toNat d) x.n
def nfU{A:Type}(d:A)(f:Nf A)(t:List kI):Nat->List A
 |0=>[]
 |k+1=>nfU d f t k++[nfV d f (nfU d f t k) (t.getD k tz)]
section
variable {A:Type} {d:A} {f:Nf A}
theorem nfU_len(t:List kI):∀ k,(nfU d f t k).length=k
 |0=>rfl
 |k+1=>by rw[nfU,List.length_append,nfU_len t k];rfl
theorem nfU_app(t l:List kI):∀ k,k<=t.length->nfU d f (t++l) k=nfU d f t k
 |0,_=>rfl
 |k+1,h=>by
  rw[nfU,nfU,nfU_app t l k (by omega),show (t++l).getD k tz=t.getD k tz by rw[List.getD_eq_getElem?_getD,List.getElem?_append_left (by omega),<- List.getD_eq_getElem?_getD]]
theorem nfU_at(t:List kI):∀ k j,j<k->(nfU d f t k).getD j d=nfV d f (nfU d f t j) (t.getD j tz)
 |0,j,h=>absurd h (Nat.not_lt_zero j)
 |k+1,j,h=>by
  rw[nfU,gL,nfU_len]
  rcases Nat.lt_or_ge j k with hj | hj
  ·rw[if_pos hj];exact nfU_at t k j hj
  ·obtain rfl:j=k:=by omega
   rw[if_neg (Nat.lt_irrefl _),if_pos rfl]
def eV(d:A)(f:Nf A)(t:List kI)(j:Nat):A:=(nfU d f t t.length).getD j d
theorem eV_at{t:List kI}{k j:Nat}(hj:j<k)(hk:j<t.length):(nfU d f t k).getD j d=eV d f t j:=by
 unfold eV;rw[nfU_at t k j hj,nfU_at t t.length j hk]
theorem eV_app{t l:List kI}{j:Nat}(hj:j<t.length):eV d f (t++l) j=eV d f t j:=by
 unfold eV
 rw[nfU_at _ _ j (by rw[List.length_append];omega),nfU_at _ _ j hj,nfU_app t l j (by omega),show (t++l).getD j tz=t.getD j tz by rw[List.getD_eq_getElem?_getD,List.getElem?_append_left hj,<- List.getD_eq_getElem?_getD]]
theorem kdN_rng(o:Int):xE o<=0\/xE o=1\/xE o=2:=by
 rcases nC o with ⟨h,_⟩ | ⟨h,_⟩ | ⟨h,_⟩ | ⟨h,_⟩<;>omega
theorem eV_node(hf:NfOk f){t:List kI}{j:Nat}(hj:j<t.length)(ho:OrdAt (t.getD j tz) j) :
  eV d f t j=f (t.getD j tz).op (t.getD j tz).a (eV d f t (t.getD j tz).a.toNat) (eV d f t (t.getD j tz).b.toNat) (t.getD j tz).n:=by
 have e:eV d f t j=nfV d f (nfU d f t j) (t.getD j tz):=nfU_at t t.length j hj
 rw[e]
 unfold nfV
 obtain ⟨h1,h2⟩:=ho
 generalize t.getD j tz=x at h1 h2
 rcases kdN_rng x.op with hk | hk | hk
 ·exact hf.k0 _ _ _ _ _ _ _ hk
 ·have:=h1 (by omega)
  rw[eV_at (j:=x.a.toNat) (by omega) (by omega)]
  exact hf.k1 _ _ _ _ _ _ _ hk
 ·have:=h1 (by omega)
  have:=h2 (by omega)
  rw[eV_at (j:=x.a.toNat) (by omega) (by omega),eV_at (j:=x.b.toNat) (by omega) (by omega)]
end
structure SB (B:nD):Prop where
 hB:RBI B
 kn:∀ e∈B.kn,B.tm.getD e.2.toNat tz=⟨e.1.1,e.1.2.1,e.1.2.2,zr⟩
 os:∀ e∈B.os,∃ q:Rat,QL q 1048576/\e.1=txQ q/\B.tm.getD e.2.toNat tz=⟨0,0,0,jP q⟩
 us:∀ j,j<B.tm.length->B.us.getD j 0=eD B.us (B.tm.getD j tz)
 kd:∀ j,j<B.tm.length->0<=xE (B.tm.getD j tz).op
def Ext(B B':nD):Prop:=∃ l m,B'.tm=B.tm++l/\B'.us=B.us++m
theorem Ext.refl(B:nD):Ext B B:=⟨[],[],by simp,by simp⟩
theorem Ext.trans{A B C:nD}(h:Ext A B)(k:Ext B C):Ext A C:=by
 obtain ⟨l,m,h1,h2⟩:=h
 obtain ⟨l',m',k1,k2⟩:=k
 exact ⟨l++l',m++m',by rw[k1,h1,List.append_assoc],by rw[k2,h2,List.append_assoc]⟩
theorem Ext.len{B B':nD}(h:Ext B B'):B.tm.length<=B'.tm.length:=by obtain ⟨l,m,h1,_⟩:=h;rw[h1,List.length_append];omega
theorem Ext.ix{B B':nD}(h:Ext B B'){i:Int}(hi:IxB B i):IxB B' i:=hi.up h.len
theorem getD_left{α:Type}{l m:List α}{d:α}{j:Nat}(h:j<l.length):(l++m).getD j d=l.getD j d:=by
 rw[List.getD_eq_getElem?_getD,List.getElem?_append_left h,<- List.getD_eq_getElem?_getD]
theorem Ext.nd{B B':nD}(h:Ext B B'){j:Nat}(hj:j<B.tm.length):B'.tm.getD j tz=B.tm.getD j tz:=by obtain ⟨l,m,h1,_⟩:=h;rw[h1];exact getD_left hj
theorem Ext.usz{B B':nD}(h:Ext B B'){j:Nat}(hj:j<B.us.length):B'.us.getD j 0=B.us.getD j 0:=by obtain ⟨l,m,_,h1⟩:=h;rw[h1];exact getD_left hj
theorem Ext.ev{A:Type}{d:A}{f:Nf A}{B B':nD}(h:Ext B B'){j:Nat}(hj:j<B.tm.length):eV d f B'.tm j=eV d f B.tm j:=by obtain ⟨l,m,h1,_⟩:=h;rw[h1];exact eV_app hj
structure Got (B B':nD) (r:Int) (x:kI):Prop where
 sb:SB B'
 ext:Ext B B'
 ix:IxB B' r
 nd:B'.tm.getD r.toNat tz=x
theorem NdAr.rng{B:nD}{o i k:Int}(h:NdAr B o i k):1<=o/\o<=7:=by
 rcases h with ⟨rfl,_⟩ | ⟨h1,h2,_⟩<;>omega
theorem kd_nn{o:Int}(h0:0<=o)(h7:o<=7):0<=xE o:=by
 have hc:o=0\/o=1\/o=2\/o=3\/o=4\/o=5\/o=6\/o=7:=by omega
 rcases hc with rfl | rfl | rfl | rfl | rfl | rfl | rfl | rfl<;>decide
structure Alg (A:Type) (d:A) (f:Nf A):Prop where
 ok:NfOk f
 c:∀ (a a':Int) (p q:kP),xZ p=xZ q->f 0 a d d p=f 0 a' d d q
 a0:∀ x n,f 2 0 (f 0 0 d d (jP 0)) x n=x
 a1:∀ x n,f 2 0 x (f 0 0 d d (jP 0)) n=x
 s0:∀ x n,f 3 0 x (f 0 0 d d (jP 0)) n=x
 s1:∀ x n,f 3 0 (f 0 0 d d (jP 0)) x n=f 6 0 x d n
 m0:∀ x n,f 4 0 (f 0 0 d d (jP 0)) x n=f 0 0 d d (jP 0)
 m1:∀ x n,f 4 0 x (f 0 0 d d (jP 0)) n=f 0 0 d d (jP 0)
 u0:∀ x n,f 4 0 (f 0 0 d d (jP 1)) x n=x
 u1:∀ x n,f 4 0 x (f 0 0 d d (jP 1)) n=x
 d0:∀ x n,f 5 0 (f 0 0 d d (jP 0)) x n=f 0 0 d d (jP 0)
section
variable {A:Type} {d:A} {f:Nf A}
structure Wth (d:A) (f:Nf A) (B B':nD) (r:Int) (a:A):Prop where
 sb:SB B'
 ext:Ext B B'
 ix:IxB B' r
 ev:eV d f B'.tm r.toNat=a
theorem Got.ev(hf:NfOk f){B B':nD}{r:Int}{x:kI}(g:Got B B' r x):eV d f B'.tm r.toNat=f x.op x.a (eV d f B'.tm x.a.toNat) (eV d f B'.tm x.b.toNat) x.n:=by
 have h:=g.ix
 have e:=eV_node (d:=d) hf (t:=B'.tm) (j:=r.toNat) (by have:=h.1;have:=h.2;omega) (g.sb.hB.ho _ (by have:=h.1;have:=h.2;omega))
 rw[g.nd] at e
 exact e
theorem ix_nat{B:nD}{i:Int}(h:IxB B i):i.toNat<B.tm.length:=by have:=h.1;have:=h.2;omega
theorem Wth.to{B B':nD}{r:Int}{a b:A}(h:Wth d f B B' r a)(e:a=b):Wth d f B B' r b:=e▸h
def dfN(d:A)(f:Nf A)(i:Int)(x:kI)(va vb da db q:A):A :=
 if x.op=0 then f 0 0 d d (jP ((0:Int):Rat))
 else if x.op=1 then (if x.a=i then f 0 0 d d (jP ((1:Int):Rat)) else f 0 0 d d (jP ((0:Int):Rat)))
 else if x.op=6 then f 3 0 (f 0 0 d d (jP ((0:Int):Rat))) da zr
 else if x.op=7 then f 4 0 (f 0 0 d d (jP ((2:Int):Rat))) (f 4 0 va da zr) zr
 else if x.op=2 then f 2 0 da db zr
 else if x.op=3 then f 3 0 da db zr
 else if x.op=4 then f 2 0 (f 4 0 va db zr) (f 4 0 vb da zr) zr
 else f 5 0 (f 3 0 da (f 4 0 q db zr) zr) vb zr
theorem Wth.up{B B' B2:nD}{r:Int}{a:A}(w:Wth d f B B' r a)(h:Ext B2 B):Wth d f B2 B' r a:=⟨w.sb,h.trans w.ext,w.ix,w.ev⟩
structure Wt2 (d:A) (f:Nf A) (B:nD) (r:nD × Int × Int) (a b:A):Prop where
 sb:SB r.1
 ext:Ext B r.1
 i1:IxB r.1 r.2.1
 i2:IxB r.1 r.2.2
 e1:eV d f r.1.tm r.2.1.toNat=a
 e2:eV d f r.1.tm r.2.2.toNat=b
theorem Wth.keep{B B1:nD}{r j:Int}{a:A}(w:Wth d f B B1 r a)(hj:IxB B j):Wth d f B1 B1 j (eV d f B.tm j.toNat):=⟨w.sb,.refl _,w.ext.ix hj,w.ext.ev (ix_nat hj)⟩
def dfU(d:A)(f:Nf A)(i:Int)(t:List kI):Nat->List A
 |0=>[]
 |k+1=>dfU d f i t k++[dfN d f i (t.getD k tz) ((nfU d f t k).getD (t.getD k tz).a.toNat d) ((nfU d f t k).getD (t.getD k tz).b.toNat d) ((dfU d f i t k).getD (t.getD k tz).a.toNat d) ((dfU d f i t k).getD (t.getD k tz).b.toNat d) (nfV d f (nfU d f t k) (t.getD k tz))]
structure DSem (d:A) (f:Nf A) (i:Int) (t:List kI) (k:Nat):Prop where
 sb:SB (dU i t k).1
 z:eV d f (dU i t k).1.tm dZr.2.toNat=f 0 0 d d (jP ((0:Int):Rat))
 o:eV d f (dU i t k).1.tm dOn.2.toNat=f 0 0 d d (jP ((1:Int):Rat))
 v:∀ j,j<k->eV d f (dU i t k).1.tm ((dU i t k).2.1.getD j 0).toNat=(nfU d f t k).getD j d
 s:∀ j,j<k->eV d f (dU i t k).1.tm ((dU i t k).2.2.getD j 0).toNat=(dfU d f i t k).getD j d
end
def KdN(t:List kI)(nd:List Bool)(j:Nat):Prop:=(0<xE (t.getD j tz).op->nd.getD (t.getD j tz).a.toNat false=true)/\(1<xE (t.getD j tz).op->nd.getD (t.getD j tz).b.toNat false=true)
theorem KdN.mono{t:List kI}{nd nd':List Bool}{j:Nat}(h:KdN t nd j)(hm:∀ i,nd.getD i false=true->nd'.getD i false=true):KdN t nd' j:=⟨fun k=>hm _ (h.1 k),fun k=>hm _ (h.2 k)⟩
structure TI (t:List kI) (nd:List Bool) (nm:List Int) (out:List kI) (k:Nat):Prop where
 l:nm.length=t.length
 lo:∀ j,j<k->nd.getD j false=true->0<=nm.getD j 0/\nm.getD j 0<(out.length:Int)
 st:∀ j,j<k->nd.getD j false=true->out.getD (nm.getD j 0).toNat tz=rnN nm (t.getD j tz)
 mo:∀ a b,a<b->b<k->nd.getD a false=true->nd.getD b false=true->nm.getD a 0<nm.getD b 0
 on:∀ q,q<out.length->∃ j,j<k/\nd.getD j false=true/\nm.getD j 0=(q:Int)
section
variable {A:Type} {d:A} {f:Nf A}
theorem rnN_op(nm:List Int)(x:kI):(rnN nm x).op=x.op/\(rnN nm x).n=x.n:=by
 unfold rnN;split
 ·split<;>exact ⟨rfl,rfl⟩
 ·exact ⟨rfl,rfl⟩
theorem rnN_a{nm:List Int}{x:kI}(h:0<xE x.op):(rnN nm x).a=nm.getD x.a.toNat 0:=by
 unfold rnN;rw[if_pos h];split<;>rfl
theorem rnN_b{nm:List Int}{x:kI}(h:1<xE x.op):(rnN nm x).b=nm.getD x.b.toNat 0:=by
 unfold rnN;rw[if_pos (by omega),if_pos h]
theorem rnN_n{nm:List Int}{x:kI}(h:¬ 0<xE x.op):rnN nm x=x:=if_neg h
theorem TI.ord{t:List kI}{nd:List Bool}{nm:List Int}{out:List kI}{k:Nat}(h:TI t nd nm out k)(ho:OrdT t)(hc:∀ j,j<t.length->nd.getD j false=true->KdN t nd j)(hk:k<=t.length){j:Nat}(hj:j<k)(hn:nd.getD j false=true):OrdAt (out.getD (nm.getD j 0).toNat tz) (nm.getD j 0).toNat:=by
 rw[h.st j hj hn]
 have hoj:=ho j (by omega)
 have hkj:=hc j (by omega) hn
 have hlo:=h.lo j hj hn
 refine ⟨fun h1=>?_,fun h2=>?_⟩
 ·rw[(rnN_op _ _).1] at h1
  have q1:=hoj.1 h1
  rw[rnN_a h1]
  have q2:=h.lo _ (show (t.getD j tz).a.toNat<k by omega) (hkj.1 h1)
  have q3:=h.mo _ j (show (t.getD j tz).a.toNat<j by omega) hj (hkj.1 h1) hn
  omega
 ·rw[(rnN_op _ _).1] at h2
  have q1:=hoj.2 h2
  rw[rnN_b h2]
  have q2:=h.lo _ (show (t.getD j tz).b.toNat<k by omega) (hkj.2 h2)
  have q3:=h.mo _ j (show (t.getD j tz).b.toNat<j by omega) hj (hkj.2 h2) hn
  omega
theorem TI.ev(hf:NfOk f){t:List kI}{nd:List Bool}{nm:List Int}{out:List kI}{k:Nat}(h:TI t nd nm out k)(ho:OrdT t)(hc:∀ j,j<t.length->nd.getD j false=true->KdN t nd j)(hk:k<=t.length):∀ (N j:Nat),j<N->j<k->nd.getD j false=true->eV d f out (nm.getD j 0).toNat=eV d f t j
 |0,j,hN,_,_=>absurd hN (Nat.not_lt_zero j)
 |N+1,j,hN,hj,hn=>by
  have hlo:=h.lo j hj hn
  have hoj:=ho j (by omega)
  have hkj:=hc j (by omega) hn
  rw[eV_node hf (by omega) (h.ord ho hc hk hj hn),eV_node hf (t:=t) (by omega) hoj,h.st j hj hn,(rnN_op _ _).1,(rnN_op _ _).2]
  rcases kdN_rng (t.getD j tz).op with e | e | e
  ·rw[rnN_n (by omega)];exact hf.k0 _ _ _ _ _ _ _ e
  ·have q1:=hoj.1 (by omega)
   rw[rnN_a (by omega),h.ev hf ho hc hk N _ (by omega) (by omega) (hkj.1 (by omega))]
   exact hf.k1 _ _ _ _ _ _ _ e
  ·have q1:=hoj.1 (by omega)
   have q2:=hoj.2 (by omega)
   rw[rnN_a (by omega),rnN_b (by omega),h.ev hf ho hc hk N _ (by omega) (by omega) (hkj.1 (by omega)),h.ev hf ho hc hk N _ (by omega) (by omega) (hkj.2 (by omega))]
   exact hf.k2 _ _ _ _ _ _ e
end
def uz(B:nD)(i:Int):Int:=B.us.getD i.toNat 0
structure Ft (B B':nD) (r:Int) (c:Nat) (s:Int):Prop where
 ov:B'.ov=false
 ln:B'.tm.length<=B.tm.length+c
 sb:SB B'
 ext:Ext B B'
 ix:IxB B' r
 sz:uz B' r<=s
theorem Ext.uz{B B':nD}(hS:SB B)(h:Ext B B'){i:Int}(hi:IxB B i):uz B' i=uz B i:=h.usz (by have:=hS.hB.hu;have:=ix_nat hi;omega)
theorem Ft.le{B B':nD}{r:Int}{c c':Nat}{s s':Int}(h:Ft B B' r c s)(hc:c<=c')(hs:s<=s'):Ft B B' r c' s':=⟨h.ov,by have:=h.ln;omega,h.sb,h.ext,h.ix,by have:=h.sz;omega⟩
theorem Got.uz{B B':nD}{r:Int}{x:kI}(g:Got B B' r x):uz B' r=eD B'.us x:=by
 have:=g.sb.us r.toNat (ix_nat g.ix)
 rw[g.nd] at this;exact this
theorem Ext.bIs{B B':nD}(h:Ext B B'){i n:Int}(hi:IxB B i)(hb:bIs B i n=true):bIs B' i n=true:=by
 unfold Go.Fid.bIs at hb ⊢
 rw[h.nd (ix_nat hi)]
 rw[Bool.and_eq_true,Bool.and_eq_true,decide_eq_true_eq] at hb ⊢
 exact ⟨⟨by have:=h.len;omega,hb.1.2⟩,hb.2⟩
structure Ft2 (B:nD) (r:nD × Int × Int) (c:Nat) (s D:Int):Prop where
 ov:r.1.ov=false
 ln:r.1.tm.length<=B.tm.length+c
 sb:SB r.1
 ext:Ext B r.1
 v:uz r.1 r.2.1=s
 s:uz r.1 r.2.2<=D
structure FtU (i:Int) (t:List kI) (k:Nat):Prop where
 ov:(dU i t k).1.ov=false
 ln:(dU i t k).1.tm.length<=2+4*k
 sb:SB (dU i t k).1
 z:uz (dU i t k).1 dZr.2=1
 o:uz (dU i t k).1 dOn.2=1
 zb:bIs (dU i t k).1 dZr.2 0=true
 v:∀ j,j<k->uz (dU i t k).1 ((dU i t k).2.1.getD j 0)=(gX t k).getD j 0
 s:∀ j,j<k->uz (dU i t k).1 ((dU i t k).2.2.getD j 0)<=2*((gX t k).getD j 0*(gX t k).getD j 0)
def VBd(ss:List Int)(V:List Rat):Prop:=∀ j,j<V.length->∃ s:Nat,ss.getD j 0=(s:Int)/\1<=s/\QL (V.getD j 0) (bV s)
theorem vb_at{ss:List Int}{V:List Rat}(h:VBd ss V){a:Int}(h0:0<=a)(h1:a<V.length):∃ s:Nat,ss.getD a.toNat 0=(s:Int)/\1<=s/\QL (V.getD a.toNat 0) (bV s):=h a.toNat (by omega)
theorem vb_node{z:Int}{ss:List Int}{V xs:List Rat}{x:kI}(hk:ndC z ss x=0)(hl:ss.length=V.length)(hq:gD x.n (xZ x.n) 8)(hb:∀ y∈xs,QL y 24)(h:VBd ss V) :
  ∃ s:Nat,eD ss x=(s:Int)/\1<=s/\QL (vV xs V x) (bV s):=by
 obtain ⟨h1,h2,h3,_⟩:=nd_0 hk
 unfold cC at h1
 unfold nP at h2
 rcases nC x.op with ⟨e,f⟩ | ⟨e,f⟩ | ⟨e,f⟩ | ⟨e,f⟩
 ·refine ⟨1,by unfold eD;rw[if_pos e];rfl,Nat.le_refl _,?_⟩
  rcases f with f | f
  ·unfold vV;simp only[f];exact kS hq.ql (by decide)
  ·unfold vV;simp only[f];exact kS (qlg hb (by decide) _) (by decide)
 ·obtain ⟨s,e1,e2,e3⟩:=vb_at h (a:=x.a) (by omega) (by omega)
  rcases f with f | f
  ·refine ⟨s,by unfold eD;rw[if_neg (by omega),if_pos f];exact e1,e2,?_⟩
   unfold vV;simp only[f];exact nM e3
  ·refine ⟨2*s,by unfold eD;rw[if_neg (by omega),if_neg (by omega),if_pos f,e1];omega,by omega,?_⟩
   unfold vV;simp only[f];exact vW e3 e3 (by unfold bV;omega)
 ·obtain ⟨s,e1,e2,e3⟩:=vb_at h (a:=x.a) (by omega) (by omega)
  obtain ⟨r,g1,g2,g3⟩:=vb_at h (a:=x.b) (by omega) (by omega)
  refine ⟨s+r,by unfold eD;rw[if_neg (by omega),if_neg (by omega),if_neg (by omega),e1,g1];omega,by omega,?_⟩
  rcases f with f | f | f | f
  ·unfold vV;simp only[f];exact ql_add e3 g3 (by unfold bV;omega)
  ·unfold vV;simp only[f];exact ql_sub e3 g3 (by unfold bV;omega)
  ·unfold vV;simp only[f];exact vW e3 g3 (by unfold bV;omega)
  ·unfold vV;simp only[f];exact ql_div e3 g3 (by unfold bV;omega)
 ·omega
theorem gl_ptb{xs:List Rat}{n:Nat}(h:∀ y∈List.map xV xs,GL n y):∀ q∈xs,QL q n:=fun q hq=>(h _ (List.mem_map.2 ⟨q,hq,rfl⟩)).1
theorem Tame.vb{xs:List Rat}{t:List kI}(h:Tame (List.map xV xs) t):∀ {k:Nat},k<=t.length->VBd (gX t k) (vU xs t k)
 |0,_=>fun j hj=>by simp [vU] at hj
 |k+1,hk=>fun j hj=>by
  have ih:=h.vb (k:=k) (by omega)
  have l1:=xT t k
  have l2:=vU_len xs t k
  rw[vU_len] at hj
  have g1:(gX t (k+1)).getD j 0=_:=gL
  have g2:(vU xs t (k+1)).getD j 0=_:=gL
  rcases Nat.lt_or_ge j k with hjk | hjk
  ·rw[if_pos (by omega)] at g1 g2
   rw[g1,g2];exact ih j (by omega)
  ·rw[if_neg (by omega),if_pos (by omega)] at g1 g2
   rw[g1,g2]
   exact vb_node ((tm_0 h.c0).2.2.2.2 k (by omega)) (l1.trans l2.symm) (h.q _ (fX (by omega))) (gl_ptb h.b) ih
structure NPx (n:Int) (m:Nat) (x:kI):Prop where
 o0:0<=x.op
 o7:x.op<=7
 b:xE x.op<2->x.b=0
 c:x.op=0->x.a=0/\gD x.n (xZ x.n) m/\kL x.n=true
 z:x.op≠0->x.n=zr
 v:x.op=1->0<=x.a/\x.a<n
section
variable {A:Type} {d:A} {f:Nf A} {R:A->Prop} {n:Int} {m:Nat}
end
def fR(xs:List Rat):Nf Rat:=fun o a u v n=>
 if o=1 then xs.getD a.toNat 0
 else if o=2 then u+v
 else if o=3 then u-v
 else if o=4 then u*v
 else if o=6 then -u
 else if o=7 then u*u
 else if o=5 then u / v
 else if o=0 then xZ n
 else 0
theorem NPx.rn{n:Int}{m:Nat}{nm:List Int}{x:kI}(h:NPx n m x):NPx n m (rnN nm x):=by
 obtain ⟨e1,e2⟩:=rnN_op nm x
 rcases kdN_rng x.op with k | k | k
 ·rw[rnN_n (by omega)];exact h
 ·refine ⟨by rw[e1];exact h.o0,by rw[e1];exact h.o7,fun _=>?_,fun q=>?_,fun q=>?_,fun q=>?_⟩
  ·unfold rnN;rw[if_pos (by omega),if_neg (by omega)];exact h.b (by omega)
  ·rw[e1] at q;rw[q] at k;exact absurd k (by decide)
  ·rw[e1] at q;rw[e2];exact h.z q
  ·rw[e1] at q;rw[q] at k;exact absurd k (by decide)
 ·refine ⟨by rw[e1];exact h.o0,by rw[e1];exact h.o7,fun q=>?_,fun q=>?_,fun q=>?_,fun q=>?_⟩
  ·rw[e1] at q;omega
  ·rw[e1] at q;rw[q] at k;exact absurd k (by decide)
  ·rw[e1] at q;rw[e2];exact h.z q
  ·rw[e1] at q;rw[q] at k;exact absurd k (by decide)
theorem NPx.nd{n:Int}{m:Nat}{x:kI}{ss:List Int}(h:NPx n m x)(ho:OrdAt x ss.length)(hs:eD ss x<=4096):ndC n ss x=0:=by
 unfold ndC
 have k0:=kd_nn h.o0 h.o7
 have b1:¬ cC x:=by
  unfold cC
  rintro (q | q | q | q)
  ·omega
  ·exact q.2 (h.b q.1)
  ·obtain ⟨q1,q2⟩:=q
   obtain ⟨c1,_,c3⟩:=h.c q1
   rcases q2 with q2 | q2
   ·exact q2 c1
   ·rw[c3] at q2;cases q2
  ·rw[h.z q.1] at q;exact absurd q.2 (by decide)
 have b2:¬ nP ((ss.length:Nat):Int) x:=by
  unfold nP
  rintro (q | q)
  ·have:=ho.1 q.1;omega
  ·have:=ho.2 q.1;omega
 have b3:¬ aY n x:=by
  unfold aY
  rintro ⟨q,q2⟩
  have:=h.v q;omega
 rw[if_neg b1,if_neg b2,if_neg b3,if_neg (by omega)]
theorem NPx.q{n:Int}{m:Nat}{x:kI}(h:NPx n m x)(hm:1<=m):gD x.n (xZ x.n) m:=by
 by_cases e:x.op=0
 ·exact (h.c e).2.1
 ·rw[h.z e];exact qok_raw hm (Nat.zero_le _) (Nat.zero_le _)
structure Drv (xs:List Rat) (i:Int) (t T:List kI):Prop where
 q:∀ x∈T,gD x.n (xZ x.n) 8
 run:VRun xs T
 val:lastV xs T=(dfU 0 (fR xs) i t t.length).getD (t.length-1) 0
section
variable {i n:Int} {t:List kI}
end
def d1(xs:List Rat)(i:Int)(t:List kI)(k:Nat)(z:Int):Rat:=(dfU 0 (fR xs) i t k).getD z.toNat 0
def v0(xs:List Rat)(t:List kI)(k:Nat)(z:Int):Rat:=(nfU 0 (fR xs) t k).getD z.toNat 0
section
variable {xs:List Rat} {i k:Int} {t:List kI}
end
end Go.Fid
namespace Go.Proofs.YtciingpdmjepgabGreatDoor
open Go.Fid
structure MRect (m:List (List kP)) (r c:Nat):Prop where
 hr:m.length=r
 hc:∀ l∈m,l.length=c/\vRow l=true
 r1:1<=r
 r64:r<=64
 c1:1<=c
 c64:c<=64
theorem MRect.at{m:List (List kP)}{r c:Nat}(h:MRect m r c){i:Nat}(hi:i<r):(m.getD i []).length=c/\vRow (m.getD i [])=true:=by
 have:=h.hr
 rw[List.getD_eq_getElem?_getD,List.getElem?_eq_getElem (by omega)];exact h.hc _ (List.getElem_mem _)
theorem MRect.le{m:List (List kP)}{r c:Nat}(h:MRect m r c):∀ l∈m,l.length<=64:=fun l hl=>by
 have h1:=(h.hc l hl).1
 have h2:=h.c64
 omega
theorem dF{xs:List Rat}{n:Nat}(h:∀ q∈xs,QL q n)(h1:1<=n)(j:Nat):QL (xs.getD j 0) n:=by
 rcases Nat.lt_or_ge j xs.length with hj | hj
 ·rw[List.getD_eq_getElem?_getD,List.getElem?_eq_getElem hj];exact h _ (List.getElem_mem _)
 ·rw[List.getD_eq_getElem?_getD,List.getElem?_eq_none (by omega)];exact kS mW h1
theorem pts_row{xs:List Rat}{n:Nat}(h:∀ q∈xs,QL q n)(hl:xs.length<=1000000):RowOk n (List.map jP xs):=by
 refine ⟨fun a ha=>?_,by rw[List.length_map];omega⟩
 obtain ⟨q,hq,rfl⟩:=List.mem_map.1 ha
 rw[mV];exact kN (h q hq)
theorem mapt_step{α β:Type}{f:α->β}{l:List α}{d:α}{i:Nat}(h:i<l.length):(l.take i).map f++[f (l.getD i d)]=(l.take (i+1)).map f:=by
 rw[List.take_succ_eq_append_getElem h,List.map_append,List.getD_eq_getElem?_getD,List.getElem?_eq_getElem h];rfl
instance (n:Nat) (a:R2):Decidable (GL n a):=by unfold GL QL;infer_instance
def brX(x:kP):Bool:=if (decide (1<((x.num.gs.length:Nat):Int))||decide (1<((x.den.gs.length:Nat):Int)))=true then false else
 ((((x.num.gs.length:Nat):Int) == 0)||decide (((x.num.gs.getD 0 0:Nat):Int)<100000))&&((((x.den.gs.length:Nat):Int) == 0)||decide (((x.den.gs.getD 0 0:Nat):Int)<=100))
def shX(n:Nat)(x:kP):Bool:=!(decide (((n:Nat):Int)<((digR x:Nat):Int))||(decide (((n:Nat):Int)<=6)&&!(brX x)))
theorem shX_t{n:Nat}{x:kP}(h:(decide (((n:Nat):Int)<((digR x:Nat):Int))||(decide (((n:Nat):Int)<=6)&&!(brX x)))=true):shX n x=false:=by unfold shX;rw[h];rfl
theorem shX_f{n:Nat}{x:kP}(h:(decide (((n:Nat):Int)<((digR x:Nat):Int))||(decide (((n:Nat):Int)<=6)&&!(brX x)))=false):shX n x=true:=by unfold shX;rw[h];rfl
theorem shX_le{n:Nat}{x:kP}(h:shX n x=true):digR x<=n:=by
 unfold shX at h
 rw[Bool.not_eq_true',Bool.or_eq_false_iff,decide_eq_false_iff_not] at h
 omega
def shR(c n:Nat)(l:List kP):Bool:=decide (l.length<=c)&&l.all (shX n)
theorem all_up{α:Type}{f:α->Bool}{l:List α}{i:Nat}{d:α}(h:i<l.length)(ha:(l.take i).all f=true)(hf:f (l.getD i d)=true):(l.take (i+1)).all f=true:=by
 rw[take_all (d:=d) h,ha,hf];rfl
theorem all_no{α:Type}{f:α->Bool}{l:List α}{i:Nat}{d:α}(h:i<l.length)(hf:f (l.getD i d)=false):l.all f=false:=by
 cases hb:l.all f with
 |false=>rfl
 |true=>
  rw[List.getD_eq_getElem?_getD,List.getElem?_eq_getElem h,Option.getD_some,List.all_eq_true.1 hb _ (List.getElem_mem h)] at hf;cases hf
theorem shR_long{c n:Nat}{l:List kP}(h:((c:Nat):Int)<((l.length:Nat):Int)):shR c n l=false:=by unfold shR;rw[decide_eq_false (by omega)];rfl
theorem shR_no{c n:Nat}{l:List kP}(h:(l.all (shX n))=false):shR c n l=false:=by unfold shR;rw[h,Bool.and_false]
theorem shR_yes{c n:Nat}{l:List kP}(h0:¬ ((c:Nat):Int)<((l.length:Nat):Int))(h:(l.all (shX n))=true):shR c n l=true:=by unfold shR;rw[decide_eq_true (by omega),h];rfl
section
variable {A B C r l:Rat}
end
theorem shR_len{c n:Nat}{l:List kP}(h:shR c n l=true):l.length<=c:=by
 unfold shR at h;rw[Bool.and_eq_true,decide_eq_true_eq] at h;exact h.1
theorem shR_ok{c n:Nat}{l:List kP}(h:shR c n l=true)(h1:1<=n):∀ x∈l,gD x (xZ x) n:=fun x hx=>by
 unfold shR at h;rw[Bool.and_eq_true] at h
 have h3:=shX_le (List.all_eq_true.1 h.2 x hx)
 unfold digR at h3
 exact qok_raw h1 (by omega) (by omega)
theorem vrow_map:∀ {l:List kP},vRow l=true->List.map jP (List.map xZ l)=l
 |[],_=>rfl
 |x::l,h=>by
  unfold vRow at h
  rw[List.all_cons,Bool.and_eq_true] at h
  rw[List.map_cons,List.map_cons,vrow_map (l:=l) h.2,ofQ_toQ h.1]
theorem row_form{c n:Nat}{l:List kP}(h:shR c n l=true)(h1:1<=n)(hv:vRow l=true):∃ xs:List Rat,l=List.map jP xs/\(∀ q∈xs,QL q n)/\xs.length<=c:=by
 refine ⟨l.map xZ,?_,fun q hq=>?_,by rw[List.length_map];exact shR_len h⟩
 ·exact (vrow_map hv).symm
 ·obtain ⟨x,hx,rfl⟩:=List.mem_map.1 hq
  exact (shR_ok h h1 x hx).ql
section
variable {xs:List Rat} {q:List (List kP)} {ts:List (List kI)} {i:Nat}
end
end Go.Proofs.YtciingpdmjepgabGreatDoor
namespace Go.Fid
end Go.Fid
namespace Go.Proofs.YtciingpdmjepgabGreatDoor
open Go.Fid
section
variable (F:Nat->Nat->kP) {r c i j p q:Nat}
end
def sm(f:Nat->Rat):Nat->Rat
 |0=>0
 |n+1=>sm f n+f n
end Go.Proofs.YtciingpdmjepgabGreatDoor
namespace Go.Proofs.YtciingpdmjepgabGreatDoor
open Go.Fid
structure Gd (z:Int) (k:Nat) (x:kI):Prop where
 bad:¬ cC x
 ord:¬ nP ((k:Nat):Int) x
 rng:¬ aY z x
theorem Gd.a{z:Int}{k:Nat}{x:kI}(h:Gd z k x)(h1:1<=xE x.op):0<=x.a/\x.a<k:=by
 have:=h.ord;unfold nP at this;omega
theorem Gd.b{z:Int}{k:Nat}{x:kI}(h:Gd z k x)(h1:xE x.op=2):0<=x.b/\x.b<k:=by
 have:=h.ord;unfold nP at this;omega
theorem Gd.kd{z:Int}{k:Nat}{x:kI}(h:Gd z k x):(xE x.op=0/\(x.op=0\/x.op=1))\/(xE x.op=1/\(x.op=6\/x.op=7))\/(xE x.op=2/\(x.op=2\/x.op=3\/x.op=4\/x.op=5)):=by
 rcases nC x.op with h1 | h1 | h1 | h1
 ·exact .inl h1
 ·exact .inr (.inl h1)
 ·exact .inr (.inr h1)
 ·exact absurd (Or.inl (by omega)) h.bad
structure Sm (bx:List R2) (s:List kI):Prop where
 t:Tame bx s
 h:∀ k,k<s.length->eD (gX s k) (s.getD k tz)<=70
 l:s.length<=100
section
variable {bx:List R2} {s t:List kI}
theorem dz_no{w:List kI}(h:dzT bx w=false){k:Nat}(hk:k<w.length):dzB bx w k=false:=by
 unfold dzT at h
 rw[List.any_eq_false] at h
 have:=h k (List.mem_range.2 hk)
 simpa using this
end
end Go.Proofs.YtciingpdmjepgabGreatDoor
