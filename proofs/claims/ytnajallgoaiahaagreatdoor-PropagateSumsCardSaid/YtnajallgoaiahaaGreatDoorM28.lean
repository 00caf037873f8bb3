/- Part 28 of a proof: rules, plain facts, and functions walked. -/
import Derived.Test.YtnajallgoaiahaaGreatDoorM19
import Derived.Test.YtnajallgoaiahaaGreatDoorM18
import Derived.Test.YtnajallgoaiahaaGreatDoorM27
import Derived.Test.YtnajallgoaiahaaGreatDoorM26
import Derived.Test.YtnajallgoaiahaaGreatDoorM21
set_option linter.all false
set_option maxRecDepth 4000
namespace Go.Fid
theorem gs0(a:R2):uM (gw 0) a=gneg a:=by
 unfold uM gw gneg
 rw[show ((0:Int):Rat)=0 from rfl,Rat.sub_eq_add_neg,Rat.sub_eq_add_neg,Rat.zero_add,Rat.zero_add]
def bV(s:Nat):Nat:=9*s-1
def bG(s:Nat):Nat:=19*(s*s)
def cU(v:R2)(g:Nat→R2)(s:Nat):Prop:=GL (bV s) v∧∀ i,GL (bG s) (g i)
def BdOk(ss:List Int)(L:List JV):Prop:=∀ j,j<L.length→∃ s:Nat,ss.getD j 0=(s:Int)∧1≤s∧cU (L.getD j jz).v (fun i=>(L.getD j jz).g.getD i z2) s
theorem gl_0:GL 3 (gw 0):=gl_w (z:=0) (by omega) (by omega)
theorem gl_1:GL 3 (gw 1):=gl_w (z:=1) (by omega) (by omega)
theorem gl_2:GL 3 (gw 2):=gl_w (z:=2) (by omega) (by omega)
theorem sq_sum(s r:Nat):(s+r)*(s+r)=s*s+r*r+2*(s*r):=by
 rw[Nat.add_mul,Nat.mul_add,Nat.mul_add,Nat.mul_comm r s];omega
theorem sr_le{s r:Nat}(hs:1≤s)(hr:1≤r):s+r≤2*(s*r):=by
 have h1:s*1≤s*r:=Nat.mul_le_mul (Nat.le_refl _) hr
 have h2:1*r≤s*r:=Nat.mul_le_mul hs (Nat.le_refl _)
 omega
theorem cU.pt{v:R2}{g:Nat→R2}(hv:GL 8 v)(hg:∀ i,GL 3 (g i)):cU v g 1:=⟨hv,fun i=>qX (hg i) (by decide)⟩
theorem cU.add{v w:R2}{g h:Nat→R2}{s r:Nat}(hs:1≤s)(hr:1≤r)(a:cU v g s)(b:cU w h r):cU (gH v w) (fun i=>gH (g i) (h i)) (s+r):=by
 have e:=sq_sum s r
 have e2:=sr_le hs hr
 exact ⟨gl_add a.1 b.1 (by unfold bV;omega),fun i=>gl_add (a.2 i) (b.2 i) (by unfold bG;omega)⟩
theorem cU.sub{v w:R2}{g h:Nat→R2}{s r:Nat}(hs:1≤s)(hr:1≤r)(a:cU v g s)(b:cU w h r):cU (uM v w) (fun i=>uM (g i) (h i)) (s+r):=by
 have e:=sq_sum s r
 have e2:=sr_le hs hr
 exact ⟨aH a.1 b.1 (by unfold bV;omega),fun i=>aH (a.2 i) (b.2 i) (by unfold bG;omega)⟩
theorem cU.mul{v w:R2}{g h:Nat→R2}{s r:Nat}(hs:1≤s)(hr:1≤r)(a:cU v g s)(b:cU w h r):cU (xC v w) (fun i=>gH (xC v (h i)) (xC w (g i))) (s+r):=by
 have e:=sq_sum s r
 have e2:=sr_le hs hr
 exact ⟨nB a.1 b.1 (by unfold bV;omega),fun i=>gl_add (nB a.1 (b.2 i) (Nat.le_refl _)) (nB b.1 (a.2 i) (Nat.le_refl _)) (by unfold bV bG;omega)⟩
theorem cU.div{v w:R2}{g h:Nat→R2}{s r:Nat}(hs:1≤s)(hr:1≤r)(a:cU v g s)(b:cU w h r):cU (eE v w) (fun i=>eE (uM (g i) (xC (eE v w) (h i))) w) (s+r):=by
 have e:=sq_sum s r
 have e2:=sr_le hs hr
 have hq:GL (bV (s+r)) (eE v w):=gl_div a.1 b.1 (by unfold bV;omega)
 exact ⟨hq,fun i=>gl_div (aH (a.2 i) (nB hq (b.2 i) (Nat.le_refl _)) (Nat.le_refl _)) b.1 (by unfold bV bG;omega)⟩
theorem cU.neg{v:R2}{g:Nat→R2}{s:Nat}(a:cU v g s):cU (uM (gw 0) v) (fun i=>uM (gw 0) (g i)) s :=
 ⟨by rw[gs0];exact gl_neg a.1,fun i=>by show GL _ (uM (gw 0) (g i));rw[gs0];exact gl_neg (a.2 i)⟩
theorem cU.sq{v:R2}{g:Nat→R2}{s:Nat}(hs:1≤s)(a:cU v g s):cU (gsq v) (fun i=>xC (gw 2) (xC v (g i))) (2*s):=by
 have e:=sq_sum s s
 have e2:=sr_le hs hs
 rw[show 2*s=s+s by omega]
 exact ⟨gl_sq a.1 (by unfold bV;omega),fun i=>nB gl_2 (nB a.1 (a.2 i) (Nat.le_refl _)) (by unfold bV bG;omega)⟩
theorem nJ_get{bx:List R2}{L:List JV}{x:kN}{s:Nat}(h1:1≤s)(h:cU (nV bx L x) (nG bx L x) s):cU (nJ bx L x).v (fun i=>(nJ bx L x).g.getD i z2) s:=by
 refine ⟨h.1,fun i=>?_⟩
 have h2:s*1≤s*s:=Nat.mul_le_mul (Nat.le_refl _) h1
 show GL _ ((nJ bx L x).g.getD i z2)
 unfold nJ jk
 dsimp only
 rw[List.getD_eq_getElem?_getD,List.getElem?_map]
 rcases Nat.lt_or_ge i bx.length with h3 | h3
 ·rw[List.getElem?_range h3];exact h.2 i
 ·rw[List.getElem?_eq_none (by simpa using h3)]
  exact ⟨vR mJ (by unfold bG;omega),vR mJ (by unfold bG;omega),Rat.le_refl⟩
theorem bd_at{ss:List Int}{L:List JV}(h:BdOk ss L){a:Int}(h0:0≤a)(h1:a<L.length):∃ s:Nat,ss.getD a.toNat 0=(s:Int)∧1≤s∧cU (jA L a).v (fun i=>(jA L a).g.getD i z2) s:=h a.toNat (by omega)
theorem bd_node{z:Int}{ss:List Int}{L:List JV}{bx:List R2}{x:kN}(hk:ndC z ss x=0)(hl:ss.length=L.length)(hq:mN x.n (qJ x.n) 8)(hb:∀ y∈bx,GL 8 y)(h:BdOk ss L) :
  ∃ s:Nat,eM ss x=(s:Int)∧1≤s∧cU (nV bx L x) (nG bx L x) s:=by
 obtain ⟨h1,h2,h3,_⟩:=nd_0 hk
 unfold eI at h1
 unfold eU at h2
 rcases eF x.op with ⟨e,f⟩ | ⟨e,f⟩ | ⟨e,f⟩ | ⟨e,f⟩
 ·refine ⟨1,by unfold eM;rw[if_pos e];rfl,Nat.le_refl _,?_⟩
  rcases f with f | f
  ·refine .pt ?_ fun i=>?_
   ·unfold nV;rw[if_pos f];exact gl_pt hq.ql
   ·unfold nG;rw[if_pos f];exact gl_0
  ·refine .pt ?_ fun i=>?_
   ·unfold nV;rw[if_neg (by omega),if_pos f];exact vW hb (by decide) _
   ·unfold nG;rw[if_neg (by omega),if_pos f];split
    ·exact gl_1
    ·exact gl_0
 ·obtain ⟨s,e1,e2,e3⟩:=bd_at h (a:=x.a) (by omega) (by omega)
  rcases f with f | f
  ·refine ⟨s,by unfold eM;rw[if_neg (by omega),if_pos f];exact e1,e2,?_⟩
   have e4:=e3.neg
   unfold nV nG;simp only[f];exact e4
  ·refine ⟨2*s,by unfold eM;rw[if_neg (by omega),if_neg (by omega),if_pos f,e1];omega,by omega,?_⟩
   have e4:=e3.sq e2
   unfold nV nG;simp only[f];exact e4
 ·obtain ⟨s,e1,e2,e3⟩:=bd_at h (a:=x.a) (by omega) (by omega)
  obtain ⟨r,g1,g2,g3⟩:=bd_at h (a:=x.b) (by omega) (by omega)
  refine ⟨s+r,by unfold eM;rw[if_neg (by omega),if_neg (by omega),if_neg (by omega),e1,g1];omega,by omega,?_⟩
  rcases f with f | f | f | f
  ·have e4:=e3.add e2 g2 g3
   unfold nV nG;simp only[f];exact e4
  ·have e4:=e3.sub e2 g2 g3
   unfold nV nG;simp only[f];exact e4
  ·have e4:=e3.mul e2 g2 g3
   unfold nV nG;simp only[f];exact e4
  ·have e4:=e3.div e2 g2 g3
   unfold nG;unfold nV;simp only[f];exact e4
 ·omega
theorem getD_snoc{α:Type}{l:List α}{x d:α}{j:Nat}:(l++[x]).getD j d=if j<l.length then l.getD j d else if j=l.length then x else d:=by
 rw[List.getD_eq_getElem?_getD,List.getD_eq_getElem?_getD]
 split
 ·rename_i h;rw[List.getElem?_append_left h]
 ·rename_i h
  rw[List.getElem?_append_right (by omega)]
  split
  ·rename_i e;subst e;rw[Nat.sub_self];rfl
  ·rename_i e;rw[List.getElem?_eq_none (by simp;omega)];rfl
structure eS (bx:List R2) (t:List kN):Prop where
 c0:mP ((bx.length:Nat):Int) t=0
 q:∀ x∈t,mN x.n (qJ x.n) 8
 b:∀ y∈bx,GL 8 y
 s:∀ k,k<t.length→eM (yY t k) (t.getD k tz)≤200
theorem mem_getD{α:Type}{l:List α}{d:α}{k:Nat}(h:k<l.length):l.getD k d∈l:=by
 rw[List.getD_eq_getElem?_getD,List.getElem?_eq_getElem h];exact List.getElem_mem _
theorem eS.bd{bx:List R2}{t:List kN}(h:eS bx t):∀ {k:Nat},k≤t.length→BdOk (yY t k) (jU bx t k)
 |0,_=>fun j hj=>by simp [jU] at hj
 |k+1,hk=>fun j hj=>by
  have ih:=h.bd (k:=k) (by omega)
  have l1:=uU t k
  have l2:=nU bx t k
  rw[nU] at hj
  have g1:(yY t (k+1)).getD j 0=_:=getD_snoc
  have g2:(jU bx t (k+1)).getD j jz=_:=getD_snoc
  rcases Nat.lt_or_ge j k with hjk | hjk
  ·rw[if_pos (by omega)] at g1 g2
   rw[g1,g2];exact ih j (by omega)
  ·rw[if_neg (by omega),if_pos (by omega)] at g1 g2
   rw[g1,g2]
   obtain ⟨s,e1,e2,e3⟩:=bd_node ((fF h.c0).2.2.2.2 k (by omega)) (l1.trans l2.symm) (h.q _ (mem_getD (by omega))) h.b ih
   exact ⟨s,e1,e2,nJ_get e2 e3⟩
theorem bd_200{s:Nat}(h:s≤200):bV s≤1048576∧bG s≤1048576:=by
 have h2:s*s≤200*200:=Nat.mul_le_mul h h
 unfold bV bG;omega
theorem eS.jok{bx:List R2}{t:List kN}(h:eS bx t){k:Nat}(hk:k<t.length):nY 1048576 bx.length (nJ bx (jU bx t k) (t.getD k tz)):=by
 obtain ⟨s,e1,e2,e3⟩:=bd_node ((fF h.c0).2.2.2.2 k hk) ((uU t k).trans (nU bx t k).symm) (h.q _ (mem_getD hk)) h.b (h.bd (Nat.le_of_lt hk))
 have e4:=h.s k hk
 obtain ⟨e5,e6⟩:=bd_200 (s:=s) (by omega)
 exact jk_ok (qX e3.1 e5) fun i _=>qX (e3.2 i) e6
theorem eS.upto{bx:List R2}{t:List kN}(h:eS bx t):∀ {k},k≤t.length→∀ y∈jU bx t k,nY 1048576 bx.length y
 |0,_,y,hy=>by simp [jU] at hy
 |k+1,hk,y,hy=>by
  rw[jU,List.mem_append] at hy
  rcases hy with hy | hy
  ·exact h.upto (by omega) y hy
  ·rw[List.mem_singleton] at hy;subst hy
   exact h.jok (by omega)
def dzB(bx:List R2)(t:List kN)(k:Nat):Bool:=decide ((t.getD k tz).op=5)&&gP (jA (jU bx t k) (t.getD k tz).b).v.1 (jA (jU bx t k) (t.getD k tz).b).v.2
def dzT(bx:List R2)(t:List kN):Bool:=(List.range t.length).any (dzB bx t)
structure FstDz (bx:List R2) (t:List kN) (k:Nat):Prop where
 lt:k<t.length
 no:∀ j,j<k→dzB bx t j=false
 yes:dzB bx t k=true
theorem fst_any{p:Nat→Bool}:∀ {n:Nat},(List.range n).any p=true→∃ k,k<n∧(∀ j,j<k→p j=false)∧p k=true
 |0,h=>by simp at h
 |n+1,h=>by
  cases hn:(List.range n).any p with
  |true=>
   obtain ⟨k,h1,h2,h3⟩:=fst_any hn
   exact ⟨k,by omega,h2,h3⟩
  |false=>
   rw[List.range_succ,List.any_append,hn] at h
   refine ⟨n,by omega,fun j hj=>?_,by simpa using h⟩
   cases hp:p j with
   |false=>rfl
   |true=>rw[List.any_eq_true.2 ⟨j,List.mem_range.2 hj,hp⟩] at hn;cases hn
theorem dz_fst{bx:List R2}{t:List kN}(h:dzT bx t=true):∃ k,FstDz bx t k:=by
 obtain ⟨k,h1,h2,h3⟩:=fst_any h
 exact ⟨k,h1,h2,h3⟩
theorem dz_no{bx:List R2}{t:List kN}(h:dzT bx t=false){k:Nat}(hk:k<t.length):dzB bx t k=false:=by
 cases hp:dzB bx t k with
 |false=>rfl
 |true=>unfold dzT at h;rw[List.any_eq_true.2 ⟨k,List.mem_range.2 hk,hp⟩] at h;cases h
theorem dz_at{bx:List R2}{t:List kN}{k:Nat}(h:dzB bx t k=false)(ho:(t.getD k tz).op=5):gP (jA (jU bx t k) (t.getD k tz).b).v.1 (jA (jU bx t k) (t.getD k tz).b).v.2=false:=by
 unfold dzB at h;rw[decide_eq_true ho,Bool.true_and] at h;exact h
theorem eS.run{bx:List R2}{t:List kN}(h:eS bx t)(hd:dzT bx t=false):fH bx t:=⟨h.c0,fun k hk=>h.jok hk,fun k hk ho=>dz_at (dz_no hd hk) ho⟩
theorem eS.up{bx:List R2}{t:List kN}(h:eS bx t):∀ x∈t,mN x.n (qJ x.n) 1048576:=fun x hx=>jR (h.q x hx) (by decide)
theorem eS.nd{bx:List R2}{t:List kN}(h:eS bx t){k:Nat}(hk:k<t.length)(hd:dzB bx t k=false):NdOk bx.length (jU bx t k) (t.getD k tz) :=
 nd_ok ((fF h.c0).2.2.2.2 k hk) (uU t k) (h.up _ (mem_getD hk)) (dz_at hd)
def DzOk(L:List JV)(x:kN):Prop:=∃ a b:Nat,x=⟨5,(a:Int),(b:Int),zr⟩∧a<L.length∧b<L.length∧gP (L.getD b jz).v.1 (L.getD b jz).v.2=true
theorem eS.dz{bx:List R2}{t:List kN}(h:eS bx t){k:Nat}(hk:k<t.length)(hd:dzB bx t k=true):DzOk (jU bx t k) (t.getD k tz):=by
 have hc:=(fF h.c0).2.2.2.2 k hk
 obtain ⟨h1,h2,h3,_⟩:=nd_0 hc
 rw[uU] at h2
 have hl:=nU bx t k
 unfold dzB at hd
 rw[Bool.and_eq_true,decide_eq_true_eq] at hd
 generalize t.getD k tz=x at *
 generalize jU bx t k=L at *
 obtain ⟨op,a,b,n⟩:=x
 unfold eI at h1
 unfold eU at h2
 dsimp only at *
 obtain ⟨e,hz⟩:=hd
 subst e
 have e5:vJ 5=2:=rfl
 rw[e5] at h2
 have hu:n=zr:=uns_eq (by
  cases hh:unsB n with
  |true=>rfl
  |false=>exact absurd (Or.inr (Or.inr (Or.inr ⟨by decide,hh⟩))) h1)
 obtain ⟨m,hm⟩:=nat_of (a:=a) (by omega)
 subst hm
 obtain ⟨l,hl'⟩:=nat_of (a:=b) (by omega)
 subst hl'
 subst hu
 refine ⟨m,l,rfl,by omega,by omega,?_⟩
 unfold jA at hz
 rwa [Int.toNat_natCast] at hz
theorem nd_mono{z w:Int}(hw:z≤w){ss:List Int}{x:kN}(h:ndC z ss x=0):ndC w ss x=0:=by
 obtain ⟨h1,h2,h3,h4⟩:=nd_0 h
 exact nd_y h1 h2 (fun h=>h3 (by unfold rngN at *;omega)) (by omega)
theorem tm_mono{z w:Int}(hw:z≤w)(h6:w≤64){t:List kN}(h:mP z t=0):mP w t=0:=by
 obtain ⟨h1,h2,h3,h4,h5⟩:=fF h
 exact (tm_yes (by omega) h3 (by omega) fun i hi=>nd_mono hw (h5 i hi)).1
theorem szU_mem{t:List kN}:∀ {n k:Nat},k<n→eM (yY t k) (t.getD k tz)∈yY t n
 |0,k,h=>by omega
 |n+1,k,h=>by
  rw[yY,List.mem_append]
  rcases Nat.lt_or_ge k n with h1 | h1
  ·exact .inl (szU_mem h1)
  ·obtain rfl:k=n:=by omega
   exact .inr (List.mem_singleton.2 rfl)
def StOk(n:Nat)(L:List JV)(x:kN):Prop:=NdOk n L x∨DzOk L x
theorem StOk.kd{n:Nat}{L:List JV}{x:kN}(h:StOk n L x):vJ x.op=0∨vJ x.op=1∨vJ x.op=2:=by
 rcases h with h | ⟨a,b,rfl,_⟩
 ·cases h<;>first | exact .inl rfl | exact .inr (.inl rfl) | exact .inr (.inr rfl)
 ·exact .inr (.inr rfl)
theorem StOk.a{n:Nat}{L:List JV}{x:kN}(h:StOk n L x)(h1:1≤vJ x.op):0≤x.a∧x.a.toNat<L.length:=by
 rcases h with h | ⟨a,b,rfl,ha,_⟩
 ·cases h with
  |c hp=>exact absurd h1 (by show ¬ (1:Int)≤vJ 0;decide)
  |v ha=>exact absurd h1 (by show ¬ (1:Int)≤vJ 1;decide)
  |add ha hb=>exact ⟨by show 0≤((_:Nat):Int);omega,by show (((_:Nat):Int)).toNat<_;rwa [Int.toNat_natCast]⟩
  |sub ha hb=>exact ⟨by show 0≤((_:Nat):Int);omega,by show (((_:Nat):Int)).toNat<_;rwa [Int.toNat_natCast]⟩
  |mul ha hb=>exact ⟨by show 0≤((_:Nat):Int);omega,by show (((_:Nat):Int)).toNat<_;rwa [Int.toNat_natCast]⟩
  |div ha hb hz=>exact ⟨by show 0≤((_:Nat):Int);omega,by show (((_:Nat):Int)).toNat<_;rwa [Int.toNat_natCast]⟩
  |neg ha=>exact ⟨by show 0≤((_:Nat):Int);omega,by show (((_:Nat):Int)).toNat<_;rwa [Int.toNat_natCast]⟩
  |sq ha=>exact ⟨by show 0≤((_:Nat):Int);omega,by show (((_:Nat):Int)).toNat<_;rwa [Int.toNat_natCast]⟩
 ·exact ⟨by show 0≤((_:Nat):Int);omega,by show (((_:Nat):Int)).toNat<_;rwa [Int.toNat_natCast]⟩
theorem StOk.b{n:Nat}{L:List JV}{x:kN}(h:StOk n L x)(h2:vJ x.op=2):0≤x.b∧x.b.toNat<L.length:=by
 rcases h with h | ⟨a,b,rfl,_,hb,_⟩
 ·cases h with
  |c hp=>exact absurd h2 (by show ¬ vJ 0=2;decide)
  |v ha=>exact absurd h2 (by show ¬ vJ 1=2;decide)
  |add ha hb=>exact ⟨by show 0≤((_:Nat):Int);omega,by show (((_:Nat):Int)).toNat<_;rwa [Int.toNat_natCast]⟩
  |sub ha hb=>exact ⟨by show 0≤((_:Nat):Int);omega,by show (((_:Nat):Int)).toNat<_;rwa [Int.toNat_natCast]⟩
  |mul ha hb=>exact ⟨by show 0≤((_:Nat):Int);omega,by show (((_:Nat):Int)).toNat<_;rwa [Int.toNat_natCast]⟩
  |div ha hb hz=>exact ⟨by show 0≤((_:Nat):Int);omega,by show (((_:Nat):Int)).toNat<_;rwa [Int.toNat_natCast]⟩
  |neg ha=>exact absurd h2 (by show ¬ vJ 6=2;decide)
  |sq ha=>exact absurd h2 (by show ¬ vJ 7=2;decide)
 ·exact ⟨by show 0≤((_:Nat):Int);omega,by show (((_:Nat):Int)).toNat<_;rwa [Int.toNat_natCast]⟩
theorem NdOk.op{n:Nat}{L:List JV}{x:kN}(h:NdOk n L x):x.op=0∨x.op=1∨x.op=2∨x.op=3∨x.op=4∨x.op=5∨x.op=6∨x.op=7:=by
 cases h<;>simp
theorem nG_0{bx:List R2}{L:List JV}{x:kN}{i:Nat}(h:x.op=0):nG bx L x i=gw 0:=by unfold nG;simp only[h];rfl
theorem nG_1{bx:List R2}{L:List JV}{x:kN}{i:Nat}(h:x.op=1):nG bx L x i=if (i:Int)=x.a then gw 1 else gw 0:=by unfold nG;simp only[h];rfl
theorem nG_2{bx:List R2}{L:List JV}{x:kN}{i:Nat}(h:x.op=2):nG bx L x i=gH ((jA L x.a).g.getD i z2) ((jA L x.b).g.getD i z2):=by unfold nG;simp only[h];rfl
theorem nG_3{bx:List R2}{L:List JV}{x:kN}{i:Nat}(h:x.op=3):nG bx L x i=uM ((jA L x.a).g.getD i z2) ((jA L x.b).g.getD i z2):=by unfold nG;simp only[h];rfl
theorem nG_6{bx:List R2}{L:List JV}{x:kN}{i:Nat}(h:x.op=6):nG bx L x i=gneg ((jA L x.a).g.getD i z2):=by rw[← gs0];unfold nG;simp only[h];rfl
theorem DzOk.kd{L:List JV}{x:kN}(h:DzOk L x):vJ x.op=2:=by
 obtain ⟨a,b,rfl,_⟩:=h
 rfl
structure DEnd (bx:List R2) (t:List kN) (k0:Nat):Prop where
 c0:mP ((bx.length:Nat):Int) t=0
 le:k0≤t.length
 nd:∀ j,j<k0→NdOk bx.length (jU bx t j) (t.getD j tz)
 ok:∀ j,j≤k0→∀ y∈jU bx t j,nY 1048576 bx.length y
 nv:∀ j,j<k0→nY 1048576 bx.length (nJ bx (jU bx t j) (t.getD j tz))
 dz:k0<t.length→DzOk (jU bx t k0) (t.getD k0 tz)
theorem DEnd.st{bx:List R2}{t:List kN}{k0 k:Nat}(h:DEnd bx t k0)(hk:k≤k0)(hl:k<t.length):StOk bx.length (jU bx t k) (t.getD k tz):=by
 rcases Nat.lt_or_ge k k0 with h1 | h1
 ·exact .inl (h.nd k h1)
 ·obtain rfl:k=k0:=by omega
  exact .inr (h.dz hl)
theorem DEnd.last{bx:List R2}{t:List kN}(h:DEnd bx t t.length):nY 1048576 bx.length (xQ bx t):=by
 have h0:=fF h.c0
 have hl:=nU bx t t.length
 refine h.ok t.length (Nat.le_refl _) _ ?_
 unfold xQ
 exact mem_getD (by omega)
end Go.Fid
namespace Go.Proofs.YtnajallgoaiahaaGreatDoor
open Go.Fid
theorem ptr_ok{l:List jO}{n:Nat}(h:uY n l):∀ a∈List.map (fun x=>jW.mk x x) l,GOk n a:=fun a ha=>by
 obtain ⟨x,hx,rfl⟩:=List.mem_map.1 ha
 exact ⟨h.1 x hx,h.1 x hx⟩
theorem validG_pp(x:jO):uG ⟨x,x⟩=kM x:=by
 unfold uG
 rw[decide_eq_true Rat.le_refl,Bool.and_true,Bool.and_self]
theorem ptr_all(l:List jO):(List.map (fun x=>jW.mk x x) l).all uG=gY l:=by
 unfold gY
 induction l with
 |nil=>rfl
 |cons x l ih=>rw[List.map_cons,List.all_cons,List.all_cons,ih,validG_pp]
end Go.Proofs.YtnajallgoaiahaaGreatDoor
namespace Go.Proofs.YtnajallgoaiahaaGreatDoor
open Go.Fid
theorem f_stepD(a:Nat)(b:Nat)(bv:List jW)(n:Nat)(L:List JV)(hn:n≤64)(hL:L.length≤1000)(hLk:∀ x∈L,nY 1048576 n x)(ha:a<L.length)(hb:b<L.length)(hz:gP (L.getD b jz).v.1 (L.getD b jz).v.2=true):vO Tryz.prog 126 [(.ref 0 0),(.d (kK (kN.mk 5 ((a:Nat):Int) ((b:Nat):Int) qM))),(vl 61 8 jI bv)] [(0,some (xA n 1 L false)),(1,some (xH L))] (.d (.tup [])) [(0,some (xA n 12 (L++[(jk (gw 0) (fun _=>gw 0) n)]) true)),(12,some (xH (L++[(jk (gw 0) (fun _=>gw 0) n)])))]:=by
 have hu:nY 1048576 n (L.getD a jz):=dH hLk ha
 have hv:nY 1048576 n (L.getD b jz):=dH hLk hb
 let y2:=(kK (kN.mk 5 ((a:Nat):Int) ((b:Nat):Int) qM))
 let y1:=(jW.mk qM qM)
 refine nQ Tryz.func126 rfl cb126 rfl ?_
 show qK _ _ _ _ ⟨[(0,(.ref 0 0)),(1,(.d y2)),(2,(vl 61 8 jI bv))],[(0,some (xA n 1 L false)),(1,some (xH L))]⟩
 refine jB<|kx [(3,(.ref 2 0)),(4,(.ref 3 0)),(5,(.ref 4 0))] [(2,some [(.ref 0 0)]),(3,some (bx y2)),(4,some (bx (.sl 61 8 (List.map jI bv))))] (zH (oBy 2)<|zH (vN 3)<|zH (vN 4)<|zZ) ?_
 refine jB<|pwp_fix 2 (k:=0) (o:=0) (h:=fun b0=>?_)
 refine kW (wk (l:=[(0,(.ref 0 0)),(3,(.ref 2 0)),(4,(.ref 3 0)),(5,(.ref 4 0))]) (b:=[(0,some (xA n 1 L false)),(1,some (xH L)),(2,some [(.refx 0 0 b0)]),(3,some (bx y2)),(4,some (bx (.sl 61 8 (List.map jI bv))))])) ?_
 refine kx [(6,(.ref 5 0))] [(5,some (bx (jI (kS (gw 0)))))] (zE (jZ (j_whole ((0:Nat):Int) (by omega) (by omega)))<|zH (uB 5 uC uH)<|zT (qD kF)<|zZ) ?_
 refine jB<|kx [(7,(.clo 181 [5]))] [] (zE (oMf [5])<|zM<|zZ) ?_
 refine jB<|kx [(8,(.ref 6 0)),(9,(.ref 7 0))] [(6,some (bx (jJ (nE.mk y1 [] [])))),(7,some (bx (jJ (nE.mk y1 [] []))))] (zH (uB 6 ze95 zo95)<|zH (uB 7 ze95 zo95)<|zZ) ?_
 refine jB<|kx [(10,(jV 2))] [] (zE (kZ yK)<|zR (qS eP)<|zE (oQd (.val (.int .i64 ((vJ 5)))) (.val (.int .i64 (((2:Nat):Int)))) (jZ (j_kids 5)) (by exact rfl))<|zM<|zZ) ?_
 refine jB<|jB<|kx [(19,(vb true))] [] (zM<|zE (xD true mT)<|zZ) ?_
 refine vP ?_
 refine kd [] [(6,some (bx (jJ (qF (L.getD a jz)))))] mo (wR (oLx eC)<|wE oNc<|wE (kZ mZ)<|wR (qS sh143)<|wE (kZ vZ)<|wR (qS hP)<|wE (oXO el143 a (hj:=by first | omega | rfl | (simp only[List.length_map];omega) | (dsimp only;omega)) (h1:=by first | omega | rfl | (simp only[List.length_map];omega) | (dsimp only;omega)))<|wR (oQr (jJ ((List.map qF L).getD a (nE.mk y1 [] []))) (jJ (qF (L.getD a jz))) (oLA eT a (nE.mk y1 [] []) (h1:=by first | omega | rfl | (simp only[List.length_map];omega) | (dsimp only;omega))) (by exact (congrArg jJ (map_getD qF L jz _ (by omega)))))<|wT (qD eT)<|wZ) ?_
 refine jB<|jB<|kx [(29,(vb true))] [] (zM<|zE (xD true mT)<|zZ) ?_
 refine vP ?_
 refine kd [] [(7,some (bx (jJ (qF (L.getD b jz)))))] mo (wR (oLx eC)<|wE oNc<|wE (kZ mZ)<|wR (qS sh143)<|wE (kZ yJ)<|wR (qS hP)<|wE (oXO el143 b (hj:=by first | omega | rfl | (simp only[List.length_map];omega) | (dsimp only;omega)) (h1:=by first | omega | rfl | (simp only[List.length_map];omega) | (dsimp only;omega)))<|wR (oQr (jJ ((List.map qF L).getD b (nE.mk y1 [] []))) (jJ (qF (L.getD b jz))) (oLA eT b (nE.mk y1 [] []) (h1:=by first | omega | rfl | (simp only[List.length_map];omega) | (dsimp only;omega))) (by exact (congrArg jJ (map_getD qF L jz _ (by omega)))))<|wT (qD eT)<|wZ) ?_
 refine jB<|kx [(11,(.clo 183 [2,6,7]))] [] (zE (oMf [2,6,7])<|zM<|zZ) ?_
 refine jB<|kx [(40,(vi 5))] [] (zE (kZ yK)<|zR (qS eP)<|zZ) ?_
 refine jH<|jB<|kx [(46,(vb false))] [] (zE (xD false yQ)<|zM<|zZ) ?_
 refine kY ?_
 refine jB<|kx [(53,(vb false))] [] (zE (xD false yQ)<|zM<|zZ) ?_
 refine kY ?_
 refine jB<|kx [(60,(vb false))] [] (zE (xD false yQ)<|zM<|zZ) ?_
 refine kY ?_
 refine jB<|kx [(64,(vb false))] [] (zE (xD false yQ)<|zM<|zZ) ?_
 refine kY ?_
 refine jB<|kW (wk (l:=[(0,(.ref 0 0)),(3,(.ref 2 0)),(6,(.ref 5 0)),(8,(.ref 6 0)),(9,(.ref 7 0)),(11,(.clo 183 [2,6,7])),(40,(vi 5)),(64,(vb false))]) (b:=[(0,some (xA n 1 L false)),(1,some (xH L)),(2,some [(.refx 0 0 b0)]),(5,some (bx (jI (kS (gw 0))))),(6,some (bx (jJ (qF (L.getD a jz))))),(7,some (bx (jJ (qF (L.getD b jz)))))])) ?_
 refine kx [(68,(vb false))] [] (zE (xD false yQ)<|zM<|zZ) ?_
 refine kY ?_
 refine jB<|kx [(74,(vb false))] [] (zE (xD false yQ)<|zM<|zZ) ?_
 refine kY ?_
 refine jB<|kx [(81,(vb false))] [] (zE (xD false yQ)<|zM<|zZ) ?_
 refine kY ?_
 refine kf [] [(0,some (xA n 12 (L++[jk (gw 0) (fun _=>gw 0) n]) true)),(12,some (xH (L++[jk (gw 0) (fun _=>gw 0) n]))),(1,none),(10,none),(11,none),(2,none),(6,none),(7,none),(8,none),(9,none)] (zR (oLx eC)<|zE (oMf [2,6,7])<|zE (oMf [2,6,7])<|zE (oMf [6,7,2])<|zSe (B2:=[(0,some (xA n 1 L false)),(1,some (xH L)),(2,some [(.refx 0 0 b0)]),(6,some (bx (jJ (qF (L.getD a jz))))),(7,some (bx (jJ (qF (L.getD b jz)))))]) (B2':=[(0,some (xA n 12 (L++[jk (gw 0) (fun _=>gw 0) n]) true)),(12,some (xH (L++[jk (gw 0) (fun _=>gw 0) n])))]) [0,1,2,6,7,8,9,10,11,12] [0,2,6,7] (f_nodeD n L b0 (L.getD a jz) hu (L.getD b jz) hv hn hL hz)<|zF) ?_
 refine ⟨zL (by kernel_rfl),gL (by kernel_rfl),.inl ⟨_,.nil,?_⟩⟩
 rfl
theorem hF12(n:Nat)(L:List JV):([(0,some [(jV n),(jV 1),(vi (-1)),(.own 18 95 10 ((List.map qF (L)).length)),(vb true)]),(18,some (cC jJ (List.map qF (L))))]:BS).map (fun e=>(e.1,e.2.map fun c=>c.map (SV.ren (xn 12 18))))=([(0,some [(jV n),(jV 1),(vi (-1)),(.own 12 95 10 ((List.map qF (L)).length)),(vb true)]),(12,some (cC jJ (List.map qF (L))))]:BS).map (fun e=>(xn 12 18 e.1,e.2)):=by
 simp only[List.map_cons,List.map_nil,Option.map_some,cC,ren_dat]
 rfl
def StepFail(bv:List R2)(L:List JV)(x:kN):Prop:=vO Tryz.prog 126 [(.ref 0 0),(.d (kK x)),(vl 61 8 jI (List.map kS bv))] [(0,some (xA bv.length 1 (L) false)),(1,some (xH (L)))] (.d (.tup [])) [(0,some (xA bv.length 18 (L++[(jk (gw 0) (fun _=>gw 0) bv.length)]) true)),(18,some (xH (L++[(jk (gw 0) (fun _=>gw 0) bv.length)])))]
theorem f_step(x:kN)(bv:List R2)(hbx:∀ x∈bv,GL 1048576 x)(L:List JV)(hst:StepFail bv L x):vO Tryz.prog 126 [(.ref 0 0),(.d (kK x)),(vl 61 8 jI (List.map kS bv))] [(0,some (xA bv.length 1 (L) false)),(1,some (xH (L)))] (.d (.tup [])) [(0,some (xA bv.length 18 (L++[(jk (gw 0) (fun _=>gw 0) bv.length)]) true)),(18,some (xH (L++[(jk (gw 0) (fun _=>gw 0) bv.length)])))]:=hst
structure JFailP (bv:List R2) (t:List kN) (k:Nat):Prop where
 c0:mP ((bv.length:Nat):Int) t=0
 lt:k<t.length
 st:∀ j,j<k→StepAt bv (jU bv t j) (t.getD j tz)
 fl:StepFail bv (jU bv t k) (t.getD k tz)
theorem e_stepF0(x:kN)(bv:List R2)(L:List JV)(hn:bv.length≤64)(hL:L.length≤1000)(hLk:∀ y∈L,nY 1048576 bv.length y)(hx:DzOk L x):StepFail bv L x:=by
 obtain ⟨a,b,rfl,ha,hb,hz⟩:=hx
 exact takesS_ren 12 18 (f_stepD _ _ (List.map kS bv) bv.length L hn hL hLk ha hb hz) (hF12 _ _) rfl (by kernel_rfl)
theorem fail_p{bv:List R2}{t:List kN}{k:Nat}(h:eS bv t)(hk:FstDz bv t k):JFailP bv t k:=by
 have h0:=fF h.c0
 have hbx:∀ y∈bv,GL 1048576 y:=fun y hy=>qX (h.b y hy) (by decide)
 have hk1:=hk.lt
 refine ⟨h.c0,hk.lt,fun j hj=>?_,?_⟩
 ·have hl:=nU bv t j
  exact e_stepN0 _ bv hbx _ (by omega) (by omega) (h.upto (by omega)) (h.nd (by omega) (hk.no j hj))
 ·have hl:=nU bv t k
  exact e_stepF0 _ bv _ (by omega) (by omega) (h.upto (by omega)) (h.dz hk.lt hk.yes)
theorem tame_run{bv:List R2}{t:List kN}(h:eS bv t)(hd:dzT bv t=false):fS bv t:=run_p (fun y hy=>qX (h.b y hy) (by decide)) h.up (h.run hd)
theorem j_jetsF0(t:List kN)(ht:xK 1048576 t)(bv:List R2)(hbx:∀ x∈bv,GL 1048576 x)(k0:Nat)(hr:JFailP bv t k0):jQ Tryz.prog 67 [(.sl 83 7 (List.map kK t)),(.sl 61 8 (List.map jI (List.map kS bv))),(.val (.int .i64 (((1:Nat):Int)))),(.val (.int .i64 (-1)))] (.tup [(jJ (nE.mk (jW.mk qM qM) [] [])),(.val (.int .i64 (((14:Nat):Int))))]):=by
 have h0:=fF hr.c0
 have hlt:=hr.lt
 let y3:=(jW.mk qM qM)
 let y2:=(bx (jJ (nE.mk y3 [] [])))
 let y1:=(bx (.agg [(.val (.int .i64 (((bv.length:Nat):Int)))),(.val (.int .i64 (((1:Nat):Int)))),(.val (.int .i64 (-1))),(.val (.slice none 0 0)),(.val (.bool (false)))]))
 refine jG Tryz.func67 rfl cb67 rfl ?_
 show qK _ _ _ _ ⟨[(0,(vl 83 7 kK t)),(1,(vl 61 8 jI (List.map kS bv))),(2,(jV 1)),(3,(vi (-1)))],[]⟩
 refine jB<|kx [(8,(.ref 0 0))] [(0,some y2)] (zN (uB 0 ze95 zo95)<|zM<|zZ) ?_
 refine jB<|jB<|kx [(16,(vl 61 8 jI (List.map kS bv))),(17,(jV bv.length)),(18,(jV 0))] [] (zM<|zE (oLn gN bv.length)<|zM<|zZ) ?_
 refine jH<|kL (α:=Nat) (fun i=>⟨[(0,(vl 83 7 kK t)),(1,(vl 61 8 jI (List.map kS bv))),(2,(jV 1)),(3,(vi (-1))),(8,(.ref 0 0)),(16,(vl 61 8 jI (List.map kS bv))),(17,(jV bv.length)),(18,(jV i))],[(0,some y2)]⟩) (fun i=>i≤bv.length) (fun i=>bv.length-i) 0 wk (Nat.zero_le _) ?_
 rintro i hi
 refine jB<|kx [(19,(vb (decide (((i:Nat):Int)<((bv.length:Nat):Int)))))] [] (zE xT<|zZ) ?_
 refine jB<|jF rfl (fun h1=>?_) (fun h1=>?_)
 ·replace h1:=vI h1
  refine jD<|jB<|jH<|jB<|kx [(11,(.ref 1 0))] [(1,some (bx (jI (kS (bv.getD i z2)))))] (zE (oXm gN kS i z2)<|zE (nA kF)<|zN (uB 1 uC uH)<|zT (qD kF)<|zZ) ?_
  refine jB<|kx [(24,(vb false))] [] (zR (kO kF)<|zE (jZ (by have h:=bJ (kS (bv.getD i z2)) (gW (⟨qL (jR (kC (vW hbx (by decide) i).1) (by decide:1048576≤1048576)),qL (jR (kC (vW hbx (by decide) i).2.1) (by decide:1048576≤1048576))⟩) (by decide));rw[show uG (kS (bv.getD i z2))=true from xX (vW hbx (by decide) i).2.2] at h;exact h))<|zE nF<|zZ) ?_
  refine kY ?_
  refine jD<|kx [(18,(jV (i+1)))] [] (zE (vY (i+1))<|zM<|zZ) ?_
  exact ⟨i+1,wk,(by omega),(by first|omega|(dsimp only;omega))⟩
 ·replace h1:=vM h1
  refine kJ<|jB<|jB<|kx [(36,(vb false))] [] (zM<|zE (xD false xT)<|zM<|zM<|zE (xD false mT)<|zE zG<|zM<|zM<|zE (xD false mT)<|zE zG<|zZ) ?_
  refine kY ?_
  refine jD<|jB<|jB<|kx [(12,(jV (mP ((bv.length:Nat):Int) t)))] [] (zM<|zM<|zE (oLn gN bv.length)<|zE (jZ (j_chk t ht ((bv.length:Nat):Int)))<|zM<|zZ) ?_
  refine jB<|kx [(43,(vb false))] [] (zM<|zE (xD false cM (by exact bne_eq_false_iff_eq.2 (by rw[show (mP ((bv.length:Nat):Int) t)=0 from hr.c0]<;>rfl)))<|zZ) ?_
  refine kY ?_
  refine jD<|jB<|kx [(13,(.ref 2 0))] [(2,some y1)] (zM<|zE (oLn gN bv.length)<|zM<|zM<|zE (bB pl161 ze161 zn161)<|zN (vN 2)<|zM<|zZ) ?_
  refine jB<|jB<|pwp_own 2 3 3 95 10 (cs:=y1) (h:=?_)
  refine kW (wk (l:=[(0,(vl 83 7 kK t)),(1,(vl 61 8 jI (List.map kS bv))),(8,(.ref 0 0)),(13,(.ref 2 0))]) (b:=[(0,some y2),(2,some [(jV bv.length),(jV 1),(vi (-1)),(.own 3 95 10 0),(vb false)]),(3,some (cC jJ []))])) ?_
  refine kx [(52,(vl 83 7 kK t)),(53,(jV t.length)),(54,(jV 0))] [] (zM<|zE (vC hH)<|zM<|zZ) ?_
  refine jH<|kL (α:=Nat) (fun k=>⟨[(1,(vl 61 8 jI (List.map kS bv))),(8,(.ref 0 0)),(13,(.ref 2 0)),(52,(vl 83 7 kK t)),(53,(jV t.length)),(54,(jV k))],[(0,some y2),(2,some (xA bv.length 3 (jU bv t k) false)),(3,some (xH (jU bv t k)))]⟩) (fun k=>k≤k0) (fun k=>t.length-k) 0 wk (Nat.zero_le _) ?_
  rintro k hk
  have hju:=nU bv t k
  have hjm:(List.map qF (jU bv t k)).length=k:=by rw[List.length_map,hju]
  refine jB<|kx [(55,(vb (decide (((k:Nat):Int)<((t.length:Nat):Int)))))] [] (zE xT<|zZ) ?_
  refine jB<|jF rfl (fun h2=>?_) (fun h2=>?_)
  ·replace h2:=vI h2
   refine jD<|jB<|jH<|jB<|kx [(15,(.ref 4 0))] [(4,some (bx (kK (t.getD k tz))))] (zE (yL hH k (tz:kN))<|zE (nA aV)<|zH (uB 4 bE zo83)<|zT (qD aV)<|zZ) ?_
   refine jB ?_
   rcases hlt0:(decide (k<k0)) with _ | _
   ·refine kf [] [(2,some (xA bv.length 21 ((jU bv t k)++[(jk (gw 0) (fun _=>gw 0) bv.length)]) true)),(21,some (xH ((jU bv t k)++[(jk (gw 0) (fun _=>gw 0) bv.length)]))),(10,none),(11,none),(12,none),(13,none),(14,none),(15,none),(16,none),(17,none),(18,none),(19,none),(20,none),(3,none),(5,none),(6,none),(7,none),(8,none),(9,none)] (zM<|zR (kO aV)<|zM<|zSe (B2:=[(2,some (xA bv.length 3 (jU bv t k) false)),(3,some (xH (jU bv t k)))]) (B2':=[(2,some (xA bv.length 21 ((jU bv t k)++[(jk (gw 0) (fun _=>gw 0) bv.length)]) true)),(21,some (xH ((jU bv t k)++[(jk (gw 0) (fun _=>gw 0) bv.length)])))]) [2,3,5,6,7,8,9,10,11,12,13,14,15,16,17,18,19,20,21] [2] (f_step (t.getD k tz) bv hbx (jU bv t k) ((show k0=k by have:=vM hlt0;omega)▸hr.fl))<|zF) ?_
    refine kW (wk (l:=[(1,(vl 61 8 jI (List.map kS bv))),(8,(.ref 0 0)),(13,(.ref 2 0)),(52,(vl 83 7 kK t)),(53,(jV t.length)),(54,(jV k))]) (b:=[(0,some y2),(2,some (xA bv.length 21 ((jU bv t k)++[(jk (gw 0) (fun _=>gw 0) bv.length)]) true)),(21,some (xH ((jU bv t k)++[(jk (gw 0) (fun _=>gw 0) bv.length)])))])) ?_
    refine kW (sim_ren2 (S':=[(1,(vl 61 8 jI (List.map kS bv))),(8,(.ref 0 0)),(13,(.ref 2 0)),(52,(vl 83 7 kK t)),(53,(jV t.length)),(54,(jV k))]) (B':=[(0,some y2),(2,some (xA bv.length 3 ((jU bv t k)++[(jk (gw 0) (fun _=>gw 0) bv.length)]) true)),(3,some (xH ((jU bv t k)++[(jk (gw 0) (fun _=>gw 0) bv.length)])))]) 3 21 2) ?_
    refine jB<|kx [(65,(vb true))] [] (zM<|zE oNc<|zE (kZ fo161_4)<|zR (qS aP)<|zZ) ?_
    refine vP ?_
    refine jB<|kx [(9,(jV 14))] [(0,some y2)] (zE (bB pl95 ze95 zo95)<|zT (qD eT)<|zM<|zZ) ?_
    refine jE ⟨_,(kP (cs:=y2) (d:=(jJ (nE.mk y3 [] []))) rfl rfl eT rfl rfl (.tmp (d:=(.val (.int .i64 (((14:Nat):Int))))) rfl .nil)),?_⟩
    first | rfl | exact absurd hlt (by omega)
   ·refine kf [] [(2,some (xA bv.length 21 ((jU bv t k)++[(nJ bv (jU bv t k) (t.getD k tz))]) false)),(21,some (xH ((jU bv t k)++[(nJ bv (jU bv t k) (t.getD k tz))]))),(10,none),(11,none),(12,none),(13,none),(14,none),(15,none),(16,none),(17,none),(18,none),(19,none),(20,none),(3,none),(5,none),(6,none),(7,none),(8,none),(9,none)] (zM<|zR (kO aV)<|zM<|zSe (B2:=[(2,some (xA bv.length 3 (jU bv t k) false)),(3,some (xH (jU bv t k)))]) (B2':=[(2,some (xA bv.length 21 ((jU bv t k)++[(nJ bv (jU bv t k) (t.getD k tz))]) false)),(21,some (xH ((jU bv t k)++[(nJ bv (jU bv t k) (t.getD k tz))])))]) [2,3,5,6,7,8,9,10,11,12,13,14,15,16,17,18,19,20,21] [2] (e_step (t.getD k tz) bv hbx (jU bv t k) (hr.st k (vI hlt0)))<|zF) ?_
    refine kW (wk (l:=[(1,(vl 61 8 jI (List.map kS bv))),(8,(.ref 0 0)),(13,(.ref 2 0)),(52,(vl 83 7 kK t)),(53,(jV t.length)),(54,(jV k))]) (b:=[(0,some y2),(2,some (xA bv.length 21 ((jU bv t k)++[(nJ bv (jU bv t k) (t.getD k tz))]) false)),(21,some (xH ((jU bv t k)++[(nJ bv (jU bv t k) (t.getD k tz))])))])) ?_
    refine kW (sim_ren2 (S':=[(1,(vl 61 8 jI (List.map kS bv))),(8,(.ref 0 0)),(13,(.ref 2 0)),(52,(vl 83 7 kK t)),(53,(jV t.length)),(54,(jV k))]) (B':=[(0,some y2),(2,some (xA bv.length 3 ((jU bv t k)++[(nJ bv (jU bv t k) (t.getD k tz))]) false)),(3,some (xH ((jU bv t k)++[(nJ bv (jU bv t k) (t.getD k tz))])))]) 3 21 2) ?_
    refine jB<|kx [(65,(vb false))] [] (zM<|zE oNc<|zE (kZ fo161_4)<|zR (qS aP)<|zZ) ?_
    refine kY ?_
    refine jD<|kx [(54,(jV (k+1)))] [] (zE (vY (k+1))<|zM<|zZ) ?_
    exact ⟨k+1,wk,(by have:=vI hlt0;omega),(by first|omega|(dsimp only;omega))⟩
  ·replace h2:=vM h2
   refine kJ<|jB<|kd [(9,(jV 0))] [(0,some (bx (jJ ((List.map qF (jU bv t k)).getD ((List.map qF (jU bv t k)).length-1) (nE.mk y3 [] [])))))] mo (wM<|wE oNc<|wE (kZ mZ)<|wR (qS sh143)<|wM<|wE oNc<|wE (kZ mZ)<|wR (qS sh143)<|wE (oLo el143)<|wE (oSb ((List.map qF (jU bv t k)).length-1))<|wE (oXO el143 ((List.map qF (jU bv t k)).length-1))<|wR (oLA eT ((List.map qF (jU bv t k)).length-1) (nE.mk y3 [] []))<|wT (qD eT)<|wM<|wZ) ?_
   refine jE ⟨_,(kP (cs:=(bx (jJ ((List.map qF (jU bv t k)).getD ((List.map qF (jU bv t k)).length-1) (nE.mk y3 [] []))))) (d:=(jJ ((List.map qF (jU bv t k)).getD ((List.map qF (jU bv t k)).length-1) (nE.mk y3 [] [])))) rfl rfl eT rfl rfl (.tmp (d:=(.val (.int .i64 (((0:Nat):Int))))) rfl .nil)),?_⟩
   first | rfl | exact absurd hlt (by omega)
theorem j_jetsF(t:List kN)(ht:xK 1048576 t)(bv:List R2)(hbx:∀ x∈bv,GL 1048576 x)(hfe:∃ k,JFailP bv t k):jQ Tryz.prog 67 [(.sl 83 7 (List.map kK t)),(.sl 61 8 (List.map jI (List.map kS bv))),(.val (.int .i64 (((1:Nat):Int)))),(.val (.int .i64 (-1)))] (.tup [(jJ (nE.mk (jW.mk qM qM) [] [])),(.val (.int .i64 (((14:Nat):Int))))]):=by
 obtain ⟨k,hk⟩:=hfe
 exact j_jetsF0 t ht bv hbx k hk
theorem p_grdF(t:List kN)(ht:xK 1048576 t)(xs:List Rat)(hx:∀ q∈xs,QL q 1048576)(hfe:∃ k,JFailP (List.map gD xs) t k)(hxb:xs.length≤1000000):jQ Tryz.prog 13 [(.sl 83 7 (List.map kK t)),(.sl 45 4 (List.map jK (List.map jP xs)))] (.tup [(.sl 45 4 (List.map jK [])),(.val (.int .i64 (((14:Nat):Int))))]):=by
 refine jG Tryz.func13 rfl cb13 rfl ?_
 show qK _ _ _ _ ⟨[(0,(vl 83 7 kK t)),(1,(vl 45 4 jK (List.map jP xs)))],[]⟩
 refine jB<|kx [] [] (zE (dZ 45 4)<|zM<|zZ) ?_
 refine jB<|kx [(6,(.ref 0 0)),(7,(jV 14))] [(0,some (bx (jJ (nE.mk (jW.mk qM qM) [] []))))] (zM<|zM<|zE (jZ (p_pts xs hx hxb))<|zE (jZ (j_jetsF t ht (List.map gD xs) (pts_gl hx) hfe))<|zM<|zE vT<|zE vT<|zN (uB 0 ze95 zo95)<|zT (qD eT)<|zM<|zZ) ?_
 refine jB<|jB<|kx [(19,(vb true))] [] (zM<|zE (xD true cM)<|zZ) ?_
 refine vP ?_
 refine jB<|kx [(4,(vl 45 4 jK [])),(5,(jV 14))] [] (zM<|zE (dZ 45 4)<|zM<|zZ) ?_
 refine jE ⟨_,(.tmp (d:=(.sl 45 4 (List.map jK []))) rfl (.tmp (d:=(.val (.int .i64 (((14:Nat):Int))))) rfl .nil)),?_⟩
 rfl
theorem p_ptsR(l:List jO)(hl:uY 1048576 l)(hxb:l.length≤1048576):jQ Tryz.prog 68 [(.sl 45 4 (List.map jK l))] (.sl 61 8 (List.map jI (List.map (fun x=>jW.mk x x) l))):=by
 have hlb:=hl.2
 let y1:=qM
 refine jG Tryz.func68 rfl cb68 rfl ?_
 show qK _ _ _ _ ⟨[(0,(vl 45 4 jK l))],[]⟩
 refine jB<|kx [] [] (zE (dZ 61 8)<|zZ) ?_
 refine jB<|kx [(3,(.own 0 61 8 0))] [(0,some (cC jI []))] (zO 0 61 8<|zZ) ?_
 refine jB<|jB<|kx [(6,(vl 45 4 jK l)),(7,(jV l.length)),(8,(jV 0))] [] (zM<|zE (vC uI)<|zM<|zZ) ?_
 refine jH<|kL (α:=Nat × List jW) (fun (i,o)=>⟨[(3,(.own 0 61 8 o.length)),(6,(vl 45 4 jK l)),(7,(jV l.length)),(8,(jV i))],[(0,some (cC jI o))]⟩) (fun (i,o)=>i≤l.length∧o=(l.take i).map (fun x=>jW.mk x x)) (fun (i,o)=>l.length-i) (0,[]) wk ⟨Nat.zero_le _,by simp⟩ ?_
 rintro ⟨i,o⟩ ⟨hi,ho⟩
 have hol:o.length=i:=by rw[ho,List.length_map,List.length_take];omega
 refine jB<|kx [(9,(vb (decide (((i:Nat):Int)<((l.length:Nat):Int)))))] [] (zE xT<|zZ) ?_
 refine jB<|jF rfl (fun h1=>?_) (fun h1=>?_)
 ·replace h1:=vI h1
  refine jD<|jB<|jH<|jB<|kx [(5,(.ref 1 0))] [(1,some (bx (jK (l.getD i y1))))] (zE (yL uI i y1)<|zE (nA jS)<|zH (uB 1 uL uQ)<|zT (qD jS)<|zZ) ?_
  refine kf [(3,(.own 0 61 8 ((o++[(jW.mk (l.getD i y1) (l.getD i y1))]).length)))] [(0,some (cC jI (o++[(jW.mk (l.getD i y1) (l.getD i y1))])))] (zM<|zR (kO jS)<|zR (kO jS)<|zE (bB pl61 uC uH)<|zE (dG gN uC uH)<|zAS jI o [(jW.mk (l.getD i y1) (l.getD i y1))] rfl gN uC by61<|zM<|zF) ?_
  refine kx [(8,(jV (i+1)))] [] (zE (vY (i+1))<|zM<|zZ) ?_
  exact ⟨(i+1,o++[jW.mk (l.getD i qM) (l.getD i qM)]),wk,⟨by omega,by rw[ho];exact dJ (f:=fun x=>jW.mk x x) (by omega)⟩,(by first|omega|(dsimp only;omega))⟩
 ·replace h1:=vM h1
  refine kJ<|jB<|kx [(2,(.own 0 61 8 o.length))] [] (zM<|zM<|zZ) ?_
  refine kW (vX (t:=2) (k:=0) (es:=List.map jI o) rfl rfl (nD _ _ (fun _=>rfl)) (uT _ _ rfl) (mL jI o (fun _=>rfl) rfl)) ?_
  refine jE ⟨_,(.tmp (d:=(.sl 61 8 (List.map jI o))) rfl .nil),?_⟩
  rw[ho,show i=l.length by omega,List.take_length];rfl
theorem by83:yI Tryz.prog 83=some 88:=by kernel_rfl
theorem pl83:dT Tryz.prog 83=some [(0,1),(1,1),(2,1),(3,4)]:=by kernel_rfl
end Go.Proofs.YtnajallgoaiahaaGreatDoor
namespace Go.Fid
def vV(xs L:List Rat)(x:kN):Rat :=
 if x.op=1 then xs.getD x.a.toNat 0
 else if x.op=2 then L.getD x.a.toNat 0+L.getD x.b.toNat 0
 else if x.op=3 then L.getD x.a.toNat 0-L.getD x.b.toNat 0
 else if x.op=4 then L.getD x.a.toNat 0*L.getD x.b.toNat 0
 else if x.op=6 then -(L.getD x.a.toNat 0)
 else if x.op=7 then L.getD x.a.toNat 0*L.getD x.a.toNat 0
 else if x.op=5 then L.getD x.a.toNat 0 / L.getD x.b.toNat 0
 else qJ x.n
def vU(xs:List Rat)(t:List kN):Nat→List Rat
 |0=>[]
 |k+1=>vU xs t k++[vV xs (vU xs t k) (t.getD k tz)]
theorem vU_len(xs:List Rat)(t:List kN):∀ k,(vU xs t k).length=k
 |0=>rfl
 |k+1=>by rw[vU,List.length_append,vU_len xs t k];rfl
structure VUp (xs:List Rat) (t:List kN) (k:Nat):Prop where
 ok:∀ i,i<k→QL (vV xs (vU xs t i) (t.getD i tz)) 1048576
 dz:∀ i,i<k→(t.getD i tz).op=5→(vU xs t i).getD (t.getD i tz).b.toNat 0≠0
structure VRun (xs:List Rat) (t:List kN):Prop where
 c0:mP ((xs.length:Nat):Int) t=0
 up:VUp xs t t.length
structure VFail (xs:List Rat) (t:List kN) (k:Nat):Prop where
 c0:mP ((xs.length:Nat):Int) t=0
 hk:k<t.length
 up:VUp xs t k
 op:(t.getD k tz).op=5
 z:(vU xs t k).getD (t.getD k tz).b.toNat 0=0
theorem VUp.le{xs:List Rat}{t:List kN}{k j:Nat}(h:VUp xs t k)(hj:j≤k):VUp xs t j:=⟨fun i hi=>h.ok i (by omega),fun i hi=>h.dz i (by omega)⟩
theorem VUp.all{xs:List Rat}{t:List kN}:∀ {k},VUp xs t k→∀ q∈vU xs t k,QL q 1048576
 |0,_,q,hq=>by simp [vU] at hq
 |k+1,h,q,hq=>by
  rw[vU,List.mem_append] at hq
  rcases hq with hq | hq
  ·exact (h.le (Nat.le_succ k)).all q hq
  ·rw[List.mem_singleton] at hq;subst hq
   exact h.ok k (by omega)
def lastV(xs:List Rat)(t:List kN):Rat:=(vU xs t t.length).getD (t.length-1) 0
theorem qlg{l:List Rat}{n:Nat}(h:∀ q∈l,QL q n)(h1:1≤n)(j:Nat):QL (l.getD j 0) n:=by
 rcases Nat.lt_or_ge j l.length with hj | hj
 ·rw[List.getD_eq_getElem?_getD,List.getElem?_eq_getElem hj];exact h _ (List.getElem_mem _)
 ·rw[List.getD_eq_getElem?_getD,List.getElem?_eq_none (by omega)];exact vR mJ h1
theorem VRun.last{xs:List Rat}{t:List kN}(h:VRun xs t):QL (lastV xs t) 1048576:=qlg h.up.all (by decide) _
def szs(t:List kN):List Int:=yY t t.length
def evs(xs:List Rat)(t:List kN):List Rat:=vU xs t t.length
theorem szU_app(t:List kN)(x:kN):∀ k,k≤t.length→yY (t++[x]) k=yY t k
 |0,_=>rfl
 |k+1,h=>by
  rw[yY,yY,szU_app t x k (by omega)]
  rw[show (t++[x]).getD k tz=t.getD k tz by rw[List.getD_eq_getElem?_getD,List.getElem?_append_left (by omega),← List.getD_eq_getElem?_getD]]
theorem vU_app(xs:List Rat)(t:List kN)(x:kN):∀ k,k≤t.length→vU xs (t++[x]) k=vU xs t k
 |0,_=>rfl
 |k+1,h=>by
  rw[vU,vU,vU_app xs t x k (by omega)]
  rw[show (t++[x]).getD k tz=t.getD k tz by rw[List.getD_eq_getElem?_getD,List.getElem?_append_left (by omega),← List.getD_eq_getElem?_getD]]
theorem snoc_get(t:List kN)(x:kN):(t++[x]).getD t.length tz=x:=by
 rw[List.getD_eq_getElem?_getD,List.getElem?_append_right (Nat.le_refl _),Nat.sub_self];rfl
theorem snoc_old(t:List kN)(x:kN){k:Nat}(h:k<t.length):(t++[x]).getD k tz=t.getD k tz:=by
 rw[List.getD_eq_getElem?_getD,List.getElem?_append_left h,← List.getD_eq_getElem?_getD]
theorem szs_snoc(t:List kN)(x:kN):szs (t++[x])=szs t++[eM (szs t) x]:=by
 unfold szs
 rw[List.length_append,List.length_singleton,yY,szU_app t x _ (Nat.le_refl _),snoc_get]
theorem evs_snoc(xs:List Rat)(t:List kN)(x:kN):evs xs (t++[x])=evs xs t++[vV xs (evs xs t) x]:=by
 unfold evs
 rw[List.length_append,List.length_singleton,vU,vU_app xs t x _ (Nat.le_refl _),snoc_get]
theorem szs_len(t:List kN):(szs t).length=t.length:=uU _ _
theorem evs_len(xs:List Rat)(t:List kN):(evs xs t).length=t.length:=vU_len _ _ _
structure GT (xs:List Rat) (z:Int) (t:List kN):Prop where
 nd:eN z t t.length
 up:VUp xs t t.length
theorem GT.nil(xs:List Rat)(z:Int):GT xs z []:=⟨fun i h=>absurd h (Nat.not_lt_zero i),⟨fun i h=>absurd h (Nat.not_lt_zero i),fun i h=>absurd h (Nat.not_lt_zero i)⟩⟩
theorem nd_snoc{z:Int}{t:List kN}{x:kN}(h:eN z t t.length)(hn:ndC z (szs t) x=0):eN z (t++[x]) (t++[x]).length:=fun i hi=>by
 rw[List.length_append,List.length_singleton] at hi
 rw[szU_app t x i (by omega)]
 rcases Nat.lt_or_ge i t.length with h1 | h1
 ·rw[snoc_old t x h1];exact h i h1
 ·obtain rfl:i=t.length:=by omega
  rw[snoc_get];exact hn
theorem up_snoc{xs:List Rat}{t:List kN}{x:kN}(h:VUp xs t t.length):VUp xs (t++[x]) t.length:=⟨fun i hi=>by
  rw[vU_app xs t x i (by omega),snoc_old t x hi];exact h.ok i hi,fun i hi=>by
  rw[vU_app xs t x i (by omega),snoc_old t x hi];exact h.dz i hi⟩
theorem GT.snoc{xs:List Rat}{z:Int}{t:List kN}{x:kN}(h:GT xs z t)(hn:ndC z (szs t) x=0)(hq:QL (vV xs (evs xs t) x) 1048576)(hz:x.op=5→(evs xs t).getD x.b.toNat 0≠0):GT xs z (t++[x]) :=
 ⟨nd_snoc h.nd hn,⟨fun i hi=>by
  rw[List.length_append,List.length_singleton] at hi
  rcases Nat.lt_or_ge i t.length with h1 | h1
  ·exact (up_snoc h.up).ok i h1
  ·obtain rfl:i=t.length:=by omega
   rw[snoc_get,vU_app xs t x _ (Nat.le_refl _)];exact hq,fun i hi=>by
  rw[List.length_append,List.length_singleton] at hi
  rcases Nat.lt_or_ge i t.length with h1 | h1
  ·exact (up_snoc h.up).dz i h1
  ·obtain rfl:i=t.length:=by omega
   rw[snoc_get,vU_app xs t x _ (Nat.le_refl _)];exact hz⟩⟩
structure NdV (xs:List Rat) (t:List kN) (i:Int) (v:Rat) (s:Int) (n:Nat):Prop where
 lo:0≤i
 hi:i<t.length
 vl:(evs xs t).getD i.toNat 0=v
 s1:1≤(szs t).getD i.toNat 0
 sb:(szs t).getD i.toNat 0≤s
 qb:QL v n
theorem NdV.snoc{xs:List Rat}{t:List kN}{i:Int}{v:Rat}{s:Int}{n:Nat}(h:NdV xs t i v s n)(x:kN):NdV xs (t++[x]) i v s n:=by
 have h1:=h.lo;have h2:=h.hi
 refine ⟨h1,by rw[List.length_append];omega,?_,?_,?_,h.qb⟩
 ·rw[evs_snoc,List.getD_eq_getElem?_getD,List.getElem?_append_left (by rw[evs_len];omega),← List.getD_eq_getElem?_getD];exact h.vl
 ·rw[szs_snoc,List.getD_eq_getElem?_getD,List.getElem?_append_left (by rw[szs_len];omega),← List.getD_eq_getElem?_getD];exact h.s1
 ·rw[szs_snoc,List.getD_eq_getElem?_getD,List.getElem?_append_left (by rw[szs_len];omega),← List.getD_eq_getElem?_getD];exact h.sb
theorem NdV.up{xs:List Rat}{t:List kN}{i:Int}{v:Rat}{s s':Int}{n n':Nat}(h:NdV xs t i v s n)(hs:s≤s')(hn:n≤n'):NdV xs t i v s' n':=⟨h.lo,h.hi,h.vl,h.s1,Int.le_trans h.sb hs,vR h.qb hn⟩
abbrev tn1 (o a b:Int):kN:=⟨o,a,b,zr⟩
def opT(o:Int)(L:List kN)(a b:Nat→Int):Nat→List kN
 |0=>L
 |i+1=>opT o L a b i++[tn1 o (a i) (b i)]
def opI(m n:Nat):List Int:=(List.range n).map fun i=>((m+i:Nat):Int)
def smI(m:Nat)(f:Int)(i:Nat):Int:=if i=0 then f else ((m+i-1:Nat):Int)
def smT(L:List kN)(f:Int)(r:List Int)(n:Nat):List kN:=opT 2 L (smI L.length f) (fun i=>r.getD i 0) n
def sqT(L:List kN)(l:List Int):List kN:=opT 7 L (fun i=>l.getD i 0) (fun _=>0) l.length
def pdT(L:List kN)(a b:List Int):List kN:=opT 4 L (fun i=>a.getD i 0) (fun i=>b.getD i 0) a.length
def ssT(L:List kN)(l:List Int):List kN:=smT (sqT L l) ((opI L.length l.length).getD 0 0) ((opI L.length l.length).drop 1) (l.length-1)
def spT(L:List kN)(a b:List Int):List kN:=smT (pdT L a b) ((opI L.length a.length).getD 0 0) ((opI L.length a.length).drop 1) (a.length-1)
theorem NdV.op{xs:List Rat}{t:List kN}{j:Int}{v:Rat}{s:Int}{n:Nat}(h:NdV xs t j v s n)(o:Int)(a b:Nat→Int):∀ i,NdV xs (opT o t a b i) j v s n
 |0=>h
 |i+1=>(h.op o a b i).snoc _
theorem NdV.ss{xs:List Rat}{t:List kN}{j:Int}{v:Rat}{s:Int}{n:Nat}(h:NdV xs t j v s n)(l:List Int):NdV xs (ssT t l) j v s n:=(h.op _ _ _ _).op _ _ _ _
theorem NdV.sp{xs:List Rat}{t:List kN}{j:Int}{v:Rat}{s:Int}{n:Nat}(h:NdV xs t j v s n)(a b:List Int):NdV xs (spT t a b) j v s n:=(h.op _ _ _ _).op _ _ _ _
theorem GT.c0{xs:List Rat}{z:Int}{t:List kN}(h:GT xs z t)(hz:0≤z∧z≤64)(h1:t.length≠0)(h4:t.length≤400):mP z t=0:=(tm_yes (by omega) h1 (by omega) h.nd).1
theorem GT.run{xs:List Rat}{t:List kN}(h:GT xs ((xs.length:Nat):Int) t)(hz:xs.length≤64)(h1:t.length≠0)(h4:t.length≤400):VRun xs t:=⟨h.c0 (by omega) h1 h4,h.up⟩
def okL(z:Int)(n:Nat)(a:List Int):Prop:=a.length=n∧∀ j,j<n→0≤a.getD j 0∧a.getD j 0<z
def crK(k:Int):Bool:=decide (k<0)||decide (64≤k)
theorem crK_of{a:List Int}(h:a.any crK=false){j:Nat}(hj:j<a.length):0≤a.getD j 0∧a.getD j 0<64:=by
 have:=List.any_eq_false.1 h (a.getD j 0) (by rw[List.getD_eq_getElem?_getD,List.getElem?_eq_getElem hj];exact List.getElem_mem _)
 unfold crK at this
 rw[Bool.not_eq_true,Bool.or_eq_false_iff,decide_eq_false_iff_not,decide_eq_false_iff_not] at this
 omega
structure CrOk (ls:List (List Int)) (n:Nat):Prop where
 n1:1≤n
 n3:n≤3
 all:∀ a∈ls,a.length=n∧a.any crK=false
theorem CrOk.le{ls:List (List Int)}{n:Nat}(h:CrOk ls n){a:List Int}(ha:a∈ls){z:Int}(hb:∀ k∈a,¬ (8<k∧k<64))(hz:z=9):okL z n a:=by
 obtain ⟨h1,h2⟩:=h.all a ha
 refine ⟨h1,fun j hj=>?_⟩
 have:=crK_of h2 (j:=j) (by omega)
 have:=hb (a.getD j 0) (by rw[List.getD_eq_getElem?_getD,List.getElem?_eq_getElem (by omega)];exact List.getElem_mem _)
 omega
end Go.Fid
namespace Go.Proofs.YtnajallgoaiahaaGreatDoor
open Go.Fid
end Go.Proofs.YtnajallgoaiahaaGreatDoor
