/- Part 13 of a proof: rules, plain facts, and functions walked. -/
import Derived.Test.YtckccjhflbljgaaGreatDoorM12
import Derived.Test.YtckccjhflbljgaaGreatDoorM1
import Derived.Test.YtckccjhflbljgaaGreatDoorM5
import Derived.Test.YtckccjhflbljgaaGreatDoorM9
import Derived.RangeFuncFrom
import Derived.RangeFuncLeaves
import Derived.RangeFuncBound
import Derived.OwnWalkIn
import Derived.TacticsInMore
import Derived.LoopNIn
import Derived.LoopIn
import Derived.Shelf.RegionOpen
import Derived.Lib.BufferKept
import Derived.Lib.BufferOld
set_option linter.all false
namespace Go.Fid
open List
def dgs:Nat->Nat->List UInt8
 |0,_=>[]
 |f+1,n=>if n<10 then [UInt8.ofNat (48+n)] else dgs f (n / 10)++[UInt8.ofNat (48+n % 10)]
def itN(n:Nat):List UInt8:=dgs 20 n
def lN(n:Nat):List UInt8:=replicate (9-(itN n).length) 48++itN n
def txG:List Nat->List UInt8
 |[]=>[]
 |d::l=>itN d++(l.map lN).flatten
def txN(n:Nat):List UInt8:=if (ofNat n).length=0 then [48] else txG (ofNat n).reverse
def aL(z:Int):List UInt8:=if z<0 then 45::txN z.natAbs else txN z.natAbs
def txQ(q:Rat):ByteArray:=⟨(if q.den=1 then aL q.num else aL q.num++47::aL q.den).toArray⟩
structure uT where
 tm:List jS
 kn:List ((Int × Int × Int) × Int)
 os:List (ByteArray × Int)
 us:List Int
 ov:Bool
def rb0:uT:=⟨[],[],[],[],false⟩
def qR(B:uT)(n:jS)(s:Int):uT × Int:=if 4096<s\/400<=B.tm.length then ({ B with ov:=true },0) else ({ B with tm:=B.tm++[n],us:=B.us++[s] },(B.tm.length:Int))
def vW(B:uT)(q:Rat):uT × Int:=match xR B.os (txQ q) with
 |some i=>(B,i)
 |none=>let r:=qR B ⟨0,0,0,jM q⟩ 1;({ r.1 with os:=r.1.os++[(txQ q,r.2)] },r.2)
def bIs(B:uT)(i:Int)(n:Int):Bool:=(decide (i<(B.tm.length:Int))&&((B.tm.getD i.toNat tz).op == 0))&&(gE (qS (B.tm.getD i.toNat tz).n) (n:Rat) == 0)
def bSz(B:uT)(o i k:Int):Int:=if o=6 then B.us.getD i.toNat 0 else if o=7 then 2*B.us.getD i.toNat 0 else if qB o=2 then B.us.getD i.toNat 0+B.us.getD k.toNat 0 else 1
def jK(B:uT)(o i k:Int):uT × Int:=match xR B.kn (o,i,k) with
 |some v=>(B,v)
 |none=>if B.ov=true then (B,0) else let r:=qR B ⟨o,i,k,zr⟩ (bSz B o i k);({ r.1 with kn:=r.1.kn++[((o,i,k),r.2)] },r.2)
def gD(B:uT)(i k:Int):uT × Int:=if bIs B i 0=true then (B,k) else if bIs B k 0=true then (B,i) else jK B 2 i k
def qV(B:uT)(i k:Int):uT × Int:=if bIs B k 0=true then (B,i) else if bIs B i 0=true then jK B 6 k 0 else jK B 3 i k
def kA(B:uT)(i k:Int):uT × Int:=if (bIs B i 0||bIs B k 1)=true then (B,i) else if (bIs B k 0||bIs B i 1)=true then (B,k) else jK B 4 i k
def gI(L:List Int)(z:Int):Int:=L.getD z.toNat 0
def aY(i z o:Int)(B:uT)(V S:List Int)(x:jS):uT × Int × Int :=
 if x.op=0 then let r:=vW B (qS x.n);(r.1,r.2,z)
 else if x.op=1 then let r:=jK B 1 x.a 0;(r.1,r.2,if x.a=i then o else z)
 else if x.op=6 then let r:=jK B 6 (gI V x.a) 0;let d:=qV r.1 z (gI S x.a);(d.1,r.2,d.2)
 else if x.op=7 then
  let r:=jK B 7 (gI V x.a) 0;let p:=kA r.1 (gI V x.a) (gI S x.a)
  if p.2=z then (p.1,r.2,z) else let w:=vW p.1 ((2:Int):Rat);let u:=kA w.1 w.2 p.2;(u.1,r.2,u.2)
 else if x.op=2 then let r:=jK B 2 (gI V x.a) (gI V x.b);let d:=gD r.1 (gI S x.a) (gI S x.b);(d.1,r.2,d.2)
 else if x.op=3 then let r:=jK B 3 (gI V x.a) (gI V x.b);let d:=qV r.1 (gI S x.a) (gI S x.b);(d.1,r.2,d.2)
 else if x.op=4 then
  let r:=jK B 4 (gI V x.a) (gI V x.b);let p:=kA r.1 (gI V x.a) (gI S x.b);let q:=kA p.1 (gI V x.b) (gI S x.a);let d:=gD q.1 p.2 q.2
  (d.1,r.2,d.2)
 else
  let r:=jK B 5 (gI V x.a) (gI V x.b);let p:=kA r.1 r.2 (gI S x.b);let d:=qV p.1 (gI S x.a) p.2
  if bIs d.1 d.2 0=true then (d.1,r.2,z) else let q:=jK d.1 5 d.2 (gI V x.b);(q.1,r.2,q.2)
def gQ:uT × Int:=vW rb0 ((0:Int):Rat)
def dOn:uT × Int:=vW gQ.1 ((1:Int):Rat)
def dU(i:Int)(t:List jS):Nat->uT × List Int × List Int
 |0=>(dOn.1,[],[])
 |k+1=>let r:=dU i t k;let d:=aY i gQ.2 dOn.2 r.1 r.2.1 r.2.2 (t.getD k tz);(d.1,r.2.1++[d.2.1],r.2.2++[d.2.2])
def ndS(t:List jS)(nd:List Bool)(i:Nat):List Bool :=
 if nd.getD i false=false then nd
 else if 0<qB (t.getD i tz).op then
  if 1<qB (t.getD i tz).op then (nd.set (t.getD i tz).a.toNat true).set (t.getD i tz).b.toNat true else nd.set (t.getD i tz).a.toNat true
 else nd
def ndL(t:List jS)(nd:List Bool):Nat->List Bool
 |0=>nd
 |i+1=>ndL t (ndS t nd i) i
def ndA(t:List jS)(at_:Nat):List Bool:=ndL t ((replicate t.length false).set at_ true) (at_+1)
def rnN(nm:List Int)(x:jS):jS:=if 0<qB x.op then (if 1<qB x.op then ⟨x.op,nm.getD x.a.toNat 0,nm.getD x.b.toNat 0,x.n⟩ else ⟨x.op,nm.getD x.a.toNat 0,x.b,x.n⟩) else x
def tmS(t:List jS)(nd:List Bool)(r:List Int × List jS)(i:Nat):List Int × List jS :=
 if nd.getD i false=false then r else (r.1.set i (r.2.length:Int),r.2++[rnN r.1 (t.getD i tz)])
def tmF(t:List jS)(nd:List Bool):Nat->List Int × List jS
 |0=>(replicate t.length 0,[])
 |k+1=>tmS t nd (tmF t nd k) k
def yY(t:List jS)(at_:Nat):List jS:=(tmF t (ndA t at_) (at_+1)).2
def drvT(i:Int)(t:List jS):List jS:=let r:=dU i t t.length;yY r.1.tm (gI r.2.2 ((t.length:Int)-1)).toNat
def dOv(i:Int)(t:List jS):Bool:=(range t.length).any λk=>(dU i t (k+1)).1.ov
def eP(x:jS)(j:Nat):Prop:=(0<qB x.op->0<=x.a/\x.a<(j:Int))/\(1<qB x.op->0<=x.b/\x.b<(j:Int))
structure RBI (B:uT):Prop where
 hl:B.tm.length<=400
 hu:B.us.length=B.tm.length
 hs:∀ j,j<B.us.length->1<=B.us.getD j 0/\B.us.getD j 0<=4096
 hq:∀ x∈B.tm,yB x.n (qS x.n) 1048576
 ho:∀ j,j<B.tm.length->eP (B.tm.getD j tz) j
 hk:∀ e∈B.kn,0<=e.2/\e.2<(B.tm.length:Int)
 hos:∀ e∈B.os,0<=e.2/\e.2<(B.tm.length:Int)
theorem RBI.q{B:uT}(h:RBI B){j:Nat}(hj:j<B.tm.length):yB (B.tm.getD j tz).n (qS (B.tm.getD j tz).n) 1048576:=by
 rw[getD_eq_getElem?_getD,getElem?_eq_getElem hj];exact h.hq _ (getElem_mem _)
def gV(B:uT)(i:Int):Prop:=0<=i/\i<(B.tm.length:Int)
def Ok3(B:uT)(r:uT × Int):Prop:=RBI r.1/\gV r.1 r.2/\B.tm.length<=r.1.tm.length
theorem gV.up{B B':uT}{i:Int}(h:gV B i)(hl:B.tm.length<=B'.tm.length):gV B' i:=⟨h.1,by have:=h.2;omega⟩
theorem Ok3.ix{B:uT}{r:uT × Int}(h:Ok3 B r){i:Int}(hi:gV B i):gV r.1 i:=hi.up h.2.2
theorem rbi0:RBI rb0:=⟨by decide,rfl,λj h=>absurd h (Nat.not_lt_zero j),by intro x h;(cases h),λj h=>absurd h (Nat.not_lt_zero j),by intro e h;(cases h),by intro e h;(cases h)⟩
theorem ok3_self{B:uT}{i:Int}(hB:RBI B)(hi:gV B i):Ok3 B (B,i):=⟨hB,hi,Nat.le_refl _⟩
theorem bAdd_t{B:uT}{x:jS}{z:Int}(h:(decide (4096<z)||decide (((400:Nat):Int)<=((B.tm.length:Nat):Int)))=true):qR B x z=(uT.mk B.tm B.kn B.os B.us true,0):=by
 rw[Bool.or_eq_true,decide_eq_true_eq,decide_eq_true_eq] at h
 exact if_pos (by omega)
theorem bAdd_f{B:uT}{x:jS}{z:Int}(h:(decide (4096<z)||decide (((400:Nat):Int)<=((B.tm.length:Nat):Int)))=false):qR B x z=(uT.mk (B.tm++[x]) B.kn B.os (B.us++[z]) B.ov,((B.tm.length:Nat):Int)):=by
 rw[Bool.or_eq_false_iff,decide_eq_false_iff_not,decide_eq_false_iff_not] at h
 exact if_neg (by omega)
theorem qC{α:Type}(l:List α)(x d:α)(j:Nat):(l++[x]).getD j d=if j<l.length then l.getD j d else if j=l.length then x else d:=by
 rw[getD_eq_getElem?_getD]
 split
 ·rename_i h;rw[getElem?_append_left h,<- getD_eq_getElem?_getD]
 ·rename_i h
  rw[getElem?_append_right (by omega)]
  split
  ·rename_i h2;rw[h2,Nat.sub_self];rfl
  ·rename_i h2
   rw[getElem?_eq_none (by simp;omega)];rfl
theorem bAdd_ok{B:uT}{x:jS}{z:Int}(hB:RBI B)(hx:yB x.n (qS x.n) 1048576)(ho:eP x B.tm.length)(h1:1<=z)(hz:4096<z->0<B.tm.length):Ok3 B (qR B x z):=by
 have hl:=hB.hl;have hu:=hB.hu
 unfold qR
 split
 ·rename_i h
  exact ⟨⟨hB.hl,hB.hu,hB.hs,hB.hq,hB.ho,hB.hk,hB.hos⟩,⟨Int.le_refl _,show (0:Int)<((B.tm.length:Nat):Int) by rcases h with h | h;have:=hz h;omega;omega⟩,Nat.le_refl _⟩
 ·rename_i h
  refine ⟨⟨?_,?_,λj hj=>?_,λy hy=>?_,λj hj=>?_,λe he=>?_,λe he=>?_⟩,⟨Int.natCast_nonneg _,?_⟩,?_⟩
  ·show (B.tm++[x]).length<=400
   rw[length_append,length_singleton];omega
  ·show (B.us++[z]).length=(B.tm++[x]).length
   rw[length_append,length_append,hu];rfl
  ·show 1<=(B.us++[z]).getD j 0/\(B.us++[z]).getD j 0<=4096
   have hj:j<(B.us++[z]).length:=hj
   rw[length_append,length_singleton] at hj
   rw[qC]
   split
   ·rename_i h2;exact hB.hs j h2
   ·rw[if_pos (by omega)];omega
  ·have hy:y∈B.tm++[x]:=hy
   rw[mem_append,mem_singleton] at hy
   rcases hy with hy | hy
   ·exact hB.hq y hy
   ·subst hy;exact hx
  ·show eP ((B.tm++[x]).getD j tz) j
   have hj:j<(B.tm++[x]).length:=hj
   rw[length_append,length_singleton] at hj
   rw[qC]
   split
   ·rename_i h2;exact hB.ho j h2
   ·rw[if_pos (by omega),show j=B.tm.length by omega];exact ho
  ·have:=hB.hk e he
   refine ⟨this.1,?_⟩
   show e.2<(((B.tm++[x]).length:Nat):Int)
   rw[length_append,length_singleton];omega
  ·have:=hB.hos e he
   refine ⟨this.1,?_⟩
   show e.2<(((B.tm++[x]).length:Nat):Int)
   rw[length_append,length_singleton];omega
  ·show ((B.tm.length:Nat):Int)<(((B.tm++[x]).length:Nat):Int)
   rw[length_append,length_singleton];omega
  ·show B.tm.length<=(B.tm++[x]).length
   rw[length_append];omega
theorem bNum_t{B:uT}{q:Rat}(h:(xR B.os (txQ q)).isSome=true):vW B q=(B,(xR B.os (txQ q)).getD 0):=by
 unfold vW
 cases hg:xR B.os (txQ q) with
 |none=>rw[hg] at h;cases h
 |some v=>rfl
theorem bNum_f{B:uT}{q:Rat}(h:(xR B.os (txQ q)).isSome=false):vW B q=(uT.mk (qR B ⟨0,0,0,jM q⟩ 1).1.tm (qR B ⟨0,0,0,jM q⟩ 1).1.kn ((qR B ⟨0,0,0,jM q⟩ 1).1.os++[(txQ q,(qR B ⟨0,0,0,jM q⟩ 1).2)]) (qR B ⟨0,0,0,jM q⟩ 1).1.us (qR B ⟨0,0,0,jM q⟩ 1).1.ov,(qR B ⟨0,0,0,jM q⟩ 1).2):=by
 unfold vW
 cases hg:xR B.os (txQ q) with
 |none=>rfl
 |some v=>rw[hg] at h;cases h
theorem bAdd_os(B:uT)(x:jS)(z:Int):(qR B x z).1.os=B.os/\(qR B x z).1.kn=B.kn:=by
 unfold qR;split<;>exact ⟨rfl,rfl⟩
theorem getK_ok{κ:Type}[DecidableEq κ]{l:List (κ × Int)}{a:κ}{n:Nat}(h:∀ e∈l,0<=e.2/\e.2<(n:Int))(hs:(xR l a).isSome=true):0<=(xR l a).getD 0/\(xR l a).getD 0<(n:Int):=by
 cases hg:xR l a with
 |none=>rw[hg] at hs;cases hs
 |some v=>exact h _ (getK_mem hg)
theorem bNum_ok{B:uT}{q:Rat}(hB:RBI B)(hq:QL q 1048576):Ok3 B (vW B q):=by
 cases hs:(xR B.os (txQ q)).isSome with
 |true=>rw[bNum_t hs];exact ⟨hB,getK_ok hB.hos hs,Nat.le_refl _⟩
 |false=>
  rw[bNum_f hs]
  obtain ⟨h1,h2,h3⟩:=bAdd_ok (x:=⟨0,0,0,jM q⟩) (z:=1) hB (uW (jZ hq)) ⟨λh=>absurd h (show ¬ 0<qB 0 by decide),λh=>absurd h (show ¬ 1<qB 0 by decide)⟩ (by decide) (λh=>absurd h (by decide))
  refine ⟨⟨h1.hl,h1.hu,h1.hs,h1.hq,h1.ho,h1.hk,λe he=>?_⟩,h2,h3⟩
  have he:e∈(qR B ⟨0,0,0,jM q⟩ 1).1.os++[(txQ q,(qR B ⟨0,0,0,jM q⟩ 1).2)]:=he
  rw[mem_append,mem_singleton] at he
  rcases he with he | he
  ·exact h1.hos e he
  ·subst he;exact h2
theorem oA{B:uT}{o i k:Int}(h:((xR B.kn (o,i,k)).isSome||B.ov)=true):jK B o i k=(B,(xR B.kn (o,i,k)).getD 0):=by
 unfold jK
 cases hg:xR B.kn (o,i,k) with
 |none=>rw[hg] at h;exact if_pos (by simpa using h)
 |some v=>rfl
theorem bNode_f{B:uT}{o i k z:Int}(h:((xR B.kn (o,i,k)).isSome||B.ov)=false)(hz:z=bSz B o i k):jK B o i k=(uT.mk (qR B ⟨o,i,k,zr⟩ z).1.tm ((qR B ⟨o,i,k,zr⟩ z).1.kn++[((o,i,k),(qR B ⟨o,i,k,zr⟩ z).2)]) (qR B ⟨o,i,k,zr⟩ z).1.os (qR B ⟨o,i,k,zr⟩ z).1.us (qR B ⟨o,i,k,zr⟩ z).1.ov,(qR B ⟨o,i,k,zr⟩ z).2):=by
 subst hz
 rw[Bool.or_eq_false_iff] at h
 unfold jK
 cases hg:xR B.kn (o,i,k) with
 |none=>exact if_neg (by rw[h.2];decide)
 |some v=>rw[hg] at h;cases h.1
def NdAr(B:uT)(o i k:Int):Prop:=(o=1/\k=0/\0<B.tm.length)\/(2<=o/\o<=7/\gV B i/\gV B k)
theorem qok_zr:yB zr (qS zr) 1048576:=qok_raw (by decide) (by decide) (by decide)
theorem NdAr.sz{B:uT}(hB:RBI B){o i k:Int}(h:NdAr B o i k):1<=bSz B o i k/\bSz B o i k<=8192:=by
 have hu:=hB.hu
 unfold bSz
 rcases h with ⟨rfl,rfl,_⟩ | ⟨h1,h2,hi,hk⟩
 ·simp [qB]
 ·have a:=hB.hs i.toNat (by have:=hi.1;have:=hi.2;omega)
  have b:=hB.hs k.toNat (by have:=hk.1;have:=hk.2;omega)
  split
  ·omega
  ·split
   ·omega
   ·split<;>omega
theorem NdAr.ge2{B:uT}(hB:RBI B){o i k:Int}(h:NdAr B o i k)(ho:o≠1):gV B i/\gV B k/\(1<=B.us.getD i.toNat 0/\B.us.getD i.toNat 0<=4096)/\(1<=B.us.getD k.toNat 0/\B.us.getD k.toNat 0<=4096):=by
 have hu:=hB.hu
 rcases h with ⟨rfl,_⟩ | ⟨h1,h2,hi,hk⟩
 ·exact absurd rfl ho
 ·exact ⟨hi,hk,hB.hs i.toNat (by have:=hi.1;have:=hi.2;omega),hB.hs k.toNat (by have:=hk.1;have:=hk.2;omega)⟩
theorem NdAr.pos{B:uT}{o i k:Int}(h:NdAr B o i k):0<B.tm.length:=by
 rcases h with ⟨_,_,h⟩ | ⟨_,_,h,_⟩
 ·exact h
 ·have:=h.1;have:=h.2;omega
theorem NdAr.ord{B:uT}{o i k:Int}(h:NdAr B o i k):eP ⟨o,i,k,zr⟩ B.tm.length:=by
 rcases h with ⟨rfl,rfl,_⟩ | ⟨h1,h2,hi,hk⟩
 ·exact ⟨λh=>absurd h (show ¬ 0<qB 1 by decide),λh=>absurd h (show ¬ 1<qB 1 by decide)⟩
 ·exact ⟨λ_=>hi,λ_=>hk⟩
theorem iI{B:uT}{o i k:Int}(hB:RBI B)(h:NdAr B o i k):Ok3 B (jK B o i k):=by
 cases hs:((xR B.kn (o,i,k)).isSome||B.ov) with
 |true=>
  rw[oA hs]
  refine ⟨hB,?_,Nat.le_refl _⟩
  cases hg:xR B.kn (o,i,k) with
  |none=>exact ⟨Int.le_refl _,by have:=h.pos;show (0:Int)<((B.tm.length:Nat):Int);omega⟩
  |some v=>exact hB.hk _ (getK_mem hg)
 |false=>
  rw[bNode_f hs rfl]
  obtain ⟨h1,h2,h3⟩:=bAdd_ok (x:=⟨o,i,k,zr⟩) (z:=bSz B o i k) hB qok_zr h.ord (h.sz hB).1 (λ_=>h.pos)
  refine ⟨⟨h1.hl,h1.hu,h1.hs,h1.hq,h1.ho,λe he=>?_,h1.hos⟩,h2,h3⟩
  have he:e∈(qR B ⟨o,i,k,zr⟩ (bSz B o i k)).1.kn++[((o,i,k),(qR B ⟨o,i,k,zr⟩ (bSz B o i k)).2)]:=he
  rw[mem_append,mem_singleton] at he
  rcases he with he | he
  ·exact h1.hk e he
  ·subst he;exact h2
theorem bSum_ok{B:uT}{i k:Int}(hB:RBI B)(hi:gV B i)(hk:gV B k):Ok3 B (gD B i k):=by
 unfold gD
 split
 ·exact ok3_self hB hk
 ·split
  ·exact ok3_self hB hi
  ·exact iI hB (.inr ⟨by decide,by decide,hi,hk⟩)
theorem gV.pos{B:uT}{i:Int}(h:gV B i):gV B 0:=⟨Int.le_refl _,by have:=h.1;have:=h.2;omega⟩
theorem oB{B:uT}{i k:Int}(hB:RBI B)(hi:gV B i)(hk:gV B k):Ok3 B (qV B i k):=by
 unfold qV
 split
 ·exact ok3_self hB hi
 ·split
  ·exact iI hB (.inr ⟨by decide,by decide,hk,hk.pos⟩)
  ·exact iI hB (.inr ⟨by decide,by decide,hi,hk⟩)
theorem mH{B:uT}{i k:Int}(hB:RBI B)(hi:gV B i)(hk:gV B k):Ok3 B (kA B i k):=by
 unfold kA
 split
 ·exact ok3_self hB hi
 ·split
  ·exact ok3_self hB hk
  ·exact iI hB (.inr ⟨by decide,by decide,hi,hk⟩)
theorem bSum_1{B:uT}{i k:Int}(h:bIs B i 0=true):gD B i k=(B,k):=if_pos h
theorem bSum_2{B:uT}{i k:Int}(h:bIs B i 0=false)(h2:bIs B k 0=true):gD B i k=(B,i):=by unfold gD;rw[if_neg (by rw[h];decide),if_pos h2]
theorem bSum_3{B:uT}{i k:Int}(h:bIs B i 0=false)(h2:bIs B k 0=false):gD B i k=jK B 2 i k:=by unfold gD;rw[if_neg (by rw[h];decide),if_neg (by rw[h2];decide)]
theorem bDif_1{B:uT}{i k:Int}(h:bIs B k 0=true):qV B i k=(B,i):=if_pos h
theorem bDif_2{B:uT}{i k:Int}(h:bIs B k 0=false)(h2:bIs B i 0=true):qV B i k=jK B 6 k 0:=by unfold qV;rw[if_neg (by rw[h];decide),if_pos h2]
theorem bDif_3{B:uT}{i k:Int}(h:bIs B k 0=false)(h2:bIs B i 0=false):qV B i k=jK B 3 i k:=by unfold qV;rw[if_neg (by rw[h];decide),if_neg (by rw[h2];decide)]
theorem bPrd_1{B:uT}{i k:Int}(h:(bIs B i 0||bIs B k 1)=true):kA B i k=(B,i):=if_pos h
theorem bPrd_2{B:uT}{i k:Int}(h:(bIs B i 0||bIs B k 1)=false)(h2:(bIs B k 0||bIs B i 1)=true):kA B i k=(B,k):=by unfold kA;rw[if_neg (by rw[h];decide),if_pos h2]
theorem bPrd_3{B:uT}{i k:Int}(h:(bIs B i 0||bIs B k 1)=false)(h2:(bIs B k 0||bIs B i 1)=false):kA B i k=jK B 4 i k:=by unfold kA;rw[if_neg (by rw[h];decide),if_neg (by rw[h2];decide)]
theorem bSz_6{B:uT}{o i k:Int}(h:o=6):B.us.getD i.toNat 0=bSz B o i k:=(if_pos h).symm
theorem bSz_7{B:uT}{o i k:Int}(h6:o≠6)(h:o=7):2*B.us.getD i.toNat 0=bSz B o i k:=by unfold bSz;rw[if_neg h6,if_pos h]
theorem bSz_2{B:uT}{o i k:Int}(h6:o≠6)(h7:o≠7)(h:qB o=2):B.us.getD i.toNat 0+B.us.getD k.toNat 0=bSz B o i k:=by unfold bSz;rw[if_neg h6,if_neg h7,if_pos h]
theorem bSz_1{B:uT}{o i k:Int}(h6:o≠6)(h7:o≠7)(h:qB o≠2):(1:Int)=bSz B o i k:=by unfold bSz;rw[if_neg h6,if_neg h7,if_neg h]
def OrdT(t:List jS):Prop:=∀ j,j<t.length->eP (t.getD j tz) j
theorem ndS_n{t:List jS}{nd:List Bool}{i:Nat}(h:(!(nd.getD i false))=true):ndS t nd i=nd:=if_pos (by simpa using h)
theorem ndS_0{t:List jS}{nd:List Bool}{i:Nat}(h:(!(nd.getD i false))=false)(h1:¬ 0<qB (t.getD i tz).op):ndS t nd i=nd:=by
 unfold ndS;rw[if_neg (by simpa using h),if_neg h1]
theorem ndS_1{t:List jS}{nd:List Bool}{i:Nat}(h:(!(nd.getD i false))=false)(h1:0<qB (t.getD i tz).op)(h2:¬ 1<qB (t.getD i tz).op):ndS t nd i=nd.set (t.getD i tz).a.toNat true:=by
 unfold ndS;rw[if_neg (by simpa using h),if_pos h1,if_neg h2]
theorem ndS_2{t:List jS}{nd:List Bool}{i:Nat}(h:(!(nd.getD i false))=false)(h1:0<qB (t.getD i tz).op)(h2:1<qB (t.getD i tz).op):ndS t nd i=(nd.set (t.getD i tz).a.toNat true).set (t.getD i tz).b.toNat true:=by
 unfold ndS;rw[if_neg (by simpa using h),if_pos h1,if_pos h2]
theorem ndS_len(t:List jS)(nd:List Bool)(i:Nat):(ndS t nd i).length=nd.length:=by
 unfold ndS;split
 ·rfl
 ·split
  ·split<;>simp only[length_set]
  ·rfl
theorem ndL_step{t:List jS}{nd nd2 X:List Bool}{z:Int}(h0:0<=z)(h:ndL t nd (z+1).toNat=X)(e:ndS t nd z.toNat=nd2):ndL t nd2 (z-1+1).toNat=X:=by
 rw[show (z-1+1).toNat=z.toNat by omega,<- e]
 rw[show (z+1).toNat=z.toNat+1 by omega] at h
 exact h
theorem ndL_end{t:List jS}{nd X:List Bool}{z:Int}(h0:¬ 0<=z)(h:ndL t nd (z+1).toNat=X):nd=X:=by
 rw[show (z+1).toNat=0 by omega] at h;exact h
theorem tmF_len(t:List jS)(nd:List Bool):∀ k,(tmF t nd k).1.length=t.length/\(tmF t nd k).2.length<=k
 |0=>⟨length_replicate,Nat.le_refl _⟩
 |k+1=>by
  obtain ⟨h1,h2⟩:=tmF_len t nd k
  rw[tmF];unfold tmS
  split
  ·exact ⟨h1,by omega⟩
  ·exact ⟨by rw[length_set];exact h1,by rw[length_append,length_singleton];omega⟩
theorem tmF_n{t:List jS}{nd:List Bool}{k:Nat}{nm:List Int}{o:List jS}(h:tmF t nd k=(nm,o))(hn:(!(nd.getD k false))=true):tmF t nd (k+1)=(nm,o):=by
 rw[tmF,h];exact if_pos (by simpa using hn)
theorem tmF_y{t:List jS}{nd:List Bool}{k:Nat}{nm:List Int}{o:List jS}{x:jS}(h:tmF t nd k=(nm,o))(hn:(!(nd.getD k false))=false)(hx:x=rnN nm (t.getD k tz)):tmF t nd (k+1)=(nm.set k ((o.length:Nat):Int),o++[x]):=by
 subst hx;rw[tmF,h];exact if_neg (by simpa using hn)
theorem rnN_0{nm:List Int}{x:jS}(h:¬ 0<qB x.op):x=rnN nm x:=(if_neg h).symm
theorem rnN_1{nm:List Int}{x:jS}(h:0<qB x.op)(h2:¬ 1<qB x.op):jS.mk x.op (nm.getD x.a.toNat 0) x.b x.n=rnN nm x:=by unfold rnN;rw[if_pos h,if_neg h2]
theorem rnN_2{nm:List Int}{x:jS}(h:0<qB x.op)(h2:1<qB x.op):jS.mk x.op (nm.getD x.a.toNat 0) (nm.getD x.b.toNat 0) x.n=rnN nm x:=by unfold rnN;rw[if_pos h,if_pos h2]
theorem take_getDr{α:Type}(l:List α){n k:Nat}(d:α)(h:k<n):(l.take n).getD k d=l.getD k d:=by
 rw[getD_eq_getElem?_getD,getElem?_take_of_lt h,<- getD_eq_getElem?_getD]
theorem tm_lenk{t:List jS}{nd:List Bool}{k:Nat}{nm:List Int}{o:List jS}(h:tmF t nd k=(nm,o)):nm.length=t.length/\o.length<=k:=by
 have:=tmF_len t nd k;rw[h] at this;exact this
section
variable {i z o:Int} {B:uT} {V S:List Int} {x:jS}
theorem dNd_0(h:x.op=0):aY i z o B V S x=((vW B (qS x.n)).1,(vW B (qS x.n)).2,z):=if_pos h
theorem dNd_1(h:x.op=1):aY i z o B V S x=((jK B 1 x.a 0).1,(jK B 1 x.a 0).2,if x.a=i then o else z):=by unfold aY;rw[if_neg (by omega),if_pos h]
theorem dNd_6(h:x.op=6):aY i z o B V S x=((qV (jK B 6 (gI V x.a) 0).1 z (gI S x.a)).1,(jK B 6 (gI V x.a) 0).2,(qV (jK B 6 (gI V x.a) 0).1 z (gI S x.a)).2):=by
 unfold aY;rw[if_neg (by omega),if_neg (by omega),if_pos h]
theorem dNd_7z(h:x.op=7)(hz:(kA (jK B 7 (gI V x.a) 0).1 (gI V x.a) (gI S x.a)).2=z):aY i z o B V S x=((kA (jK B 7 (gI V x.a) 0).1 (gI V x.a) (gI S x.a)).1,(jK B 7 (gI V x.a) 0).2,z):=by
 unfold aY;rw[if_neg (by omega),if_neg (by omega),if_neg (by omega),if_pos h];exact if_pos hz
theorem dNd_7(h:x.op=7)(hz:(kA (jK B 7 (gI V x.a) 0).1 (gI V x.a) (gI S x.a)).2≠z):aY i z o B V S x=((kA (vW (kA (jK B 7 (gI V x.a) 0).1 (gI V x.a) (gI S x.a)).1 ((2:Int):Rat)).1 (vW (kA (jK B 7 (gI V x.a) 0).1 (gI V x.a) (gI S x.a)).1 ((2:Int):Rat)).2 (kA (jK B 7 (gI V x.a) 0).1 (gI V x.a) (gI S x.a)).2).1,(jK B 7 (gI V x.a) 0).2,(kA (vW (kA (jK B 7 (gI V x.a) 0).1 (gI V x.a) (gI S x.a)).1 ((2:Int):Rat)).1 (vW (kA (jK B 7 (gI V x.a) 0).1 (gI V x.a) (gI S x.a)).1 ((2:Int):Rat)).2 (kA (jK B 7 (gI V x.a) 0).1 (gI V x.a) (gI S x.a)).2).2):=by
 unfold aY;rw[if_neg (by omega),if_neg (by omega),if_neg (by omega),if_pos h];exact if_neg hz
theorem dNd_2(h:x.op=2):aY i z o B V S x=((gD (jK B 2 (gI V x.a) (gI V x.b)).1 (gI S x.a) (gI S x.b)).1,(jK B 2 (gI V x.a) (gI V x.b)).2,(gD (jK B 2 (gI V x.a) (gI V x.b)).1 (gI S x.a) (gI S x.b)).2):=by
 unfold aY;rw[if_neg (by omega),if_neg (by omega),if_neg (by omega),if_neg (by omega),if_pos h]
theorem dNd_3(h:x.op=3):aY i z o B V S x=((qV (jK B 3 (gI V x.a) (gI V x.b)).1 (gI S x.a) (gI S x.b)).1,(jK B 3 (gI V x.a) (gI V x.b)).2,(qV (jK B 3 (gI V x.a) (gI V x.b)).1 (gI S x.a) (gI S x.b)).2):=by
 unfold aY;rw[if_neg (by omega),if_neg (by omega),if_neg (by omega),if_neg (by omega),if_neg (by omega),if_pos h]
theorem dNd_4(h:x.op=4):aY i z o B V S x=((gD (kA (kA (jK B 4 (gI V x.a) (gI V x.b)).1 (gI V x.a) (gI S x.b)).1 (gI V x.b) (gI S x.a)).1 (kA (jK B 4 (gI V x.a) (gI V x.b)).1 (gI V x.a) (gI S x.b)).2 (kA (kA (jK B 4 (gI V x.a) (gI V x.b)).1 (gI V x.a) (gI S x.b)).1 (gI V x.b) (gI S x.a)).2).1,(jK B 4 (gI V x.a) (gI V x.b)).2,(gD (kA (kA (jK B 4 (gI V x.a) (gI V x.b)).1 (gI V x.a) (gI S x.b)).1 (gI V x.b) (gI S x.a)).1 (kA (jK B 4 (gI V x.a) (gI V x.b)).1 (gI V x.a) (gI S x.b)).2 (kA (kA (jK B 4 (gI V x.a) (gI V x.b)).1 (gI V x.a) (gI S x.b)).1 (gI V x.b) (gI S x.a)).2).2):=by
 unfold aY;rw[if_neg (by omega),if_neg (by omega),if_neg (by omega),if_neg (by omega),if_neg (by omega),if_neg (by omega),if_pos h]
theorem dNd_5z(h:5=x.op)(hz:bIs (qV (kA (jK B 5 (gI V x.a) (gI V x.b)).1 (jK B 5 (gI V x.a) (gI V x.b)).2 (gI S x.b)).1 (gI S x.a) (kA (jK B 5 (gI V x.a) (gI V x.b)).1 (jK B 5 (gI V x.a) (gI V x.b)).2 (gI S x.b)).2).1 (qV (kA (jK B 5 (gI V x.a) (gI V x.b)).1 (jK B 5 (gI V x.a) (gI V x.b)).2 (gI S x.b)).1 (gI S x.a) (kA (jK B 5 (gI V x.a) (gI V x.b)).1 (jK B 5 (gI V x.a) (gI V x.b)).2 (gI S x.b)).2).2 0=true) :
  aY i z o B V S x=((qV (kA (jK B 5 (gI V x.a) (gI V x.b)).1 (jK B 5 (gI V x.a) (gI V x.b)).2 (gI S x.b)).1 (gI S x.a) (kA (jK B 5 (gI V x.a) (gI V x.b)).1 (jK B 5 (gI V x.a) (gI V x.b)).2 (gI S x.b)).2).1,(jK B 5 (gI V x.a) (gI V x.b)).2,z):=by
 unfold aY;rw[if_neg (by omega),if_neg (by omega),if_neg (by omega),if_neg (by omega),if_neg (by omega),if_neg (by omega),if_neg (by omega)];exact if_pos hz
theorem dNd_5(h:5=x.op)(hz:bIs (qV (kA (jK B 5 (gI V x.a) (gI V x.b)).1 (jK B 5 (gI V x.a) (gI V x.b)).2 (gI S x.b)).1 (gI S x.a) (kA (jK B 5 (gI V x.a) (gI V x.b)).1 (jK B 5 (gI V x.a) (gI V x.b)).2 (gI S x.b)).2).1 (qV (kA (jK B 5 (gI V x.a) (gI V x.b)).1 (jK B 5 (gI V x.a) (gI V x.b)).2 (gI S x.b)).1 (gI S x.a) (kA (jK B 5 (gI V x.a) (gI V x.b)).1 (jK B 5 (gI V x.a) (gI V x.b)).2 (gI S x.b)).2).2 0=false) :
  aY i z o B V S x=((jK (qV (kA (jK B 5 (gI V x.a) (gI V x.b)).1 (jK B 5 (gI V x.a) (gI V x.b)).2 (gI S x.b)).1 (gI S x.a) (kA (jK B 5 (gI V x.a) (gI V x.b)).1 (jK B 5 (gI V x.a) (gI V x.b)).2 (gI S x.b)).2).1 5 (qV (kA (jK B 5 (gI V x.a) (gI V x.b)).1 (jK B 5 (gI V x.a) (gI V x.b)).2 (gI S x.b)).1 (gI S x.a) (kA (jK B 5 (gI V x.a) (gI V x.b)).1 (jK B 5 (gI V x.a) (gI V x.b)).2 (gI S x.b)).2).2 (gI V x.b)).1,(jK B 5 (gI V x.a) (gI V x.b)).2,(jK (qV (kA (jK B 5 (gI V x.a) (gI V x.b)).1 (jK B 5 (gI V x.a) (gI V x.b)).2 (gI S x.b)).1 (gI S x.a) (kA (jK B 5 (gI V x.a) (gI V x.b)).1 (jK B 5 (gI V x.a) (gI V x.b)).2 (gI S x.b)).2).1 5 (qV (kA (jK B 5 (gI V x.a) (gI V x.b)).1 (jK B 5 (gI V x.a) (gI V x.b)).2 (gI S x.b)).1 (gI S x.a) (kA (jK B 5 (gI V x.a) (gI V x.b)).1 (jK B 5 (gI V x.a) (gI V x.b)).2 (gI S x.b)).2).2 (gI V x.b)).2):=by
 unfold aY;rw[if_neg (by omega),if_neg (by omega),if_neg (by omega),if_neg (by omega),if_neg (by omega),if_neg (by omega),if_neg (by omega)];exact if_neg (by rw[hz];decide)
end
structure DPre (k:Nat) (z o:Int) (B:uT) (V S:List Int) (x:jS):Prop where
 hB:RBI B
 hz:gV B z
 ho:gV B o
 hV:∀ j,j<k->gV B (V.getD j 0)
 hS:∀ j,j<k->gV B (S.getD j 0)
 ord:eP x k
 num:x.op=0->QL (qS x.n) 1048576
 op0:0<=x.op
 op7:x.op<=7
theorem DPre.va{k:Nat}{z o:Int}{B:uT}{V S:List Int}{x:jS}(h:DPre k z o B V S x)(hk:0<qB x.op):gV B (gI V x.a):=h.hV _ (by have:=h.ord.1 hk;omega)
theorem DPre.vb{k:Nat}{z o:Int}{B:uT}{V S:List Int}{x:jS}(h:DPre k z o B V S x)(hk:1<qB x.op):gV B (gI V x.b):=h.hV _ (by have:=h.ord.2 hk;omega)
theorem DPre.sa{k:Nat}{z o:Int}{B:uT}{V S:List Int}{x:jS}(h:DPre k z o B V S x)(hk:0<qB x.op):gV B (gI S x.a):=h.hS _ (by have:=h.ord.1 hk;omega)
theorem DPre.sb{k:Nat}{z o:Int}{B:uT}{V S:List Int}{x:jS}(h:DPre k z o B V S x)(hk:1<qB x.op):gV B (gI S x.b):=h.hS _ (by have:=h.ord.2 hk;omega)
def Ok4(B:uT)(r:uT × Int × Int):Prop:=RBI r.1/\gV r.1 r.2.1/\gV r.1 r.2.2/\B.tm.length<=r.1.tm.length
theorem nd2{B:uT}{o a b:Int}(hB:RBI B)(h1:2<=o)(h2:o<=7)(ha:gV B a)(hb:gV B b):Ok3 B (jK B o a b):=iI hB (.inr ⟨h1,h2,ha,hb⟩)
theorem ql_i{z:Int}(h:z.natAbs<1000000000:=by decide):QL ((z:Int):Rat) 1048576:=vL (Nat.le_trans (uB h) (by decide)) (by decide)
theorem dNd_ok{i:Int}{k:Nat}{z o:Int}{B:uT}{V S:List Int}{x:jS}(h:DPre k z o B V S x):Ok4 B (aY i z o B V S x):=by
 have h0:=h.op0;have h7:=h.op7
 have hc:x.op=0\/x.op=1\/x.op=2\/x.op=3\/x.op=4\/x.op=5\/x.op=6\/x.op=7:=by omega
 rcases hc with e | e | e | e | e | e | e | e
 ·rw[dNd_0 e]
  have h1:=bNum_ok h.hB (h.num e)
  exact ⟨h1.1,h1.2.1,h1.ix h.hz,h1.2.2⟩
 ·rw[dNd_1 e]
  have h1:=iI (o:=1) (i:=x.a) (k:=0) h.hB (.inl ⟨rfl,rfl,by have:=h.hz.1;have:=h.hz.2;omega⟩)
  refine ⟨h1.1,h1.2.1,?_,h1.2.2⟩
  dsimp only
  split
  ·exact h1.ix h.ho
  ·exact h1.ix h.hz
 ·rw[dNd_2 e]
  have k1:0<qB x.op:=by rw[e];decide
  have k2:1<qB x.op:=by rw[e];decide
  have h1:=nd2 h.hB (o:=2) (by decide) (by decide) (h.va k1) (h.vb k2)
  have h2:=bSum_ok h1.1 (h1.ix (h.sa k1)) (h1.ix (h.sb k2))
  exact ⟨h2.1,h2.ix h1.2.1,h2.2.1,Nat.le_trans h1.2.2 h2.2.2⟩
 ·rw[dNd_3 e]
  have k1:0<qB x.op:=by rw[e];decide
  have k2:1<qB x.op:=by rw[e];decide
  have h1:=nd2 h.hB (o:=3) (by decide) (by decide) (h.va k1) (h.vb k2)
  have h2:=oB h1.1 (h1.ix (h.sa k1)) (h1.ix (h.sb k2))
  exact ⟨h2.1,h2.ix h1.2.1,h2.2.1,Nat.le_trans h1.2.2 h2.2.2⟩
 ·rw[dNd_4 e]
  have k1:0<qB x.op:=by rw[e];decide
  have k2:1<qB x.op:=by rw[e];decide
  have h1:=nd2 h.hB (o:=4) (by decide) (by decide) (h.va k1) (h.vb k2)
  have h2:=mH h1.1 (h1.ix (h.va k1)) (h1.ix (h.sb k2))
  have h3:=mH h2.1 (h2.ix (h1.ix (h.vb k2))) (h2.ix (h1.ix (h.sa k1)))
  have h4:=bSum_ok h3.1 (h3.ix h2.2.1) h3.2.1
  exact ⟨h4.1,h4.ix (h3.ix (h2.ix h1.2.1)),h4.2.1,Nat.le_trans h1.2.2 (Nat.le_trans h2.2.2 (Nat.le_trans h3.2.2 h4.2.2))⟩
 ·have k1:0<qB x.op:=by rw[e];decide
  have k2:1<qB x.op:=by rw[e];decide
  have h1:=nd2 h.hB (o:=5) (by decide) (by decide) (h.va k1) (h.vb k2)
  have h2:=mH h1.1 h1.2.1 (h1.ix (h.sb k2))
  have h3:=oB h2.1 (h2.ix (h1.ix (h.sa k1))) h2.2.1
  cases hz:bIs (qV (kA (jK B 5 (gI V x.a) (gI V x.b)).1 (jK B 5 (gI V x.a) (gI V x.b)).2 (gI S x.b)).1 (gI S x.a) (kA (jK B 5 (gI V x.a) (gI V x.b)).1 (jK B 5 (gI V x.a) (gI V x.b)).2 (gI S x.b)).2).1 (qV (kA (jK B 5 (gI V x.a) (gI V x.b)).1 (jK B 5 (gI V x.a) (gI V x.b)).2 (gI S x.b)).1 (gI S x.a) (kA (jK B 5 (gI V x.a) (gI V x.b)).1 (jK B 5 (gI V x.a) (gI V x.b)).2 (gI S x.b)).2).2 0 with
  |true=>
   rw[dNd_5z e.symm hz]
   exact ⟨h3.1,h3.ix (h2.ix h1.2.1),h3.ix (h2.ix (h1.ix h.hz)),Nat.le_trans h1.2.2 (Nat.le_trans h2.2.2 h3.2.2)⟩
  |false=>
   rw[dNd_5 e.symm hz]
   have h4:=nd2 h3.1 (o:=5) (by decide) (by decide) h3.2.1 (h3.ix (h2.ix (h1.ix (h.vb k2))))
   exact ⟨h4.1,h4.ix (h3.ix (h2.ix h1.2.1)),h4.2.1,Nat.le_trans h1.2.2 (Nat.le_trans h2.2.2 (Nat.le_trans h3.2.2 h4.2.2))⟩
 ·rw[dNd_6 e]
  have k1:0<qB x.op:=by rw[e];decide
  have h1:=nd2 h.hB (o:=6) (by decide) (by decide) (h.va k1) (h.va k1).pos
  have h2:=oB h1.1 (h1.ix h.hz) (h1.ix (h.sa k1))
  exact ⟨h2.1,h2.ix h1.2.1,h2.2.1,Nat.le_trans h1.2.2 h2.2.2⟩
 ·have k1:0<qB x.op:=by rw[e];decide
  have h1:=nd2 h.hB (o:=7) (by decide) (by decide) (h.va k1) (h.va k1).pos
  have h2:=mH h1.1 (h1.ix (h.va k1)) (h1.ix (h.sa k1))
  by_cases hz:(kA (jK B 7 (gI V x.a) 0).1 (gI V x.a) (gI S x.a)).2=z
  ·rw[dNd_7z e hz]
   exact ⟨h2.1,h2.ix h1.2.1,h2.ix (h1.ix h.hz),Nat.le_trans h1.2.2 h2.2.2⟩
  ·rw[dNd_7 e hz]
   have h3:=bNum_ok (q:=((2:Int):Rat)) h2.1 (ql_i)
   have h4:=mH h3.1 h3.2.1 (h3.ix h2.2.1)
   exact ⟨h4.1,h4.ix (h3.ix (h2.ix h1.2.1)),h4.2.1,Nat.le_trans h1.2.2 (Nat.le_trans h2.2.2 (Nat.le_trans h3.2.2 h4.2.2))⟩
theorem nd_k{n:Int}{t:List jS}(h0:yT n t=0)(hq:∀ x∈t,yB x.n (qS x.n) 1048576){k:Nat}(hk:k<t.length) :
  eP (t.getD k tz) k/\((t.getD k tz).op=0->QL (qS (t.getD k tz).n) 1048576/\(t.getD k tz).n=jM (qS (t.getD k tz).n))/\0<=(t.getD k tz).op/\(t.getD k tz).op<=7:=by
 obtain ⟨h1,h2,h3,_⟩:=nd_0 ((dF h0).2.2.2.2 k hk)
 rw[xE] at h2
 have hqk:yB (t.getD k tz).n (qS (t.getD k tz).n) 1048576:=by
  rw[getD_eq_getElem?_getD,getElem?_eq_getElem hk];exact hq _ (getElem_mem _)
 generalize t.getD k tz=x at *
 unfold dI at h1
 unfold eA at h2
 refine ⟨⟨λh=>by omega,λh=>by omega⟩,λh=>?_,?_⟩
 ·have hv:kT x.n=true:=by
   cases hh:kT x.n with
   |true=>rfl
   |false=>exact absurd (Or.inr (Or.inr (Or.inl ⟨h,Or.inr hh⟩))) h1
  exact ⟨hqk.ql,(ofQ_toQ hv).symm⟩
 ·rcases vJ x.op with ⟨e,f⟩ | ⟨e,f⟩ | ⟨e,f⟩ | ⟨e,_⟩<;>omega
structure DInv (i:Int) (t:List jS) (k:Nat):Prop where
 hB:RBI (dU i t k).1
 hz:gV (dU i t k).1 gQ.2
 ho:gV (dU i t k).1 dOn.2
 lV:(dU i t k).2.1.length=k
 lS:(dU i t k).2.2.length=k
 hV:∀ j,j<k->gV (dU i t k).1 ((dU i t k).2.1.getD j 0)
 hS:∀ j,j<k->gV (dU i t k).1 ((dU i t k).2.2.getD j 0)
theorem dz_ok:Ok3 rb0 gQ:=bNum_ok rbi0 (ql_i)
theorem do_ok:Ok3 gQ.1 dOn:=bNum_ok dz_ok.1 (ql_i)
theorem DInv.pre{i n:Int}{t:List jS}{k:Nat}(h:DInv i t k)(h0:yT n t=0)(hq:∀ x∈t,yB x.n (qS x.n) 1048576)(hk:k<t.length):DPre k gQ.2 dOn.2 (dU i t k).1 (dU i t k).2.1 (dU i t k).2.2 (t.getD k tz):=by
 obtain ⟨h1,h2,h3,h4⟩:=nd_k h0 hq hk
 exact ⟨h.hB,h.hz,h.ho,h.hV,h.hS,h1,λe=>(h2 e).1,h3,h4⟩
theorem dInv{i n:Int}{t:List jS}(h0:yT n t=0)(hq:∀ x∈t,yB x.n (qS x.n) 1048576):∀ k,k<=t.length->DInv i t k
 |0,_=>⟨do_ok.1,do_ok.ix dz_ok.2.1,do_ok.2.1,rfl,rfl,λj h=>absurd h (Nat.not_lt_zero j),λj h=>absurd h (Nat.not_lt_zero j)⟩
 |k+1,hk=>by
  have ih:=dInv (i:=i) h0 hq k (by omega)
  have h:=dNd_ok (i:=i) (ih.pre h0 hq (by omega))
  refine ⟨h.1,ih.hz.up h.2.2.2,ih.ho.up h.2.2.2,?_,?_,λj hj=>?_,λj hj=>?_⟩
  ·rw[dU];dsimp only;rw[length_append,ih.lV];rfl
  ·rw[dU];dsimp only;rw[length_append,ih.lS];rfl
  ·show gV (aY i gQ.2 dOn.2 (dU i t k).1 (dU i t k).2.1 (dU i t k).2.2 (t.getD k tz)).1 (((dU i t k).2.1++[(aY i gQ.2 dOn.2 (dU i t k).1 (dU i t k).2.1 (dU i t k).2.2 (t.getD k tz)).2.1]).getD j 0)
   rw[qC,ih.lV]
   split
   ·rename_i h5;exact (ih.hV j h5).up h.2.2.2
   ·rw[if_pos (by omega)];exact h.2.1
  ·show gV (aY i gQ.2 dOn.2 (dU i t k).1 (dU i t k).2.1 (dU i t k).2.2 (t.getD k tz)).1 (((dU i t k).2.2++[(aY i gQ.2 dOn.2 (dU i t k).1 (dU i t k).2.1 (dU i t k).2.2 (t.getD k tz)).2.2]).getD j 0)
   rw[qC,ih.lS]
   split
   ·rename_i h5;exact (ih.hS j h5).up h.2.2.2
   ·rw[if_pos (by omega)];exact h.2.2.1
theorem gI_a{O V:List Int}{k:Nat}(h:O.take k=V){a:Int}(ha:a.toNat<k):O.getD a.toNat 0=gI V a:=by
 unfold gI;rw[<- h,take_getDr _ _ ha]
theorem gI_s{O V:List Int}{k:Nat}{v:Int}(h:O.take k=V){a:Int}(ha:a.toNat<k):(O.set k v).getD a.toNat 0=gI V a:=by
 rw[<- gI_a h ha,getD_eq_getElem?_getD,getElem?_set_ne (by omega),<- getD_eq_getElem?_getD]
structure DLst (i:Int) (t:List jS) (k:Nat) (O Q:List Int):Prop where
 lO:O.length=t.length
 lQ:Q.length=t.length
 hO:O.take k=(dU i t k).2.1
 hQ:Q.take k=(dU i t k).2.2
theorem dLst_0{i:Int}{t:List jS}:DLst i t 0 (replicate t.length 0) (replicate t.length 0):=⟨length_replicate,length_replicate,rfl,rfl⟩
theorem take_set1{O V:List Int}{k:Nat}{v:Int}(h:O.take k=V)(hk:k<O.length):(O.set k v).take (k+1)=V++[v]:=by
 rw[take_succ_eq_append_getElem (by rw[length_set];omega),getElem_set_self,take_set_of_le (Nat.le_refl k),h]
theorem DLst.put{i:Int}{t:List jS}{k:Nat}{O Q:List Int}(h:DLst i t k O Q)(hk:k<t.length){X:uT}{v s:Int}(e:aY i gQ.2 dOn.2 (dU i t k).1 (dU i t k).2.1 (dU i t k).2.2 (t.getD k tz)=(X,v,s)):X=(dU i t (k+1)).1/\DLst i t (k+1) (O.set k v) (Q.set k s):=by
 have e1:dU i t (k+1)=(X,(dU i t k).2.1++[v],(dU i t k).2.2++[s]):=by
  rw[dU];rw[e]
 refine ⟨by rw[e1],by rw[length_set];exact h.lO,by rw[length_set];exact h.lQ,?_,?_⟩
 ·rw[e1];exact take_set1 h.hO (by rw[h.lO];exact hk)
 ·rw[e1];exact take_set1 h.hQ (by rw[h.lQ];exact hk)
theorem DLst.put2{i:Int}{t:List jS}{k:Nat}{O Q:List Int}(h:DLst i t k O Q)(hk:k<t.length){X:uT}{v s z:Int}(e:aY i gQ.2 dOn.2 (dU i t k).1 (dU i t k).2.1 (dU i t k).2.2 (t.getD k tz)=(X,v,s)):X=(dU i t (k+1)).1/\DLst i t (k+1) (O.set k v) ((Q.set k z).set k s):=by
 rw[set_set];exact h.put hk e
def iX(i:Int)(t:List jS):List jS:=if dOv i t=true then [] else drvT i t
def DRC(i:Int)(t:List jS):Nat:=if dOv i t=true then 3 else 0
theorem dOv_t{i:Int}{t:List jS}{k:Nat}(hk:k<t.length)(h:(dU i t (k+1)).1.ov=true):iX i t=[]/\DRC i t=3:=by
 have:dOv i t=true:=any_eq_true.2 ⟨k,mem_range.2 hk,h⟩
 exact ⟨if_pos this,if_pos this⟩
theorem dOv_f{i:Int}{t:List jS}{k:Nat}(hk:k=t.length)(h:∀ j,j<k->(dU i t (j+1)).1.ov=false):iX i t=yY (dU i t k).1.tm (gI (dU i t k).2.2 (((k:Nat):Int)-1)).toNat/\DRC i t=0:=by
 have:¬ dOv i t=true:=by
  rw[Bool.not_eq_true]
  exact any_eq_false.2 λj hj=>by rw[h j (by rw[hk];exact mem_range.1 hj)];decide
 subst hk
 exact ⟨if_neg this,if_neg this⟩
theorem dlast{i:Int}{t:List jS}{k:Nat}{O Q:List Int}(h:DLst i t k O Q)(hI:DInv i t k)(hk:k=t.length)(h1:1<=k):Q.getD (t.length-1) 0=(((gI (dU i t k).2.2 (((k:Nat):Int)-1)).toNat:Nat):Int):=by
 have e:=gI_a (a:=((k:Nat):Int)-1) h.hQ (by omega)
 rw[show (((k:Nat):Int)-1).toNat=t.length-1 by omega] at e
 rw[e]
 have:=hI.hS (((k:Nat):Int)-1).toNat (by omega)
 exact (Int.toNat_of_nonneg this.1).symm
theorem dlast_lt{i:Int}{t:List jS}{k:Nat}(hI:DInv i t k)(h1:1<=k):(gI (dU i t k).2.2 (((k:Nat):Int)-1)).toNat<(dU i t k).1.tm.length:=by
 have:=hI.hS (((k:Nat):Int)-1).toNat (by omega)
 have h0:=this.1
 have h2:=this.2
 unfold gI at *
 omega
end Go.Fid
namespace Go.Proofs.YtckccjhflbljgaaGreatDoor
open List Tryz
open Go.Fid Go.RowKit Go.Shelf
attribute [local go_sem] Oper.semAt_some
theorem seq_back(N c g off len cap:Nat)(f:Nat->Nat)(qM:(len:Int)<=9223372036854775807)(w:World)(Kp:World->World->Prop)(Cs:World->Prop)
  (hC:∀ W,Cs W->W.cell? ⟨c,0,none⟩=some (.slice (some ⟨g,off,none⟩) len cap)/\∀ i,i<len->W.cell? ⟨g,off+i,none⟩=some (.int .u32 ((f i:Nat):Int))) (hK:∀ W W',Kp W W'->Cs W->Cs W') (hC0:∀ W,Below w.heap.size w W->Cs W) :
  SeqStopsK Fence.wide (N+1) prog 203 #[.pointer (some ⟨c,0,none⟩)] (λx:Nat=>#[.int .i64 (x:Int),.int .u32 ((f x:Nat):Int)]) Kp (λxs=>xs=(range len).reverse) (λ_=>True) len w:=by
 intro l J Jx W hW hJ hJx hY hj0
 have hlr:(range len).reverse.length=len:=by simp
 refine (back1 N l c g off len cap (λi=>.int .u32 ((f i:Nat):Int)) qM (λj W1=>J ((range len).reverse.take j) W1/\Cs W1) (λW1=>∃ pre,Jx pre W1) (λj W1 h=>hC W1 h.2) (λj W1 h hlt=>?_) W ⟨hj0,hC0 W hW⟩).mono ?_
 ·have hx:(range len).reverse[j]?=some (len-1-j):=by
   rw[getElem?_reverse (by simpa using hlt),length_range,getElem?_range (by omega)]
  have ht:(range len).reverse.take j++[len-1-j]=(range len).reverse.take (j+1):=by
   rw[take_add_one,hx];rfl
  have e:((len:Int)-1-(j:Int))=((len-1-j:Nat):Int):=by omega
  have hy:=hY ((range len).reverse.take j) (len-1-j) W1 h.1 (by rw[length_take,hlr];omega)
  rw[e]
  refine YieldAt.mono hy ?_
  rintro e W' (⟨rfl,h1,h2⟩ | ⟨rfl,h1⟩)
  ·exact .inl ⟨rfl,by rw[<- ht];exact h1,hK _ _ h2 h.2⟩
  ·exact .inr ⟨rfl,_,h1⟩
 ·rintro e W' ⟨h1,h2⟩
  refine ⟨h1,?_⟩
  rcases h2 with h2 | ⟨pre,h2⟩
  ·exact .inl ⟨_,by rw[take_of_length_le (by rw[hlr];exact Nat.le_refl _)],h2.1⟩
  ·exact .inr ⟨pre,trivial,h2⟩
def KK(b n:Nat)(W W':World):Prop:=Below b W W'/\∀ (k:Nat) (o:Obj),k<n->W.heap[k]?=some o->k≠b->(∀ c fz,o≠.cells c 5 fz)->W'.heap[k]?=some o
theorem KK.trans{b n:Nat}{A B C:World}(h:KK b n A B)(k:KK b n B C):KK b n A C:=⟨h.1.trans k.1,λi o hi h1 h2 h3=>k.2 i o hi (h.2 i o hi h1 h2 h3) h2 h3⟩
theorem KK.of{b n:Nat}{A B:World}(h:Below b A B)(k:Lib.OthersKept 5 (some b) A B):KK b n A B:=⟨h,λi o _ h1 h2 h3=>k i o h1 (λe=>h2 (Option.some.inj e)) h3⟩
theorem KK.put{b n:Nat}(hb:b<=n)(W:World)(l:Nat)(o o':Obj)(hl:n<=l)(h:W.heap[l]?=some o):KK b n W (W.putObj l o'):=by
 refine ⟨⟨rfl,rfl,rfl,by simp [World.putObj],λk hk=>World.putObj_heap_other (by omega)⟩,λk x hk h1 _ _=>?_⟩
 rw[World.putObj_heap_other (by omega)];exact h1
theorem keepsO_of{b:Nat}{A B:World}{bs:List Value}(hI:Lib.IsBuffer 178 5 b b bs A)(h:Below b A B)(k:Lib.OthersKept 5 (some b) A B):KeepsOthers A B :=
 ⟨h.size,λi o hi ho=>k i o hi (λe=>by
  obtain rfl:=Option.some.inj e
  obtain ⟨_,v,lr,hb,_⟩:=hI
  rw[hi] at hb
  have:=Option.some.inj hb
  subst this
  cases ho) (λc fz e=>by subst e;cases ho)⟩
theorem isBuf_own{β:Type}{b B:Nat}{bs:β->List Value}:OwnFrom B (λs W=>Lib.IsBuffer 178 5 b b (bs s) W):=λs W W' row hs hg hr=>by
 have hne:∀ (k:Nat) (c:Array Value) (T:TypeId) (fz:Nat × Nat),W.heap[k]?=some (Obj.cells c T fz)->W'.heap[k]?=some (Obj.cells c T fz):=λk c T fz hk=>by
  rw[hg.block k (qW hk) (λe=>by
   obtain ⟨_,o,ho,hc⟩:=hr k e.symm
   rw[hk] at ho
   have:=Option.some.inj ho
   subst this
   cases hc)]
  exact hk
 obtain ⟨h1,v,lr,h2,h3,h4⟩:=hs
 refine ⟨h1,v,lr,hne _ _ _ _ h2,⟨h3.1,?_⟩,h4⟩
 rcases h3.2 with h | ⟨g,cap,cur,e1,e2,e3,e4⟩
 ·exact .inl h
 ·exact .inr ⟨g,cap,cur,e1,e2,hne _ _ _ _ e3,e4⟩
theorem inRnd{F:Fence}{n:Nat}{P:Program}{f:FuncId}{args:Array Value}{w:World}{R:Ending->World->Prop}(l:Nat)(h:CallsIn F n P f args w R):CallsIn (F.inRound l) n P f args w R:=h
def elT(gs:List Nat)(x:Nat):List UInt8:=if x+1<gs.length then lN (gs.getD x 0) else itN (gs.getD x 0)
theorem dgs_len:∀ (f n:Nat),(dgs f n).length<=f
 |0,_=>by simp [dgs]
 |f+1,n=>by
  unfold dgs
  by_cases h:n<10
  ·rw[if_pos h];simp
  ·rw[if_neg h];have:=dgs_len f (n / 10);simp;omega
theorem padN_len(n:Nat):(lN n).length<=20:=by
 have:(itN n).length<=20:=dgs_len 20 n
 unfold lN;rw[length_append,length_replicate];omega
theorem elT_len(gs:List Nat)(x:Nat):(elT gs x).length<=20:=by
 unfold elT
 by_cases h:x+1<gs.length
 ·rw[if_pos h];exact padN_len _
 ·rw[if_neg h];exact dgs_len 20 _
theorem flt_len(gs:List Nat):∀ pre:List Nat,((pre.map (elT gs)).flatten).length<=20*pre.length
 |[]=>by simp
 |x::pre=>by
  rw[map_cons,flatten_cons,length_append,length_cons]
  have:=flt_len gs pre;have:=elT_len gs x;omega
theorem el_map(l:List Nat)(d:Nat):(range (l++[d]).length).map (elT (l++[d]))=l.map lN++[itN d]:=by
 rw[length_append,length_singleton,range_succ,map_append]
 congr 1
 ·refine ext_getElem (by simp) λi h1 h2=>?_
  have hi:i<l.length:=by simpa using h2
  rw[getElem_map,getElem_map,getElem_range]
  unfold elT
  rw[if_pos (by simp;omega),getD_eq_getElem?_getD,getElem?_append_left hi,getElem?_eq_getElem hi]
  rfl
 ·simp [elT]
theorem el_txG(gs:List Nat)(hg:gs≠[]):((range gs.length).reverse.map (elT gs)).flatten=txG gs.reverse:=by
 obtain ⟨l,d,rfl⟩:∃ l d,gs=l++[d]:=⟨gs.dropLast,gs.getLast hg,(dropLast_concat_getLast hg).symm⟩
 rw[map_reverse,el_map,reverse_append,reverse_append]
 show itN d++((l.map lN).reverse).flatten=itN d++(l.reverse.map lN).flatten
 rw[map_reverse]
theorem flat_u32:∀ l:List Nat,qK (map jC l)=map jC l
 |[]=>rfl
 |x::l=>by rw[map_cons,mO,flat_u32 l];rfl
def ItA(n:Nat):Prop:=∀ (w:World) (D:kV),iU D w->Calls prog 194 #[.int .i64 (n:Int)] w λe w'=>e=.returned (.string ⟨(itN n).toArray⟩)/\Below w.heap.size w w'/\KeepsOthers w w'
set_option maxRecDepth 100000 in
set_option maxHeartbeats 4000000 in
theorem t_textW(z:Int)(hl:(ofNat z.natAbs).length<=1000000)(hI:∀ d,d∈ofNat z.natAbs\/d=0->ItA d)(w:World)(D:kV)(hD:iU D w)(neg:Bool)(u1:Value)(h1:neg=decide (z<0))(hv:uS w D (.agg #[.bool neg,u1]) (jQ (kN z))) :
  Calls prog 168 #[.agg #[.bool neg,u1]] w (FPost w D (.val (.string ⟨(aL z).toArray⟩))):=by
 refine (callsIn_wide (n:=3)).1 (callsIn_of_wp_marks func168 rfl trivial ?_ rfl)
 simp only[ntmps168,size_toArray,length_cons,length_nil,Nat.reduceAdd,Nat.reduceSub,Array.replicate_succ,Array.replicate_zero,push_toArray,append_toArray,nil_append,cons_append]
 have hgr:=hZ (kN z) (by show (ofNat z.natAbs).length<=_;omega)
 rw[grpI_ofZ] at hgr
 have H1:=Lib.hid h1
 clear h1
 obtain ⟨W0,hW0⟩:∃ W0,w.alloc (.cells #[.bool neg,u1] 30)=W0:=⟨_,rfl⟩
 have hb0:Below w.heap.size w W0:=by rw[<- hW0];exact (Below.refl _ w).alloc (Nat.le_refl _) _
 have hu0:aJ D D w W0:=aJ.of_same D
 have hD0:iU D W0:=hu0.ok hD hb0
 have hv0:=hv.up hb0 hu0 hD
 have hc0:W0.heap[w.heap.size]?=some (.cells #[.bool neg,u1] 30 (0,0)):=by rw[<- hW0];exact heap_alloc_new w _
 have hk:Calls prog 151 #[.agg #[.bool neg,u1]] W0 (FPost W0 D (.sl 107 1 (map jC (ofNat z.natAbs)))):=hgr.run W0 D [.agg #[.bool neg,u1]] hD0 ⟨rfl,λi v d h1 h2=>by
  match i with
  |0=>simp only[getElem?_cons_zero,Option.some.injEq] at h1 h2;subst h1;subst h2;exact hv0
  |i+1=>simp at h1⟩
 have c00:W0.cell? ⟨w.heap.size,0,none⟩=some (.bool neg):=by rw[cell_of_row _ _ 0 _ _ _ hc0];rfl
 have c01:W0.cell? ⟨w.heap.size,1,none⟩=some u1:=by rw[cell_of_row _ _ 1 _ _ _ hc0];rfl
 gi_wp2_with (refine ⟨trivial,?_⟩;gi_at_call 151;refine (callsIn_wide.2 hk).mono ?_;rintro e W1 ⟨v1,D1,rfl,hb1,hu1,hr1⟩;refine Hid.out ?_)
 refine Lib.hid ?_
 clear hk hgr c00 c01
 have hD1:=hu1.ok hD0 hb1
 have hb01:=hb0.trans (hb1.mono hb0.size)
 cases hr1 with
 |sl g off u hn hcc hmm hs ha hDs hus h1s hrs=>
 rename_i ao len cap
 have hlm:len=(ofNat z.natAbs).length:=by rw[hn,length_map]
 clear hn
 obtain ⟨Bz,hBz⟩:∃ Bz,Bz=W1.heap.size:=⟨_,rfl⟩
 have HB:=Lib.hid hBz
 have HL:=Lib.hid hlm
 have hcW:W1.cell? ⟨w.heap.size,0,none⟩=some (.bool neg):=by
  rw[xW hb1 (by rw[<- hW0];simp),cell_of_row _ _ 0 _ _ _ hc0];rfl
 have hcl:w.heap.size<W1.heap.size:=by have:=hb1.size;rw[<- hW0] at this;simp at this;omega
 clear hW0 hc0 hv0
 by_cases hz:len=0
 ·have hz2:z.natAbs=0:=by
   have h9:(ofNat z.natAbs).length=0:=by omega
   have:=kH z.natAbs
   rw[eq_nil_of_length_eq_zero h9] at this
   exact this.symm
  have hz3:=Lib.hid hz2
  clear hz2
  subst hz
  clear hlm
  gi_wp2
  refine ⟨_,results_tmp rfl _ _ _,_,D,rfl,?_,aJ.of_same D,?_⟩
  ·exact hb01.trans (((Below.refl _ W1).alloc (Nat.le_refl _) _).mono (Nat.le_of_lt hcl))
  ·have e0:z=0:=by have:=hz3.out;omega
   subst e0
   rw[show (⟨(aL 0).toArray⟩:ByteArray)=⟨#[48]⟩ by decide +kernel]
   exact .val _
 ·obtain rfl:=ha (by omega)
  have hn0:0<len:=by omega
  have h00:((len:Int) == 0)=false:=beq_eq_false_iff_ne.2 (by omega)
  clear hlm hz
  obtain ⟨Wc,hWc⟩:∃ Wc,W1.alloc (.cells #[.slice (some ⟨g,off,none⟩) len cap] 28)=Wc:=⟨_,rfl⟩
  have hWs:Wc.heap.size=W1.heap.size+1:=by rw[<- hWc];simp
  have hbc:Below W1.heap.size W1 Wc:=by rw[<- hWc];exact (Below.refl _ W1).alloc (Nat.le_refl _) _
  have hg3:Wc.heap[W1.heap.size]?=some (.cells #[.slice (some ⟨g,off,none⟩) len cap] 28 (0,0)):=by rw[<- hWc];exact heap_alloc_new W1 _
  obtain ⟨WB,hWB⟩:∃ WB,Wc.alloc (.cells #[.slice none 0 0,.int .i64 0,.int .i8 0] 178)=WB:=⟨_,rfl⟩
  have hbB:Below Wc.heap.size Wc WB:=by rw[<- hWB];exact (Below.refl _ Wc).alloc (Nat.le_refl _) _
  have hI0:Lib.IsBuffer 178 5 Wc.heap.size Wc.heap.size [] WB:=by rw[<- hWB];exact Lib.fresh_isBuffer 178 5 Wc
  have hWBs:WB.heap.size=Wc.heap.size+1:=by rw[<- hWB];simp
  have hcB:WB.cell? ⟨w.heap.size,0,none⟩=some (.bool neg):=(xW hbB (by omega)).trans ((xW hbc hcl).trans hcW)
  have hgB:WB.heap[W1.heap.size]?=some (.cells #[.slice (some ⟨g,off,none⟩) len cap] 28 (0,0)):=(hbB.block _ (by omega)).trans hg3
  have c3c:Wc.cell? ⟨W1.heap.size,0,none⟩=some (.slice (some ⟨g,off,none⟩) len cap):=by rw[cell_of_row _ _ 0 _ _ _ hg3];rfl
  have c3b:WB.cell? ⟨W1.heap.size,0,none⟩=some (.slice (some ⟨g,off,none⟩) len cap):=by rw[cell_of_row _ _ 0 _ _ _ hgB];rfl
  have nC:∀ W,Below (W1.heap.size+1) WB W->Below w.heap.size w W:=λW h=>hb01.trans (((hbc.mono (Nat.le_of_lt hcl)).trans (hbB.mono (by omega))).trans (h.mono (by omega)))
  have hgr:∀ i,i<len->WB.cell? ⟨g,off+i,none⟩=some (.int .u32 (((ofNat z.natAbs).getD i 0:Nat):Int)):=by
   intro i hi
   rw[HL.out] at hi
   rw[flat_u32] at hus hrs hDs
   have hi2:i<(map jC (ofNat z.natAbs)).length:=by rw[length_map];exact hi
   have h1:=hus i hi2
   have h2:=hrs i _ (getElem?_eq_getElem hi2)
   have h3:=hD1.lt _ _ _ (hDs i hi2)
   rw[getElem_map] at h2
   rw[xW hbB (by show g<_;omega),xW hbc h3,h1,getD_eq_getElem?_getD,getElem?_eq_getElem hi]
   have h2:uS W1 D1 (u i) (.val (.int .u32 (((ofNat z.natAbs)[i]:Nat):Int))):=h2
   generalize u i=uu at h2
   cases h2
   rfl
  have hgl:g<W1.heap.size:=by
   rw[flat_u32] at hDs
   exact hD1.lt _ _ _ (hDs 0 (by rw[length_map,<- HL.out];exact hn0))
  clear hus h1s hrs hDs hs
  obtain ⟨gs,hgs⟩:∃ gs,gs=ofNat z.natAbs:=⟨_,rfl⟩
  have HG:=Lib.hid hgs
  rw[<- hgs] at hgr hI
  clear hgs
  have hcells:∀ W,Below (W1.heap.size+1) WB W->W.cell? ⟨W1.heap.size,0,none⟩=some (.slice (some ⟨g,off,none⟩) len cap):=λW h=>(xW h (by omega)).trans c3b
  have hgrs:∀ W,Below (W1.heap.size+1) WB W->∀ i,i<len->W.cell? ⟨g,off+i,none⟩=some (.int .u32 ((gs.getD i 0:Nat):Int)):=λW h i hi=>(xW h (by show g<_;omega)).trans (hgr i hi)
  rw[hWs] at hI0 hWBs
  have hsB:W1.heap.size+1<WB.heap.size:=by omega
  gi_wp2_with (refine ⟨trivial,?_⟩;gi_at_call 193;refine (callsIn_wide.2 (Tryz.Buffer_WriteByte_kept (W1.heap.size+1) (W1.heap.size+1) [] 45 WB hI0 (by omega) (by simp) (by simp))).mono ?_;rintro e W2 ⟨rfl,hI2,hb2,-⟩;refine Hid.out ?_)
  all_goals first
   |(refine Lib.hid ?_
     have h1n:=Lib.hid (show neg=true by assumption)
     have c2:=hcells W2 hb2
     have hbel2:∀ W,Below (W1.heap.size+1) W2 W->Below w.heap.size w W:=λW h=>nC W (hb2.trans h)
     have hcells2:∀ W,Below (W1.heap.size+1) W2 W->W.cell? ⟨W1.heap.size,0,none⟩=some (.slice (some ⟨g,off,none⟩) len cap):=λW h=>hcells W (hb2.trans h)
     have hgr2:∀ W,Below (W1.heap.size+1) W2 W->∀ i,i<len->W.cell? ⟨g,off+i,none⟩=some (.int .u32 ((gs.getD i 0:Nat):Int)):=λW h=>hgrs W (hb2.trans h)
     have hs2:W1.heap.size+1<W2.heap.size:=Nat.lt_of_lt_of_le hsB hb2.size
     clear hb2 nC hcells hgrs hI0 hgr
     obtain ⟨p0,hp0,hI2⟩:∃ p0:List UInt8,Hid (p0=if neg=true then [45] else [])/\Lib.IsBuffer 178 5 (W1.heap.size+1) (W1.heap.size+1) (Lib.byteCells p0) W2:=⟨[45],Lib.hid (by rw[if_pos h1n.out]),hI2⟩
     obtain ⟨a1,ha1⟩:∃ a1:Nat->Nat->Act,a1=λx d=>{ tmps:=#[.agg #[.bool true,u1],.pointer (some ⟨w.heap.size,0,none⟩),.string ⟨#[]⟩,.pointer (some ⟨W1.heap.size,0,none⟩),.pointer (some ⟨W1.heap.size+1,0,none⟩),.int .i64 (x:Int),.int .u32 (d:Int),undef,undef,.agg #[.bool true,u1],.slice (some ⟨g,off,none⟩) len cap,.slice (some ⟨g,off,none⟩) len cap,.int .i64 len,.bool false,.pointer (some ⟨w.heap.size,0,none⟩),.bool true,.nilIface,.slice (some ⟨g,off,none⟩) len cap,.func (.func 203) #[] #[.pointer (some ⟨W2.heap.size,0,none⟩)],.int .i64 (x:Int),.int .u32 (d:Int),undef,undef,undef,undef,undef,undef,undef,undef,undef,undef,undef,undef,undef,undef,undef,undef,undef,undef,undef,undef],defers:=[] }:=⟨_,rfl⟩)
   |(have h1n:=Lib.hid (show neg=false by assumption)
     have hbel2:=nC
     have hcells2:=hcells
     have hgr2:=hgrs
     have hs2:=hsB
     clear nC hcells hgrs hgr
     obtain ⟨p0,hp0,hI2⟩:∃ p0:List UInt8,Hid (p0=if neg=true then [45] else [])/\Lib.IsBuffer 178 5 (W1.heap.size+1) (W1.heap.size+1) (Lib.byteCells p0) WB:=⟨[],Lib.hid (by rw[if_neg (by rw[h1n.out];simp)]),hI0⟩
     have c2:=hcells2 WB (Below.refl _ _)
     clear c3c c3b hI0 hbB hgB hcB hWBs hWB hsB
     obtain ⟨W2,rfl⟩:∃ W2,W2=WB:=⟨_,rfl⟩
     obtain ⟨a1,ha1⟩:∃ a1:Nat->Nat->Act,a1=λx d=>{ tmps:=#[.agg #[.bool false,u1],.pointer (some ⟨w.heap.size,0,none⟩),.string ⟨#[]⟩,.pointer (some ⟨W1.heap.size,0,none⟩),.pointer (some ⟨W1.heap.size+1,0,none⟩),.int .i64 (x:Int),.int .u32 (d:Int),undef,undef,.agg #[.bool false,u1],.slice (some ⟨g,off,none⟩) len cap,.slice (some ⟨g,off,none⟩) len cap,.int .i64 len,.bool false,.pointer (some ⟨w.heap.size,0,none⟩),.bool false,undef,.slice (some ⟨g,off,none⟩) len cap,.func (.func 203) #[] #[.pointer (some ⟨W2.heap.size,0,none⟩)],.int .i64 (x:Int),.int .u32 (d:Int),undef,undef,undef,undef,undef,undef,undef,undef,undef,undef,undef,undef,undef,undef,undef,undef,undef,undef,undef,undef],defers:=[] }:=⟨_,rfl⟩)
  all_goals
   gi_wp2_with (refine ⟨trivial,?_⟩;gi_at_call 178;refine (callsIn_wide.2 (back_in _ _ _ W2)).mono ?_;rintro e W3 ⟨rfl,rfl⟩;refine Hid.out ?_)
   refine Lib.hid ?_
   have qM:len<=1000000:=by rw[HL.out];exact hl
   obtain ⟨W3,hW3⟩:∃ W3,W3=W2.alloc (.cells #[.slice (some ⟨g,off,none⟩) len cap] 28):=⟨_,rfl⟩
   rw[<- hW3]
   have hb23:Below W2.heap.size W2 W3:=by rw[hW3];exact (Below.refl _ W2).alloc (Nat.le_refl _) _
   have hs3:W3.heap.size=W2.heap.size+1:=by rw[hW3];simp
   have hc3:W3.heap[W2.heap.size]?=some (.cells #[.slice (some ⟨g,off,none⟩) len cap] 28 (0,0)):=by rw[hW3];exact heap_alloc_new W2 _
   have hI3:Lib.IsBuffer 178 5 (W1.heap.size+1) (W1.heap.size+1) (Lib.byteCells p0) W3:=by rw[hW3];exact hI2.alloc _
   have hb3:Below (W1.heap.size+1) W2 W3:=hb23.mono (by omega)
   clear hW3
   gi_wp2
   refine wpIn_rangeFunc_ownF rfl (by decide) (gf:=203) (lb:=#[.pointer (some ⟨W2.heap.size,0,none⟩)]) rfl trivial (enters_of func203 (by kernel_rfl) rfl)
    (seq_back 1 W2.heap.size g off len cap (λi=>gs.getD i 0) (by omega) W3 (KK (W1.heap.size+1) W3.heap.size) (λW=>W.heap[W2.heap.size]?=some (.cells #[.slice (some ⟨g,off,none⟩) len cap] 28 (0,0))/\Below (W1.heap.size+1) W2 W)
     (λW h=>⟨by rw[cell_of_row _ _ 0 _ _ _ h.1];rfl,hgr2 W h.2⟩) (λW W' k h=>⟨k.2 _ _ (by omega) h.1 (by omega) (λc fz e=>by cases e),h.2.trans k.1⟩) (λW h=>⟨(h.block _ (by omega)).trans hc3,hb3.trans (h.mono (by omega))⟩))
    KK.trans (λW l o o' hl h _ _=>KK.put (by omega) W l o o' hl h) (Below.refl _ _) (λ_=>rfl)
    (λpre W=>Lib.IsBuffer 178 5 (W1.heap.size+1) (W1.heap.size+1) (Lib.byteCells (p0++(pre.map (elT gs)).flatten)) W/\Below (W1.heap.size+1) W2 W)
    (λ_ _ _=>False)
    (OwnFrom.and isBuf_own (ownFrom_below (by omega) (by omega)))
    (λ_ _ _ _ _ hs _ _=>hs)
    ⟨by simpa using hI3,hb3⟩
    (λx=>a1 x (gs.getD x 0)) ?assign ?body ?done ?stop
   case assign=>
    intro l x W K hK
    rw[ha1] at hK
    gi_wp2
    exact hK
   case stop=>
    rintro D c pre W _ _ h _
    exact h.elim
   case body=>
    rintro l pre x W ⟨hJ,hB⟩ hlt
    have hDW:iU D W:=(aJ.of_same D).ok hD (hbel2 W hB)
    have hmem:gs[x]?.getD 0∈gs\/gs[x]?.getD 0=0:=by
     cases h9:gs[x]? with
     |none=>exact .inr rfl
     |some v=>exact .inl (mem_of_getElem? h9)
    have hd:gs[x]?.getD 0<1000000000:=by
     rcases hmem with h9 | h9
     ·rw[HG.out] at h9 ⊢;exact kI _ _ h9
     ·omega
    have hmem:=Lib.hid hmem
    have hw:=Lib.hid (show wrap64 (((gs[x]?.getD 0:Nat)):Int)=((gs[x]?.getD 0:Nat):Int) by unfold wrap64;omega)
    have hit:=Lib.hid (hI (gs[x]?.getD 0) hmem.out W D hDW)
    have cW:=hcells2 W hB
    have hE:elT gs x=if x+1<len then lN (gs[x]?.getD 0) else itN (gs[x]?.getD 0):=by
     unfold elT;rw[getD_eq_getElem?_getD,HL.out,HG.out]
    have hE:=Lib.hid hE
    have hd:=Lib.hid hd
    have qM:=Lib.hid qM
    show Code.wpIn _ _ _ _ _ (a1 x (gs.getD x 0)) W
    rw[ha1]
    clear ha1 hI hI2 hI3 hc3 c2
    gi_wp2
    refine ⟨trivial,?_⟩
    gi_at_call 194
    try rw[hw.out]
    refine (inRnd l (callsIn_wide.2 hit.out)).mono ?_
    rintro e W5 ⟨rfl,hb5,hk5⟩
    obtain ⟨tx,htx⟩:∃ tx,itN (gs[x]?.getD 0)=tx:=⟨_,rfl⟩
    rw[htx]
    obtain ⟨ts,hts⟩:∃ ts:ByteArray,⟨tx.toArray⟩=ts:=⟨_,rfl⟩
    rw[hts]
    have hsz:ts.size=tx.length:=by rw[<- hts];rfl
    have hB5:=hB.trans (hb5.mono (by have:=hJ.lt;omega))
    have hJ5:=Lib.IsBuffer.old hJ hb5
    have c5:=hcells2 W5 hB5
    have hdat:ts.data.toList=tx:=by rw[<- hts]
    have hdat:=Lib.hid hdat
    have htx:=Lib.hid htx
    have hsz:=Lib.hid hsz
    clear hts
    gi_wp2
    have hp48:∀ q:List UInt8,Lib.byteCells q++[.int .u8 48]=Lib.byteCells (q++[48]):=λq=>by simp [Lib.byteCells]
    obtain ⟨q,hq⟩:∃ q,q=p0++(pre.map (elT gs)).flatten:=⟨_,rfl⟩
    rw[<- hq] at hJ5
    have hlq:q.length<=20000001:=by
     rw[hq,length_append]
     have h1:=flt_len gs pre
     have h2:p0.length<=1:=by rw[hp0.out];split<;>simp
     have:=qM.out;have:=hlt
     omega
    have hltx:tx.length<=20:=by rw[<- htx.out];exact dgs_len 20 _
    have hKK5:KK (W1.heap.size+1) W3.heap.size W W5:=⟨hb5.mono (by have:=hJ.lt;omega),λk o _ ho _ _=>(hb5.block k (qW ho)).trans ho⟩
    have hlq:=Lib.hid hlq
    have hltx:=Lib.hid hltx
    have hq:=Lib.hid hq
    clear hB hJ hb5 hit hw
    gi_loopw [8] (λk wr=>∃ j:Nat,k=.int .i64 ((tx.length:Int)+(j:Int))/\j<=9/\(Hid (len<=x+1->j=0)/\(j=0\/tx.length+j<=9))/\Lib.IsBuffer 178 5 (W1.heap.size+1) (W1.heap.size+1) (Lib.byteCells (q++replicate j 48)) wr/\Below (W1.heap.size+1) W2 wr/\KeepsOthers W wr/\KK (W1.heap.size+1) W3.heap.size W wr) (λk _=>(9-intOf k).toNat)
    case atStart=>exact ⟨0,by simp,by omega,⟨Lib.hid (λ_=>rfl),.inl rfl⟩,by simpa using hJ5,hB5,hk5,hKK5⟩
    case round=>
     obtain ⟨j,rfl,hj9,hj0,hJr,hBr,hkr,hKr⟩:=hrel
     have cr:=hcells2 wr hBr
     have hsr:W1.heap.size+1<=wr.heap.size:=Nat.le_of_lt hJr.lt
     have eD:∀ v∈Lib.byteCells (q++replicate j 48),v.oneCell'=true:=λv hv=>by
      unfold Lib.byteCells at hv
      obtain ⟨b,_,rfl⟩:=mem_map.1 hv
      rfl
     have hln:(Lib.byteCells (q++replicate j 48)).length<=20000010:=by
      rw[Lib.byteCells_length,length_append,length_replicate];have:=hlq.out;omega
     have hln:=Lib.hid hln
     have eD:=Lib.hid eD
     have hJr:=Lib.hid hJr
     have hkr:=Lib.hid hkr
     have hcase:(tx.length+j<9/\x+1<len)\/(tx.length+j<9/\¬ x+1<len)\/(¬ tx.length+j<9):=by omega
     rcases hcase with ⟨hk,hx⟩ | ⟨hk,hx⟩ | hk
     ·gi_wp2
      refine ⟨trivial,?_⟩
      gi_at_call 193
      refine (inRnd l (callsIn_wide.2 (Tryz.Buffer_WriteByte_kept (W1.heap.size+1) (W1.heap.size+1) _ 48 wr hJr.out hsr eD.out (by have:=hln.out;omega)))).mono ?_
      rintro e W6 ⟨rfl,hJ6,hb6,hk6⟩
      rw[hp48] at hJ6
      gi_wp2
      go_roundw
      case rel=>
       refine ⟨j+1,by simp;omega,by omega,⟨Lib.hid (λh=>by omega),.inr (by omega)⟩,?_,hBr.trans hb6,hkr.out.trans (keepsO_of hJr.out hb6 hk6),hKr.trans (KK.of hb6 hk6)⟩
       rw[replicate_succ',<- append_assoc];exact hJ6
      case measure=>simp [intOf];omega
     all_goals
      gi_wp2
      refine ⟨trivial,?_⟩
      gi_at_call 195
      refine (inRnd l (callsIn_wide.2 (Tryz.Buffer_WriteString_kept (W1.heap.size+1) (W1.heap.size+1) _ ts wr hJr.out hsr eD.out (by have:=hln.out;have:=hltx.out;have:=hsz.out;omega)))).mono ?_
      rintro e W6 ⟨rfl,hJ6,hb6,hk6⟩
      have hJ6:=Lib.hid hJ6
      gi_wp2
      refine ⟨hkr.out.trans (keepsO_of hJr.out hb6 hk6),hKr.trans (KK.of hb6 hk6),?_,hBr.trans hb6⟩
      have e1:Lib.byteCells (q++replicate j 48)++Lib.byteCells ts.data.toList=Lib.byteCells (p0++((pre++[x]).map (elT gs)).flatten):=by
       rw[hdat.out]
       unfold Lib.byteCells
       rw[<- map_append]
       congr 1
       rw[map_append,flatten_append,<- append_assoc,<- hq.out,append_assoc]
       congr 1
       simp only[map_cons,map_nil,flatten_cons,flatten_nil,append_nil]
       rw[hE.out]
       unfold lN
       rw[htx.out]
       by_cases hx9:x+1<len
       ·rw[if_pos hx9]
        congr 2
        omega
       ·rw[if_neg hx9,hj0.1.out (by omega)]
        rfl
      rw[<- e1]
      exact hJ6.out
   case done=>
    rintro Dd xs W hD9 rfl ⟨hJ,hB⟩ hK
    have hne:gs≠[]:=λe=>by
     have h8:=HL.out;rw[<- HG.out,e] at h8;simp at h8;omega
    have hfin:p0++(((range len).reverse.map (elT gs))).flatten=aL z:=by
     have h8:len=gs.length:=by rw[HG.out];exact HL.out
     rw[h8,el_txG gs hne,hp0.out]
     unfold aL txN
     rw[<- HG.out,if_neg (show ¬ gs.length=0 by rw[<- h8];omega)]
     by_cases hz:z<0
     ·rw[if_pos (H1.out.trans (decide_eq_true hz)),if_pos hz];rfl
     ·rw[if_neg (by rw[H1.out,decide_eq_false hz];simp),if_neg hz];rfl
    rw[hfin] at hJ
    have hJ:=Lib.hid hJ
    have hfin:=Lib.hid hfin
    gi_wp2
    refine ⟨trivial,?_⟩
    gi_at_call 196
    refine (callsIn_wide.2 (Tryz.Buffer_String _ _ (aL z) W hJ.out)).mono ?_
    rintro e W6 ⟨rfl,n9,rfl⟩
    gi_wp2
    have hK':(W.drewN n9).heap[Dd]?=some (Obj.deferred (some [])):=hK
    refine ⟨by simp,.inl ⟨_,_,rfl,run_takeDeferred hK',?_⟩⟩
    have hbf:Below w.heap.size w (W.drewN n9):=hbel2 _ (hB.trans ⟨rfl,rfl,rfl,Nat.le_refl _,λ_ _=>rfl⟩)
    refine ⟨_,results_tmp rfl _ _ _,_,D,rfl,hbf.trans (belowK_b (w:=w) (Nat.le_refl _) _ Dd _ _ (by omega) hK' rfl rfl),aJ.of_same D,.val _⟩
theorem dgs_dec:∀ (f n:Nat),n<10 ^ (f+1)->dgs (f+1) n=Lib.decDigits n
 |0,n,h=>by
  rw[Lib.decDigits];unfold dgs
  have h9:n<10:=by simpa using h
  rw[if_pos h9,dif_pos h9]
 |f+1,n,h=>by
  rw[Lib.decDigits];unfold dgs
  by_cases h9:n<10
  ·rw[if_pos h9,dif_pos h9]
  ·rw[if_neg h9,dif_neg h9,dgs_dec f (n / 10) (Nat.div_lt_of_lt_mul (by rw[Nat.pow_succ] at h;omega))]
theorem itN_dec(n:Nat)(h:n<1000000000):itN n=Lib.decDigits n:=dgs_dec 19 n (Nat.lt_of_lt_of_le h (by decide))
theorem itA_small(n:Nat)(h:n<100):ItA n:=λw D hD=>(Tryz.strconv_Itoa_small n h w).mono λe w' ⟨h1,h2⟩=>by
 subst h2
 exact ⟨by rw[h1,itN_dec n (by omega)],Below.refl _ _,KeepsOthers.refl _⟩
theorem row_of_cells{w:World}{G:Nat}{V:Array Value}(h0:0<V.size)(h:∀ i,w.cell? ⟨G,i,none⟩=V[i]?):∃ T f,w.heap[G]?=some (.cells V T f):=by
 have hh:=h
 unfold World.cell? at hh
 simp only[Option.isSome_none,Bool.false_eq_true,if_false] at hh
 rcases hG:w.heap[G]? with _ | ob
 ·have:=hh 0
  rw[hG,Array.getElem?_eq_getElem h0] at this
  cases this
 ·cases ob with
  |cells c T f=>
   refine ⟨T,f,?_⟩
   have e:c=V:=Array.ext_getElem? λi=>by
    have:=hh i
    rw[hG] at this
    exact this
   rw[e]
  |_=>
   have:=hh 0
   rw[hG,Array.getElem?_eq_getElem h0] at this
   cases this
theorem tab_is {w : World} {D : kV} (hD : iU D w) : Lib.TabIs prog w "internal/strconv.uint64pow10" .u64 Lib.pow10Tab := by
 have hG : prog.globalNamed "internal/strconv.uint64pow10" = some 1 := by kernel_rfl
 obtain ⟨T,f,h⟩:=row_of_cells (G:=1) (V:=tabV) (by simp [tabV]) (λi=>(hD.tab 1 rfl i).2)
 unfold Lib.TabIs World.var?
 rw[hG,Option.bind_some,h]
 simp [tabV,Lib.pow10Tab]
theorem itA(n:Nat)(h:n<1000000000):ItA n:=λw D hD=>(Tryz.strconv_Itoa (n:Int) (by omega) (by omega) w (tab_is hD)).mono λe w' ⟨h1,k,os,h2⟩=>by
 subst h2
 refine ⟨by rw[h1,itN_dec n h];unfold Lib.itoa;rw[if_neg (by omega)];rfl,?_,?_⟩
 ·exact ⟨rfl,rfl,rfl,by show w.heap.size<=(w.heap++os).size;rw[Array.size_append];omega,λi hi=>Array.getElem?_append_left (xs:=w.heap) hi⟩
 ·exact ⟨by show w.heap.size<=(w.heap++os).size;rw[Array.size_append];omega,λi o hi _=>(Array.getElem?_append_left (xs:=w.heap) (qW hi)).trans hi⟩
theorem t_text(z:Int)(hl:(ofNat z.natAbs).length<=1000000)(hI:∀ d,d∈ofNat z.natAbs\/d=0->ItA d):jP prog 168 [jQ (kN z)] (.val (.string ⟨(aL z).toArray⟩)):=⟨by kernel_rfl,λw D vs hD hv=>by
 obtain ⟨hv1,hv2⟩:=hv
 match vs,hv1 with
 |[v],_=>
  have h0:=hv2 0 v _ rfl rfl
  generalize he:jQ (kN z)=E at h0
  have he2:E=.agg [.val (.bool (kN z).neg),.sl 107 1 ((kN z).gs.map jC)]:=he.symm
  subst he2
  cases h0 with
  |agg vs2 hl2 h12 hr2=>
   match vs2,hl2 with
   |[a,b],_=>
    have ha:=hr2 0 a _ rfl rfl
    cases ha
    refine t_textW z hl hI w D hD _ b ?_ ?_
    ·show (decide (z<0)&&z.natAbs != 0)=decide (z<0)
     by_cases hz:z<0
     ·rw[decide_eq_true hz,Bool.true_and];exact bne_iff_ne.2 (by omega)
     ·rw[decide_eq_false hz,Bool.false_and]
    ·rw[he];exact .agg _ rfl h12 hr2⟩
end Go.Proofs.YtckccjhflbljgaaGreatDoor
