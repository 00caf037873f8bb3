/- Part 20 of a proof: rules, plain facts, and functions walked. -/
import Derived.Test.YtckccjhflbljgaaGreatDoorM19
set_option linter.all false
namespace Go.Fid
def dgs:Nat->Nat->List UInt8
 |0,_=>[]
 |f+1,n=>if n<10 then [UInt8.ofNat (48+n)] else dgs f (n / 10)++[UInt8.ofNat (48+n % 10)]
def itN(n:Nat):List UInt8:=dgs 20 n
def iU(n:Nat):List UInt8:=List.replicate (9-(itN n).length) 48++itN n
def txG:List Nat->List UInt8
 |[]=>[]
 |d::l=>itN d++(l.map iU).flatten
def txN(n:Nat):List UInt8:=if (ofNat n).length=0 then [48] else txG (ofNat n).reverse
def aF(z:Int):List UInt8:=if z<0 then 45::txN z.natAbs else txN z.natAbs
def txQ(q:Rat):ByteArray:=⟨(if q.den=1 then aF q.num else aF q.num++47::aF q.den).toArray⟩
structure uQ where
 tm:List jO
 kn:List ((Int × Int × Int) × Int)
 os:List (ByteArray × Int)
 us:List Int
 ov:Bool
def rb0:uQ:=⟨[],[],[],[],false⟩
def qQ(B:uQ)(n:jO)(s:Int):uQ × Int:=if 4096<s\/400<=B.tm.length then ({ B with ov:=true },0) else ({ B with tm:=B.tm++[n],us:=B.us++[s] },(B.tm.length:Int))
def vN(B:uQ)(q:Rat):uQ × Int:=match xF B.os (txQ q) with
 |some i=>(B,i)
 |none=>let r:=qQ B ⟨0,0,0,jM q⟩ 1;({ r.1 with os:=r.1.os++[(txQ q,r.2)] },r.2)
def bIs(B:uQ)(i:Int)(n:Int):Bool:=(decide (i<(B.tm.length:Int))&&((B.tm.getD i.toNat tz).op == 0))&&(mE (vC (B.tm.getD i.toNat tz).n) (n:Rat) == 0)
def bSz(B:uQ)(o i k:Int):Int:=if o=6 then B.us.getD i.toNat 0 else if o=7 then 2*B.us.getD i.toNat 0 else if kZ o=2 then B.us.getD i.toNat 0+B.us.getD k.toNat 0 else 1
def jJ(B:uQ)(o i k:Int):uQ × Int:=match xF B.kn (o,i,k) with
 |some v=>(B,v)
 |none=>if B.ov=true then (B,0) else let r:=qQ B ⟨o,i,k,zr⟩ (bSz B o i k);({ r.1 with kn:=r.1.kn++[((o,i,k),r.2)] },r.2)
def yU(B:uQ)(i k:Int):uQ × Int:=if bIs B i 0=true then (B,k) else if bIs B k 0=true then (B,i) else jJ B 2 i k
def qU(B:uQ)(i k:Int):uQ × Int:=if bIs B k 0=true then (B,i) else if bIs B i 0=true then jJ B 6 k 0 else jJ B 3 i k
def jX(B:uQ)(i k:Int):uQ × Int:=if (bIs B i 0||bIs B k 1)=true then (B,i) else if (bIs B k 0||bIs B i 1)=true then (B,k) else jJ B 4 i k
def gI(L:List Int)(z:Int):Int:=L.getD z.toNat 0
def aV(i z o:Int)(B:uQ)(V S:List Int)(x:jO):uQ × Int × Int :=
 if x.op=0 then let r:=vN B (vC x.n);(r.1,r.2,z)
 else if x.op=1 then let r:=jJ B 1 x.a 0;(r.1,r.2,if x.a=i then o else z)
 else if x.op=6 then let r:=jJ B 6 (gI V x.a) 0;let d:=qU r.1 z (gI S x.a);(d.1,r.2,d.2)
 else if x.op=7 then
  let r:=jJ B 7 (gI V x.a) 0;let p:=jX r.1 (gI V x.a) (gI S x.a)
  if p.2=z then (p.1,r.2,z) else let w:=vN p.1 ((2:Int):Rat);let u:=jX w.1 w.2 p.2;(u.1,r.2,u.2)
 else if x.op=2 then let r:=jJ B 2 (gI V x.a) (gI V x.b);let d:=yU r.1 (gI S x.a) (gI S x.b);(d.1,r.2,d.2)
 else if x.op=3 then let r:=jJ B 3 (gI V x.a) (gI V x.b);let d:=qU r.1 (gI S x.a) (gI S x.b);(d.1,r.2,d.2)
 else if x.op=4 then
  let r:=jJ B 4 (gI V x.a) (gI V x.b);let p:=jX r.1 (gI V x.a) (gI S x.b);let q:=jX p.1 (gI V x.b) (gI S x.a);let d:=yU q.1 p.2 q.2
  (d.1,r.2,d.2)
 else
  let r:=jJ B 5 (gI V x.a) (gI V x.b);let p:=jX r.1 r.2 (gI S x.b);let d:=qU p.1 (gI S x.a) p.2
  if bIs d.1 d.2 0=true then (d.1,r.2,z) else let q:=jJ d.1 5 d.2 (gI V x.b);(q.1,r.2,q.2)
def gH:uQ × Int:=vN rb0 ((0:Int):Rat)
def dOn:uQ × Int:=vN gH.1 ((1:Int):Rat)
def dU(i:Int)(t:List jO):Nat->uQ × List Int × List Int
 |0=>(dOn.1,[],[])
 |k+1=>let r:=dU i t k;let d:=aV i gH.2 dOn.2 r.1 r.2.1 r.2.2 (t.getD k tz);(d.1,r.2.1++[d.2.1],r.2.2++[d.2.2])
def ndS(t:List jO)(nd:List Bool)(i:Nat):List Bool :=
 if nd.getD i false=false then nd
 else if 0<kZ (t.getD i tz).op then
  if 1<kZ (t.getD i tz).op then (nd.set (t.getD i tz).a.toNat true).set (t.getD i tz).b.toNat true else nd.set (t.getD i tz).a.toNat true
 else nd
def ndL(t:List jO)(nd:List Bool):Nat->List Bool
 |0=>nd
 |i+1=>ndL t (ndS t nd i) i
def ndA(t:List jO)(at_:Nat):List Bool:=ndL t ((List.replicate t.length false).set at_ true) (at_+1)
def rnN(nm:List Int)(x:jO):jO:=if 0<kZ x.op then (if 1<kZ x.op then ⟨x.op,nm.getD x.a.toNat 0,nm.getD x.b.toNat 0,x.n⟩ else ⟨x.op,nm.getD x.a.toNat 0,x.b,x.n⟩) else x
def tmS(t:List jO)(nd:List Bool)(r:List Int × List jO)(i:Nat):List Int × List jO :=
 if nd.getD i false=false then r else (r.1.set i (r.2.length:Int),r.2++[rnN r.1 (t.getD i tz)])
def tmF(t:List jO)(nd:List Bool):Nat->List Int × List jO
 |0=>(List.replicate t.length 0,[])
 |k+1=>tmS t nd (tmF t nd k) k
def yA(t:List jO)(at_:Nat):List jO:=(tmF t (ndA t at_) (at_+1)).2
def drvT(i:Int)(t:List jO):List jO:=let r:=dU i t t.length;yA r.1.tm (gI r.2.2 ((t.length:Int)-1)).toNat
def dOv(i:Int)(t:List jO):Bool:=(List.range t.length).any fun k=>(dU i t (k+1)).1.ov
def eP(x:jO)(j:Nat):Prop:=(0<kZ x.op->0<=x.a/\x.a<(j:Int))/\(1<kZ x.op->0<=x.b/\x.b<(j:Int))
structure RBI (B:uQ):Prop where
 hl:B.tm.length<=400
 hu:B.us.length=B.tm.length
 hs:∀ j,j<B.us.length->1<=B.us.getD j 0/\B.us.getD j 0<=4096
 hq:∀ x∈B.tm,yX x.n (vC x.n) 1048576
 ho:∀ j,j<B.tm.length->eP (B.tm.getD j tz) j
 hk:∀ e∈B.kn,0<=e.2/\e.2<(B.tm.length:Int)
 hos:∀ e∈B.os,0<=e.2/\e.2<(B.tm.length:Int)
theorem RBI.q{B:uQ}(h:RBI B){j:Nat}(hj:j<B.tm.length):yX (B.tm.getD j tz).n (vC (B.tm.getD j tz).n) 1048576:=by
 rw[List.getD_eq_getElem?_getD,List.getElem?_eq_getElem hj];exact h.hq _ (List.getElem_mem _)
def gX(B:uQ)(i:Int):Prop:=0<=i/\i<(B.tm.length:Int)
def Ok3(B:uQ)(r:uQ × Int):Prop:=RBI r.1/\gX r.1 r.2/\B.tm.length<=r.1.tm.length
theorem gX.up{B B':uQ}{i:Int}(h:gX B i)(hl:B.tm.length<=B'.tm.length):gX B' i:=⟨h.1,by have:=h.2;omega⟩
theorem Ok3.ix{B:uQ}{r:uQ × Int}(h:Ok3 B r){i:Int}(hi:gX B i):gX r.1 i:=hi.up h.2.2
theorem rbi0:RBI rb0:=⟨by decide,rfl,fun j h=>absurd h (Nat.not_lt_zero j),by intro x h;(cases h),fun j h=>absurd h (Nat.not_lt_zero j),by intro e h;(cases h),by intro e h;(cases h)⟩
theorem ok3_self{B:uQ}{i:Int}(hB:RBI B)(hi:gX B i):Ok3 B (B,i):=⟨hB,hi,Nat.le_refl _⟩
theorem bAdd_t{B:uQ}{x:jO}{z:Int}(h:(decide (4096<z)||decide (((400:Nat):Int)<=((B.tm.length:Nat):Int)))=true):qQ B x z=(uQ.mk B.tm B.kn B.os B.us true,0):=by
 rw[Bool.or_eq_true,decide_eq_true_eq,decide_eq_true_eq] at h
 exact if_pos (by omega)
theorem bAdd_f{B:uQ}{x:jO}{z:Int}(h:(decide (4096<z)||decide (((400:Nat):Int)<=((B.tm.length:Nat):Int)))=false):qQ B x z=(uQ.mk (B.tm++[x]) B.kn B.os (B.us++[z]) B.ov,((B.tm.length:Nat):Int)):=by
 rw[Bool.or_eq_false_iff,decide_eq_false_iff_not,decide_eq_false_iff_not] at h
 exact if_neg (by omega)
theorem uO{α:Type}(l:List α)(x d:α)(j:Nat):(l++[x]).getD j d=if j<l.length then l.getD j d else if j=l.length then x else d:=by
 rw[List.getD_eq_getElem?_getD]
 split
 ·rename_i h;rw[List.getElem?_append_left h,<- List.getD_eq_getElem?_getD]
 ·rename_i h
  rw[List.getElem?_append_right (by omega)]
  split
  ·rename_i h2;rw[h2,Nat.sub_self];rfl
  ·rename_i h2
   rw[List.getElem?_eq_none (by simp;omega)];rfl
theorem bAdd_ok{B:uQ}{x:jO}{z:Int}(hB:RBI B)(hx:yX x.n (vC x.n) 1048576)(ho:eP x B.tm.length)(h1:1<=z)(hz:4096<z->0<B.tm.length):Ok3 B (qQ B x z):=by
 have hl:=hB.hl;have hu:=hB.hu
 unfold qQ
 split
 ·rename_i h
  exact ⟨⟨hB.hl,hB.hu,hB.hs,hB.hq,hB.ho,hB.hk,hB.hos⟩,⟨Int.le_refl _,show (0:Int)<((B.tm.length:Nat):Int) by rcases h with h | h;have:=hz h;omega;omega⟩,Nat.le_refl _⟩
 ·rename_i h
  refine ⟨⟨?_,?_,fun j hj=>?_,fun y hy=>?_,fun j hj=>?_,fun e he=>?_,fun e he=>?_⟩,⟨Int.natCast_nonneg _,?_⟩,?_⟩
  ·show (B.tm++[x]).length<=400
   rw[List.length_append,List.length_singleton];omega
  ·show (B.us++[z]).length=(B.tm++[x]).length
   rw[List.length_append,List.length_append,hu];rfl
  ·show 1<=(B.us++[z]).getD j 0/\(B.us++[z]).getD j 0<=4096
   have hj:j<(B.us++[z]).length:=hj
   rw[List.length_append,List.length_singleton] at hj
   rw[uO]
   split
   ·rename_i h2;exact hB.hs j h2
   ·rw[if_pos (by omega)];omega
  ·have hy:y∈B.tm++[x]:=hy
   rw[List.mem_append,List.mem_singleton] at hy
   rcases hy with hy | hy
   ·exact hB.hq y hy
   ·subst hy;exact hx
  ·show eP ((B.tm++[x]).getD j tz) j
   have hj:j<(B.tm++[x]).length:=hj
   rw[List.length_append,List.length_singleton] at hj
   rw[uO]
   split
   ·rename_i h2;exact hB.ho j h2
   ·rw[if_pos (by omega),show j=B.tm.length by omega];exact ho
  ·have:=hB.hk e he
   refine ⟨this.1,?_⟩
   show e.2<(((B.tm++[x]).length:Nat):Int)
   rw[List.length_append,List.length_singleton];omega
  ·have:=hB.hos e he
   refine ⟨this.1,?_⟩
   show e.2<(((B.tm++[x]).length:Nat):Int)
   rw[List.length_append,List.length_singleton];omega
  ·show ((B.tm.length:Nat):Int)<(((B.tm++[x]).length:Nat):Int)
   rw[List.length_append,List.length_singleton];omega
  ·show B.tm.length<=(B.tm++[x]).length
   rw[List.length_append];omega
theorem bNum_t{B:uQ}{q:Rat}(h:(xF B.os (txQ q)).isSome=true):vN B q=(B,(xF B.os (txQ q)).getD 0):=by
 unfold vN
 cases hg:xF B.os (txQ q) with
 |none=>rw[hg] at h;cases h
 |some v=>rfl
theorem bNum_f{B:uQ}{q:Rat}(h:(xF B.os (txQ q)).isSome=false):vN B q=(uQ.mk (qQ B ⟨0,0,0,jM q⟩ 1).1.tm (qQ B ⟨0,0,0,jM q⟩ 1).1.kn ((qQ B ⟨0,0,0,jM q⟩ 1).1.os++[(txQ q,(qQ B ⟨0,0,0,jM q⟩ 1).2)]) (qQ B ⟨0,0,0,jM q⟩ 1).1.us (qQ B ⟨0,0,0,jM q⟩ 1).1.ov,(qQ B ⟨0,0,0,jM q⟩ 1).2):=by
 unfold vN
 cases hg:xF B.os (txQ q) with
 |none=>rfl
 |some v=>rw[hg] at h;cases h
theorem bAdd_os(B:uQ)(x:jO)(z:Int):(qQ B x z).1.os=B.os/\(qQ B x z).1.kn=B.kn:=by
 unfold qQ;split<;>exact ⟨rfl,rfl⟩
theorem getK_ok{κ:Type}[DecidableEq κ]{l:List (κ × Int)}{a:κ}{n:Nat}(h:∀ e∈l,0<=e.2/\e.2<(n:Int))(hs:(xF l a).isSome=true):0<=(xF l a).getD 0/\(xF l a).getD 0<(n:Int):=by
 cases hg:xF l a with
 |none=>rw[hg] at hs;cases hs
 |some v=>exact h _ (getK_mem hg)
theorem bNum_ok{B:uQ}{q:Rat}(hB:RBI B)(hq:QL q 1048576):Ok3 B (vN B q):=by
 cases hs:(xF B.os (txQ q)).isSome with
 |true=>rw[bNum_t hs];exact ⟨hB,getK_ok hB.hos hs,Nat.le_refl _⟩
 |false=>
  rw[bNum_f hs]
  obtain ⟨h1,h2,h3⟩:=bAdd_ok (x:=⟨0,0,0,jM q⟩) (z:=1) hB (qX (kC hq)) ⟨fun h=>absurd h (show ¬ 0<kZ 0 by decide),fun h=>absurd h (show ¬ 1<kZ 0 by decide)⟩ (by decide) (fun h=>absurd h (by decide))
  refine ⟨⟨h1.hl,h1.hu,h1.hs,h1.hq,h1.ho,h1.hk,fun e he=>?_⟩,h2,h3⟩
  have he:e∈(qQ B ⟨0,0,0,jM q⟩ 1).1.os++[(txQ q,(qQ B ⟨0,0,0,jM q⟩ 1).2)]:=he
  rw[List.mem_append,List.mem_singleton] at he
  rcases he with he | he
  ·exact h1.hos e he
  ·subst he;exact h2
theorem iK{B:uQ}{o i k:Int}(h:((xF B.kn (o,i,k)).isSome||B.ov)=true):jJ B o i k=(B,(xF B.kn (o,i,k)).getD 0):=by
 unfold jJ
 cases hg:xF B.kn (o,i,k) with
 |none=>rw[hg] at h;exact if_pos (by simpa using h)
 |some v=>rfl
theorem bNode_f{B:uQ}{o i k z:Int}(h:((xF B.kn (o,i,k)).isSome||B.ov)=false)(hz:z=bSz B o i k):jJ B o i k=(uQ.mk (qQ B ⟨o,i,k,zr⟩ z).1.tm ((qQ B ⟨o,i,k,zr⟩ z).1.kn++[((o,i,k),(qQ B ⟨o,i,k,zr⟩ z).2)]) (qQ B ⟨o,i,k,zr⟩ z).1.os (qQ B ⟨o,i,k,zr⟩ z).1.us (qQ B ⟨o,i,k,zr⟩ z).1.ov,(qQ B ⟨o,i,k,zr⟩ z).2):=by
 subst hz
 rw[Bool.or_eq_false_iff] at h
 unfold jJ
 cases hg:xF B.kn (o,i,k) with
 |none=>exact if_neg (by rw[h.2];decide)
 |some v=>rw[hg] at h;cases h.1
def NdAr(B:uQ)(o i k:Int):Prop:=(o=1/\k=0/\0<B.tm.length)\/(2<=o/\o<=7/\gX B i/\gX B k)
theorem qok_zr:yX zr (vC zr) 1048576:=iY (by decide) (by decide) (by decide)
theorem NdAr.sz{B:uQ}(hB:RBI B){o i k:Int}(h:NdAr B o i k):1<=bSz B o i k/\bSz B o i k<=8192:=by
 have hu:=hB.hu
 unfold bSz
 rcases h with ⟨rfl,rfl,_⟩ | ⟨h1,h2,hi,hk⟩
 ·simp [kZ]
 ·have a:=hB.hs i.toNat (by have:=hi.1;have:=hi.2;omega)
  have b:=hB.hs k.toNat (by have:=hk.1;have:=hk.2;omega)
  split
  ·omega
  ·split
   ·omega
   ·split<;>omega
theorem NdAr.ge2{B:uQ}(hB:RBI B){o i k:Int}(h:NdAr B o i k)(ho:o≠1):gX B i/\gX B k/\(1<=B.us.getD i.toNat 0/\B.us.getD i.toNat 0<=4096)/\(1<=B.us.getD k.toNat 0/\B.us.getD k.toNat 0<=4096):=by
 have hu:=hB.hu
 rcases h with ⟨rfl,_⟩ | ⟨h1,h2,hi,hk⟩
 ·exact absurd rfl ho
 ·exact ⟨hi,hk,hB.hs i.toNat (by have:=hi.1;have:=hi.2;omega),hB.hs k.toNat (by have:=hk.1;have:=hk.2;omega)⟩
theorem NdAr.pos{B:uQ}{o i k:Int}(h:NdAr B o i k):0<B.tm.length:=by
 rcases h with ⟨_,_,h⟩ | ⟨_,_,h,_⟩
 ·exact h
 ·have:=h.1;have:=h.2;omega
theorem NdAr.ord{B:uQ}{o i k:Int}(h:NdAr B o i k):eP ⟨o,i,k,zr⟩ B.tm.length:=by
 rcases h with ⟨rfl,rfl,_⟩ | ⟨h1,h2,hi,hk⟩
 ·exact ⟨fun h=>absurd h (show ¬ 0<kZ 1 by decide),fun h=>absurd h (show ¬ 1<kZ 1 by decide)⟩
 ·exact ⟨fun _=>hi,fun _=>hk⟩
theorem bP{B:uQ}{o i k:Int}(hB:RBI B)(h:NdAr B o i k):Ok3 B (jJ B o i k):=by
 cases hs:((xF B.kn (o,i,k)).isSome||B.ov) with
 |true=>
  rw[iK hs]
  refine ⟨hB,?_,Nat.le_refl _⟩
  cases hg:xF B.kn (o,i,k) with
  |none=>exact ⟨Int.le_refl _,by have:=h.pos;show (0:Int)<((B.tm.length:Nat):Int);omega⟩
  |some v=>exact hB.hk _ (getK_mem hg)
 |false=>
  rw[bNode_f hs rfl]
  obtain ⟨h1,h2,h3⟩:=bAdd_ok (x:=⟨o,i,k,zr⟩) (z:=bSz B o i k) hB qok_zr h.ord (h.sz hB).1 (fun _=>h.pos)
  refine ⟨⟨h1.hl,h1.hu,h1.hs,h1.hq,h1.ho,fun e he=>?_,h1.hos⟩,h2,h3⟩
  have he:e∈(qQ B ⟨o,i,k,zr⟩ (bSz B o i k)).1.kn++[((o,i,k),(qQ B ⟨o,i,k,zr⟩ (bSz B o i k)).2)]:=he
  rw[List.mem_append,List.mem_singleton] at he
  rcases he with he | he
  ·exact h1.hk e he
  ·subst he;exact h2
theorem bSum_ok{B:uQ}{i k:Int}(hB:RBI B)(hi:gX B i)(hk:gX B k):Ok3 B (yU B i k):=by
 unfold yU
 split
 ·exact ok3_self hB hk
 ·split
  ·exact ok3_self hB hi
  ·exact bP hB (.inr ⟨by decide,by decide,hi,hk⟩)
theorem gX.pos{B:uQ}{i:Int}(h:gX B i):gX B 0:=⟨Int.le_refl _,by have:=h.1;have:=h.2;omega⟩
theorem lL{B:uQ}{i k:Int}(hB:RBI B)(hi:gX B i)(hk:gX B k):Ok3 B (qU B i k):=by
 unfold qU
 split
 ·exact ok3_self hB hi
 ·split
  ·exact bP hB (.inr ⟨by decide,by decide,hk,hk.pos⟩)
  ·exact bP hB (.inr ⟨by decide,by decide,hi,hk⟩)
theorem nW{B:uQ}{i k:Int}(hB:RBI B)(hi:gX B i)(hk:gX B k):Ok3 B (jX B i k):=by
 unfold jX
 split
 ·exact ok3_self hB hi
 ·split
  ·exact ok3_self hB hk
  ·exact bP hB (.inr ⟨by decide,by decide,hi,hk⟩)
theorem bSum_1{B:uQ}{i k:Int}(h:bIs B i 0=true):yU B i k=(B,k):=if_pos h
theorem bSum_2{B:uQ}{i k:Int}(h:bIs B i 0=false)(h2:bIs B k 0=true):yU B i k=(B,i):=by unfold yU;rw[if_neg (by rw[h];decide),if_pos h2]
theorem bSum_3{B:uQ}{i k:Int}(h:bIs B i 0=false)(h2:bIs B k 0=false):yU B i k=jJ B 2 i k:=by unfold yU;rw[if_neg (by rw[h];decide),if_neg (by rw[h2];decide)]
theorem bDif_1{B:uQ}{i k:Int}(h:bIs B k 0=true):qU B i k=(B,i):=if_pos h
theorem bDif_2{B:uQ}{i k:Int}(h:bIs B k 0=false)(h2:bIs B i 0=true):qU B i k=jJ B 6 k 0:=by unfold qU;rw[if_neg (by rw[h];decide),if_pos h2]
theorem bDif_3{B:uQ}{i k:Int}(h:bIs B k 0=false)(h2:bIs B i 0=false):qU B i k=jJ B 3 i k:=by unfold qU;rw[if_neg (by rw[h];decide),if_neg (by rw[h2];decide)]
theorem bPrd_1{B:uQ}{i k:Int}(h:(bIs B i 0||bIs B k 1)=true):jX B i k=(B,i):=if_pos h
theorem bPrd_2{B:uQ}{i k:Int}(h:(bIs B i 0||bIs B k 1)=false)(h2:(bIs B k 0||bIs B i 1)=true):jX B i k=(B,k):=by unfold jX;rw[if_neg (by rw[h];decide),if_pos h2]
theorem bPrd_3{B:uQ}{i k:Int}(h:(bIs B i 0||bIs B k 1)=false)(h2:(bIs B k 0||bIs B i 1)=false):jX B i k=jJ B 4 i k:=by unfold jX;rw[if_neg (by rw[h];decide),if_neg (by rw[h2];decide)]
theorem bSz_6{B:uQ}{o i k:Int}(h:o=6):B.us.getD i.toNat 0=bSz B o i k:=(if_pos h).symm
theorem bSz_7{B:uQ}{o i k:Int}(h6:o≠6)(h:o=7):2*B.us.getD i.toNat 0=bSz B o i k:=by unfold bSz;rw[if_neg h6,if_pos h]
theorem bSz_2{B:uQ}{o i k:Int}(h6:o≠6)(h7:o≠7)(h:kZ o=2):B.us.getD i.toNat 0+B.us.getD k.toNat 0=bSz B o i k:=by unfold bSz;rw[if_neg h6,if_neg h7,if_pos h]
theorem bSz_1{B:uQ}{o i k:Int}(h6:o≠6)(h7:o≠7)(h:kZ o≠2):(1:Int)=bSz B o i k:=by unfold bSz;rw[if_neg h6,if_neg h7,if_neg h]
def OrdT(t:List jO):Prop:=∀ j,j<t.length->eP (t.getD j tz) j
theorem ndS_n{t:List jO}{nd:List Bool}{i:Nat}(h:(!(nd.getD i false))=true):ndS t nd i=nd:=if_pos (by simpa using h)
theorem ndS_0{t:List jO}{nd:List Bool}{i:Nat}(h:(!(nd.getD i false))=false)(h1:¬ 0<kZ (t.getD i tz).op):ndS t nd i=nd:=by
 unfold ndS;rw[if_neg (by simpa using h),if_neg h1]
theorem ndS_1{t:List jO}{nd:List Bool}{i:Nat}(h:(!(nd.getD i false))=false)(h1:0<kZ (t.getD i tz).op)(h2:¬ 1<kZ (t.getD i tz).op):ndS t nd i=nd.set (t.getD i tz).a.toNat true:=by
 unfold ndS;rw[if_neg (by simpa using h),if_pos h1,if_neg h2]
theorem ndS_2{t:List jO}{nd:List Bool}{i:Nat}(h:(!(nd.getD i false))=false)(h1:0<kZ (t.getD i tz).op)(h2:1<kZ (t.getD i tz).op):ndS t nd i=(nd.set (t.getD i tz).a.toNat true).set (t.getD i tz).b.toNat true:=by
 unfold ndS;rw[if_neg (by simpa using h),if_pos h1,if_pos h2]
theorem ndS_len(t:List jO)(nd:List Bool)(i:Nat):(ndS t nd i).length=nd.length:=by
 unfold ndS;split
 ·rfl
 ·split
  ·split<;>simp only[List.length_set]
  ·rfl
theorem ndL_step{t:List jO}{nd nd2 X:List Bool}{z:Int}(h0:0<=z)(h:ndL t nd (z+1).toNat=X)(e:ndS t nd z.toNat=nd2):ndL t nd2 (z-1+1).toNat=X:=by
 rw[show (z-1+1).toNat=z.toNat by omega,<- e]
 rw[show (z+1).toNat=z.toNat+1 by omega] at h
 exact h
theorem ndL_end{t:List jO}{nd X:List Bool}{z:Int}(h0:¬ 0<=z)(h:ndL t nd (z+1).toNat=X):nd=X:=by
 rw[show (z+1).toNat=0 by omega] at h;exact h
theorem tmF_len(t:List jO)(nd:List Bool):∀ k,(tmF t nd k).1.length=t.length/\(tmF t nd k).2.length<=k
 |0=>⟨List.length_replicate,Nat.le_refl _⟩
 |k+1=>by
  obtain ⟨h1,h2⟩:=tmF_len t nd k
  rw[tmF];unfold tmS
  split
  ·exact ⟨h1,by omega⟩
  ·exact ⟨by rw[List.length_set];exact h1,by rw[List.length_append,List.length_singleton];omega⟩
theorem tmF_n{t:List jO}{nd:List Bool}{k:Nat}{nm:List Int}{o:List jO}(h:tmF t nd k=(nm,o))(hn:(!(nd.getD k false))=true):tmF t nd (k+1)=(nm,o):=by
 rw[tmF,h];exact if_pos (by simpa using hn)
theorem tmF_y{t:List jO}{nd:List Bool}{k:Nat}{nm:List Int}{o:List jO}{x:jO}(h:tmF t nd k=(nm,o))(hn:(!(nd.getD k false))=false)(hx:x=rnN nm (t.getD k tz)):tmF t nd (k+1)=(nm.set k ((o.length:Nat):Int),o++[x]):=by
 subst hx;rw[tmF,h];exact if_neg (by simpa using hn)
theorem rnN_0{nm:List Int}{x:jO}(h:¬ 0<kZ x.op):x=rnN nm x:=(if_neg h).symm
theorem rnN_1{nm:List Int}{x:jO}(h:0<kZ x.op)(h2:¬ 1<kZ x.op):jO.mk x.op (nm.getD x.a.toNat 0) x.b x.n=rnN nm x:=by unfold rnN;rw[if_pos h,if_neg h2]
theorem rnN_2{nm:List Int}{x:jO}(h:0<kZ x.op)(h2:1<kZ x.op):jO.mk x.op (nm.getD x.a.toNat 0) (nm.getD x.b.toNat 0) x.n=rnN nm x:=by unfold rnN;rw[if_pos h,if_pos h2]
theorem take_getDr{α:Type}(l:List α){n k:Nat}(d:α)(h:k<n):(l.take n).getD k d=l.getD k d:=by
 rw[List.getD_eq_getElem?_getD,List.getElem?_take_of_lt h,<- List.getD_eq_getElem?_getD]
theorem tm_lenk{t:List jO}{nd:List Bool}{k:Nat}{nm:List Int}{o:List jO}(h:tmF t nd k=(nm,o)):nm.length=t.length/\o.length<=k:=by
 have:=tmF_len t nd k;rw[h] at this;exact this
section
variable {i z o:Int} {B:uQ} {V S:List Int} {x:jO}
theorem dNd_0(h:x.op=0):aV i z o B V S x=((vN B (vC x.n)).1,(vN B (vC x.n)).2,z):=if_pos h
theorem dNd_1(h:x.op=1):aV i z o B V S x=((jJ B 1 x.a 0).1,(jJ B 1 x.a 0).2,if x.a=i then o else z):=by unfold aV;rw[if_neg (by omega),if_pos h]
theorem dNd_6(h:x.op=6):aV i z o B V S x=((qU (jJ B 6 (gI V x.a) 0).1 z (gI S x.a)).1,(jJ B 6 (gI V x.a) 0).2,(qU (jJ B 6 (gI V x.a) 0).1 z (gI S x.a)).2):=by
 unfold aV;rw[if_neg (by omega),if_neg (by omega),if_pos h]
theorem dNd_7z(h:x.op=7)(hz:(jX (jJ B 7 (gI V x.a) 0).1 (gI V x.a) (gI S x.a)).2=z):aV i z o B V S x=((jX (jJ B 7 (gI V x.a) 0).1 (gI V x.a) (gI S x.a)).1,(jJ B 7 (gI V x.a) 0).2,z):=by
 unfold aV;rw[if_neg (by omega),if_neg (by omega),if_neg (by omega),if_pos h];exact if_pos hz
theorem dNd_7(h:x.op=7)(hz:(jX (jJ B 7 (gI V x.a) 0).1 (gI V x.a) (gI S x.a)).2≠z):aV i z o B V S x=((jX (vN (jX (jJ B 7 (gI V x.a) 0).1 (gI V x.a) (gI S x.a)).1 ((2:Int):Rat)).1 (vN (jX (jJ B 7 (gI V x.a) 0).1 (gI V x.a) (gI S x.a)).1 ((2:Int):Rat)).2 (jX (jJ B 7 (gI V x.a) 0).1 (gI V x.a) (gI S x.a)).2).1,(jJ B 7 (gI V x.a) 0).2,(jX (vN (jX (jJ B 7 (gI V x.a) 0).1 (gI V x.a) (gI S x.a)).1 ((2:Int):Rat)).1 (vN (jX (jJ B 7 (gI V x.a) 0).1 (gI V x.a) (gI S x.a)).1 ((2:Int):Rat)).2 (jX (jJ B 7 (gI V x.a) 0).1 (gI V x.a) (gI S x.a)).2).2):=by
 unfold aV;rw[if_neg (by omega),if_neg (by omega),if_neg (by omega),if_pos h];exact if_neg hz
theorem dNd_2(h:x.op=2):aV i z o B V S x=((yU (jJ B 2 (gI V x.a) (gI V x.b)).1 (gI S x.a) (gI S x.b)).1,(jJ B 2 (gI V x.a) (gI V x.b)).2,(yU (jJ B 2 (gI V x.a) (gI V x.b)).1 (gI S x.a) (gI S x.b)).2):=by
 unfold aV;rw[if_neg (by omega),if_neg (by omega),if_neg (by omega),if_neg (by omega),if_pos h]
theorem dNd_3(h:x.op=3):aV i z o B V S x=((qU (jJ B 3 (gI V x.a) (gI V x.b)).1 (gI S x.a) (gI S x.b)).1,(jJ B 3 (gI V x.a) (gI V x.b)).2,(qU (jJ B 3 (gI V x.a) (gI V x.b)).1 (gI S x.a) (gI S x.b)).2):=by
 unfold aV;rw[if_neg (by omega),if_neg (by omega),if_neg (by omega),if_neg (by omega),if_neg (by omega),if_pos h]
theorem dNd_4(h:x.op=4):aV i z o B V S x=((yU (jX (jX (jJ B 4 (gI V x.a) (gI V x.b)).1 (gI V x.a) (gI S x.b)).1 (gI V x.b) (gI S x.a)).1 (jX (jJ B 4 (gI V x.a) (gI V x.b)).1 (gI V x.a) (gI S x.b)).2 (jX (jX (jJ B 4 (gI V x.a) (gI V x.b)).1 (gI V x.a) (gI S x.b)).1 (gI V x.b) (gI S x.a)).2).1,(jJ B 4 (gI V x.a) (gI V x.b)).2,(yU (jX (jX (jJ B 4 (gI V x.a) (gI V x.b)).1 (gI V x.a) (gI S x.b)).1 (gI V x.b) (gI S x.a)).1 (jX (jJ B 4 (gI V x.a) (gI V x.b)).1 (gI V x.a) (gI S x.b)).2 (jX (jX (jJ B 4 (gI V x.a) (gI V x.b)).1 (gI V x.a) (gI S x.b)).1 (gI V x.b) (gI S x.a)).2).2):=by
 unfold aV;rw[if_neg (by omega),if_neg (by omega),if_neg (by omega),if_neg (by omega),if_neg (by omega),if_neg (by omega),if_pos h]
theorem dNd_5z(h:5=x.op)(hz:bIs (qU (jX (jJ B 5 (gI V x.a) (gI V x.b)).1 (jJ B 5 (gI V x.a) (gI V x.b)).2 (gI S x.b)).1 (gI S x.a) (jX (jJ B 5 (gI V x.a) (gI V x.b)).1 (jJ B 5 (gI V x.a) (gI V x.b)).2 (gI S x.b)).2).1 (qU (jX (jJ B 5 (gI V x.a) (gI V x.b)).1 (jJ B 5 (gI V x.a) (gI V x.b)).2 (gI S x.b)).1 (gI S x.a) (jX (jJ B 5 (gI V x.a) (gI V x.b)).1 (jJ B 5 (gI V x.a) (gI V x.b)).2 (gI S x.b)).2).2 0=true) :
  aV i z o B V S x=((qU (jX (jJ B 5 (gI V x.a) (gI V x.b)).1 (jJ B 5 (gI V x.a) (gI V x.b)).2 (gI S x.b)).1 (gI S x.a) (jX (jJ B 5 (gI V x.a) (gI V x.b)).1 (jJ B 5 (gI V x.a) (gI V x.b)).2 (gI S x.b)).2).1,(jJ B 5 (gI V x.a) (gI V x.b)).2,z):=by
 unfold aV;rw[if_neg (by omega),if_neg (by omega),if_neg (by omega),if_neg (by omega),if_neg (by omega),if_neg (by omega),if_neg (by omega)];exact if_pos hz
theorem dNd_5(h:5=x.op)(hz:bIs (qU (jX (jJ B 5 (gI V x.a) (gI V x.b)).1 (jJ B 5 (gI V x.a) (gI V x.b)).2 (gI S x.b)).1 (gI S x.a) (jX (jJ B 5 (gI V x.a) (gI V x.b)).1 (jJ B 5 (gI V x.a) (gI V x.b)).2 (gI S x.b)).2).1 (qU (jX (jJ B 5 (gI V x.a) (gI V x.b)).1 (jJ B 5 (gI V x.a) (gI V x.b)).2 (gI S x.b)).1 (gI S x.a) (jX (jJ B 5 (gI V x.a) (gI V x.b)).1 (jJ B 5 (gI V x.a) (gI V x.b)).2 (gI S x.b)).2).2 0=false) :
  aV i z o B V S x=((jJ (qU (jX (jJ B 5 (gI V x.a) (gI V x.b)).1 (jJ B 5 (gI V x.a) (gI V x.b)).2 (gI S x.b)).1 (gI S x.a) (jX (jJ B 5 (gI V x.a) (gI V x.b)).1 (jJ B 5 (gI V x.a) (gI V x.b)).2 (gI S x.b)).2).1 5 (qU (jX (jJ B 5 (gI V x.a) (gI V x.b)).1 (jJ B 5 (gI V x.a) (gI V x.b)).2 (gI S x.b)).1 (gI S x.a) (jX (jJ B 5 (gI V x.a) (gI V x.b)).1 (jJ B 5 (gI V x.a) (gI V x.b)).2 (gI S x.b)).2).2 (gI V x.b)).1,(jJ B 5 (gI V x.a) (gI V x.b)).2,(jJ (qU (jX (jJ B 5 (gI V x.a) (gI V x.b)).1 (jJ B 5 (gI V x.a) (gI V x.b)).2 (gI S x.b)).1 (gI S x.a) (jX (jJ B 5 (gI V x.a) (gI V x.b)).1 (jJ B 5 (gI V x.a) (gI V x.b)).2 (gI S x.b)).2).1 5 (qU (jX (jJ B 5 (gI V x.a) (gI V x.b)).1 (jJ B 5 (gI V x.a) (gI V x.b)).2 (gI S x.b)).1 (gI S x.a) (jX (jJ B 5 (gI V x.a) (gI V x.b)).1 (jJ B 5 (gI V x.a) (gI V x.b)).2 (gI S x.b)).2).2 (gI V x.b)).2):=by
 unfold aV;rw[if_neg (by omega),if_neg (by omega),if_neg (by omega),if_neg (by omega),if_neg (by omega),if_neg (by omega),if_neg (by omega)];exact if_neg (by rw[hz];decide)
end
structure DPre (k:Nat) (z o:Int) (B:uQ) (V S:List Int) (x:jO):Prop where
 hB:RBI B
 hz:gX B z
 ho:gX B o
 hV:∀ j,j<k->gX B (V.getD j 0)
 hS:∀ j,j<k->gX B (S.getD j 0)
 ord:eP x k
 num:x.op=0->QL (vC x.n) 1048576
 op0:0<=x.op
 op7:x.op<=7
theorem DPre.va{k:Nat}{z o:Int}{B:uQ}{V S:List Int}{x:jO}(h:DPre k z o B V S x)(hk:0<kZ x.op):gX B (gI V x.a):=h.hV _ (by have:=h.ord.1 hk;omega)
theorem DPre.vb{k:Nat}{z o:Int}{B:uQ}{V S:List Int}{x:jO}(h:DPre k z o B V S x)(hk:1<kZ x.op):gX B (gI V x.b):=h.hV _ (by have:=h.ord.2 hk;omega)
theorem DPre.sa{k:Nat}{z o:Int}{B:uQ}{V S:List Int}{x:jO}(h:DPre k z o B V S x)(hk:0<kZ x.op):gX B (gI S x.a):=h.hS _ (by have:=h.ord.1 hk;omega)
theorem DPre.sb{k:Nat}{z o:Int}{B:uQ}{V S:List Int}{x:jO}(h:DPre k z o B V S x)(hk:1<kZ x.op):gX B (gI S x.b):=h.hS _ (by have:=h.ord.2 hk;omega)
def Ok4(B:uQ)(r:uQ × Int × Int):Prop:=RBI r.1/\gX r.1 r.2.1/\gX r.1 r.2.2/\B.tm.length<=r.1.tm.length
theorem nd2{B:uQ}{o a b:Int}(hB:RBI B)(h1:2<=o)(h2:o<=7)(ha:gX B a)(hb:gX B b):Ok3 B (jJ B o a b):=bP hB (.inr ⟨h1,h2,ha,hb⟩)
theorem ql_i{z:Int}(h:z.natAbs<1000000000:=by decide):QL ((z:Int):Rat) 1048576:=zW (Nat.le_trans (xB h) (by decide)) (by decide)
theorem dNd_ok{i:Int}{k:Nat}{z o:Int}{B:uQ}{V S:List Int}{x:jO}(h:DPre k z o B V S x):Ok4 B (aV i z o B V S x):=by
 have h0:=h.op0;have h7:=h.op7
 have hc:x.op=0\/x.op=1\/x.op=2\/x.op=3\/x.op=4\/x.op=5\/x.op=6\/x.op=7:=by omega
 rcases hc with e | e | e | e | e | e | e | e
 ·rw[dNd_0 e]
  have h1:=bNum_ok h.hB (h.num e)
  exact ⟨h1.1,h1.2.1,h1.ix h.hz,h1.2.2⟩
 ·rw[dNd_1 e]
  have h1:=bP (o:=1) (i:=x.a) (k:=0) h.hB (.inl ⟨rfl,rfl,by have:=h.hz.1;have:=h.hz.2;omega⟩)
  refine ⟨h1.1,h1.2.1,?_,h1.2.2⟩
  dsimp only
  split
  ·exact h1.ix h.ho
  ·exact h1.ix h.hz
 ·rw[dNd_2 e]
  have k1:0<kZ x.op:=by rw[e];decide
  have k2:1<kZ x.op:=by rw[e];decide
  have h1:=nd2 h.hB (o:=2) (by decide) (by decide) (h.va k1) (h.vb k2)
  have h2:=bSum_ok h1.1 (h1.ix (h.sa k1)) (h1.ix (h.sb k2))
  exact ⟨h2.1,h2.ix h1.2.1,h2.2.1,Nat.le_trans h1.2.2 h2.2.2⟩
 ·rw[dNd_3 e]
  have k1:0<kZ x.op:=by rw[e];decide
  have k2:1<kZ x.op:=by rw[e];decide
  have h1:=nd2 h.hB (o:=3) (by decide) (by decide) (h.va k1) (h.vb k2)
  have h2:=lL h1.1 (h1.ix (h.sa k1)) (h1.ix (h.sb k2))
  exact ⟨h2.1,h2.ix h1.2.1,h2.2.1,Nat.le_trans h1.2.2 h2.2.2⟩
 ·rw[dNd_4 e]
  have k1:0<kZ x.op:=by rw[e];decide
  have k2:1<kZ x.op:=by rw[e];decide
  have h1:=nd2 h.hB (o:=4) (by decide) (by decide) (h.va k1) (h.vb k2)
  have h2:=nW h1.1 (h1.ix (h.va k1)) (h1.ix (h.sb k2))
  have h3:=nW h2.1 (h2.ix (h1.ix (h.vb k2))) (h2.ix (h1.ix (h.sa k1)))
  have h4:=bSum_ok h3.1 (h3.ix h2.2.1) h3.2.1
  exact ⟨h4.1,h4.ix (h3.ix (h2.ix h1.2.1)),h4.2.1,Nat.le_trans h1.2.2 (Nat.le_trans h2.2.2 (Nat.le_trans h3.2.2 h4.2.2))⟩
 ·have k1:0<kZ x.op:=by rw[e];decide
  have k2:1<kZ x.op:=by rw[e];decide
  have h1:=nd2 h.hB (o:=5) (by decide) (by decide) (h.va k1) (h.vb k2)
  have h2:=nW h1.1 h1.2.1 (h1.ix (h.sb k2))
  have h3:=lL h2.1 (h2.ix (h1.ix (h.sa k1))) h2.2.1
  cases hz:bIs (qU (jX (jJ B 5 (gI V x.a) (gI V x.b)).1 (jJ B 5 (gI V x.a) (gI V x.b)).2 (gI S x.b)).1 (gI S x.a) (jX (jJ B 5 (gI V x.a) (gI V x.b)).1 (jJ B 5 (gI V x.a) (gI V x.b)).2 (gI S x.b)).2).1 (qU (jX (jJ B 5 (gI V x.a) (gI V x.b)).1 (jJ B 5 (gI V x.a) (gI V x.b)).2 (gI S x.b)).1 (gI S x.a) (jX (jJ B 5 (gI V x.a) (gI V x.b)).1 (jJ B 5 (gI V x.a) (gI V x.b)).2 (gI S x.b)).2).2 0 with
  |true=>
   rw[dNd_5z e.symm hz]
   exact ⟨h3.1,h3.ix (h2.ix h1.2.1),h3.ix (h2.ix (h1.ix h.hz)),Nat.le_trans h1.2.2 (Nat.le_trans h2.2.2 h3.2.2)⟩
  |false=>
   rw[dNd_5 e.symm hz]
   have h4:=nd2 h3.1 (o:=5) (by decide) (by decide) h3.2.1 (h3.ix (h2.ix (h1.ix (h.vb k2))))
   exact ⟨h4.1,h4.ix (h3.ix (h2.ix h1.2.1)),h4.2.1,Nat.le_trans h1.2.2 (Nat.le_trans h2.2.2 (Nat.le_trans h3.2.2 h4.2.2))⟩
 ·rw[dNd_6 e]
  have k1:0<kZ x.op:=by rw[e];decide
  have h1:=nd2 h.hB (o:=6) (by decide) (by decide) (h.va k1) (h.va k1).pos
  have h2:=lL h1.1 (h1.ix h.hz) (h1.ix (h.sa k1))
  exact ⟨h2.1,h2.ix h1.2.1,h2.2.1,Nat.le_trans h1.2.2 h2.2.2⟩
 ·have k1:0<kZ x.op:=by rw[e];decide
  have h1:=nd2 h.hB (o:=7) (by decide) (by decide) (h.va k1) (h.va k1).pos
  have h2:=nW h1.1 (h1.ix (h.va k1)) (h1.ix (h.sa k1))
  by_cases hz:(jX (jJ B 7 (gI V x.a) 0).1 (gI V x.a) (gI S x.a)).2=z
  ·rw[dNd_7z e hz]
   exact ⟨h2.1,h2.ix h1.2.1,h2.ix (h1.ix h.hz),Nat.le_trans h1.2.2 h2.2.2⟩
  ·rw[dNd_7 e hz]
   have h3:=bNum_ok (q:=((2:Int):Rat)) h2.1 (ql_i)
   have h4:=nW h3.1 h3.2.1 (h3.ix h2.2.1)
   exact ⟨h4.1,h4.ix (h3.ix (h2.ix h1.2.1)),h4.2.1,Nat.le_trans h1.2.2 (Nat.le_trans h2.2.2 (Nat.le_trans h3.2.2 h4.2.2))⟩
theorem nd_k{n:Int}{t:List jO}(h0:zP n t=0)(hq:∀ x∈t,yX x.n (vC x.n) 1048576){k:Nat}(hk:k<t.length) :
  eP (t.getD k tz) k/\((t.getD k tz).op=0->QL (vC (t.getD k tz).n) 1048576/\(t.getD k tz).n=jM (vC (t.getD k tz).n))/\0<=(t.getD k tz).op/\(t.getD k tz).op<=7:=by
 obtain ⟨h1,h2,h3,_⟩:=nd_0 ((mQ h0).2.2.2.2 k hk)
 rw[qM] at h2
 have hqk:yX (t.getD k tz).n (vC (t.getD k tz).n) 1048576:=by
  rw[List.getD_eq_getElem?_getD,List.getElem?_eq_getElem hk];exact hq _ (List.getElem_mem _)
 generalize t.getD k tz=x at *
 unfold cM at h1
 unfold dJ at h2
 refine ⟨⟨fun h=>by omega,fun h=>by omega⟩,fun h=>?_,?_⟩
 ·have hv:kM x.n=true:=by
   cases hh:kM x.n with
   |true=>rfl
   |false=>exact absurd (Or.inr (Or.inr (Or.inl ⟨h,Or.inr hh⟩))) h1
  exact ⟨hqk.ql,(ofQ_toQ hv).symm⟩
 ·rcases xS x.op with ⟨e,f⟩ | ⟨e,f⟩ | ⟨e,f⟩ | ⟨e,_⟩<;>omega
structure DInv (i:Int) (t:List jO) (k:Nat):Prop where
 hB:RBI (dU i t k).1
 hz:gX (dU i t k).1 gH.2
 ho:gX (dU i t k).1 dOn.2
 lV:(dU i t k).2.1.length=k
 lS:(dU i t k).2.2.length=k
 hV:∀ j,j<k->gX (dU i t k).1 ((dU i t k).2.1.getD j 0)
 hS:∀ j,j<k->gX (dU i t k).1 ((dU i t k).2.2.getD j 0)
theorem dz_ok:Ok3 rb0 gH:=bNum_ok rbi0 (ql_i)
theorem do_ok:Ok3 gH.1 dOn:=bNum_ok dz_ok.1 (ql_i)
theorem DInv.pre{i n:Int}{t:List jO}{k:Nat}(h:DInv i t k)(h0:zP n t=0)(hq:∀ x∈t,yX x.n (vC x.n) 1048576)(hk:k<t.length):DPre k gH.2 dOn.2 (dU i t k).1 (dU i t k).2.1 (dU i t k).2.2 (t.getD k tz):=by
 obtain ⟨h1,h2,h3,h4⟩:=nd_k h0 hq hk
 exact ⟨h.hB,h.hz,h.ho,h.hV,h.hS,h1,fun e=>(h2 e).1,h3,h4⟩
theorem dInv{i n:Int}{t:List jO}(h0:zP n t=0)(hq:∀ x∈t,yX x.n (vC x.n) 1048576):∀ k,k<=t.length->DInv i t k
 |0,_=>⟨do_ok.1,do_ok.ix dz_ok.2.1,do_ok.2.1,rfl,rfl,fun j h=>absurd h (Nat.not_lt_zero j),fun j h=>absurd h (Nat.not_lt_zero j)⟩
 |k+1,hk=>by
  have ih:=dInv (i:=i) h0 hq k (by omega)
  have h:=dNd_ok (i:=i) (ih.pre h0 hq (by omega))
  refine ⟨h.1,ih.hz.up h.2.2.2,ih.ho.up h.2.2.2,?_,?_,fun j hj=>?_,fun j hj=>?_⟩
  ·rw[dU];dsimp only;rw[List.length_append,ih.lV];rfl
  ·rw[dU];dsimp only;rw[List.length_append,ih.lS];rfl
  ·show gX (aV i gH.2 dOn.2 (dU i t k).1 (dU i t k).2.1 (dU i t k).2.2 (t.getD k tz)).1 (((dU i t k).2.1++[(aV i gH.2 dOn.2 (dU i t k).1 (dU i t k).2.1 (dU i t k).2.2 (t.getD k tz)).2.1]).getD j 0)
   rw[uO,ih.lV]
   split
   ·rename_i h5;exact (ih.hV j h5).up h.2.2.2
   ·rw[if_pos (by omega)];exact h.2.1
  ·show gX (aV i gH.2 dOn.2 (dU i t k).1 (dU i t k).2.1 (dU i t k).2.2 (t.getD k tz)).1 (((dU i t k).2.2++[(aV i gH.2 dOn.2 (dU i t k).1 (dU i t k).2.1 (dU i t k).2.2 (t.getD k tz)).2.2]).getD j 0)
   rw[uO,ih.lS]
   split
   ·rename_i h5;exact (ih.hS j h5).up h.2.2.2
   ·rw[if_pos (by omega)];exact h.2.2.1
theorem gI_a{O V:List Int}{k:Nat}(h:O.take k=V){a:Int}(ha:a.toNat<k):O.getD a.toNat 0=gI V a:=by
 unfold gI;rw[<- h,take_getDr _ _ ha]
theorem gI_s{O V:List Int}{k:Nat}{v:Int}(h:O.take k=V){a:Int}(ha:a.toNat<k):(O.set k v).getD a.toNat 0=gI V a:=by
 rw[<- gI_a h ha,List.getD_eq_getElem?_getD,List.getElem?_set_ne (by omega),<- List.getD_eq_getElem?_getD]
structure DLst (i:Int) (t:List jO) (k:Nat) (O Q:List Int):Prop where
 lO:O.length=t.length
 lQ:Q.length=t.length
 hO:O.take k=(dU i t k).2.1
 hQ:Q.take k=(dU i t k).2.2
theorem dLst_0{i:Int}{t:List jO}:DLst i t 0 (List.replicate t.length 0) (List.replicate t.length 0):=⟨List.length_replicate,List.length_replicate,rfl,rfl⟩
theorem take_set1{O V:List Int}{k:Nat}{v:Int}(h:O.take k=V)(hk:k<O.length):(O.set k v).take (k+1)=V++[v]:=by
 rw[List.take_succ_eq_append_getElem (by rw[List.length_set];omega),List.getElem_set_self,List.take_set_of_le (Nat.le_refl k),h]
theorem DLst.put{i:Int}{t:List jO}{k:Nat}{O Q:List Int}(h:DLst i t k O Q)(hk:k<t.length){X:uQ}{v s:Int}(e:aV i gH.2 dOn.2 (dU i t k).1 (dU i t k).2.1 (dU i t k).2.2 (t.getD k tz)=(X,v,s)):X=(dU i t (k+1)).1/\DLst i t (k+1) (O.set k v) (Q.set k s):=by
 have e1:dU i t (k+1)=(X,(dU i t k).2.1++[v],(dU i t k).2.2++[s]):=by
  rw[dU];rw[e]
 refine ⟨by rw[e1],by rw[List.length_set];exact h.lO,by rw[List.length_set];exact h.lQ,?_,?_⟩
 ·rw[e1];exact take_set1 h.hO (by rw[h.lO];exact hk)
 ·rw[e1];exact take_set1 h.hQ (by rw[h.lQ];exact hk)
theorem DLst.put2{i:Int}{t:List jO}{k:Nat}{O Q:List Int}(h:DLst i t k O Q)(hk:k<t.length){X:uQ}{v s z:Int}(e:aV i gH.2 dOn.2 (dU i t k).1 (dU i t k).2.1 (dU i t k).2.2 (t.getD k tz)=(X,v,s)):X=(dU i t (k+1)).1/\DLst i t (k+1) (O.set k v) ((Q.set k z).set k s):=by
 rw[List.set_set];exact h.put hk e
def DRT(i:Int)(t:List jO):List jO:=if dOv i t=true then [] else drvT i t
def DRC(i:Int)(t:List jO):Nat:=if dOv i t=true then 3 else 0
theorem dOv_t{i:Int}{t:List jO}{k:Nat}(hk:k<t.length)(h:(dU i t (k+1)).1.ov=true):DRT i t=[]/\DRC i t=3:=by
 have:dOv i t=true:=List.any_eq_true.2 ⟨k,List.mem_range.2 hk,h⟩
 exact ⟨if_pos this,if_pos this⟩
theorem dOv_f{i:Int}{t:List jO}{k:Nat}(hk:k=t.length)(h:∀ j,j<k->(dU i t (j+1)).1.ov=false):DRT i t=yA (dU i t k).1.tm (gI (dU i t k).2.2 (((k:Nat):Int)-1)).toNat/\DRC i t=0:=by
 have:¬ dOv i t=true:=by
  rw[Bool.not_eq_true]
  exact List.any_eq_false.2 fun j hj=>by rw[h j (by rw[hk];exact List.mem_range.1 hj)];decide
 subst hk
 exact ⟨if_neg this,if_neg this⟩
theorem dlast{i:Int}{t:List jO}{k:Nat}{O Q:List Int}(h:DLst i t k O Q)(hI:DInv i t k)(hk:k=t.length)(h1:1<=k):Q.getD (t.length-1) 0=(((gI (dU i t k).2.2 (((k:Nat):Int)-1)).toNat:Nat):Int):=by
 have e:=gI_a (a:=((k:Nat):Int)-1) h.hQ (by omega)
 rw[show (((k:Nat):Int)-1).toNat=t.length-1 by omega] at e
 rw[e]
 have:=hI.hS (((k:Nat):Int)-1).toNat (by omega)
 exact (Int.toNat_of_nonneg this.1).symm
theorem dlast_lt{i:Int}{t:List jO}{k:Nat}(hI:DInv i t k)(h1:1<=k):(gI (dU i t k).2.2 (((k:Nat):Int)-1)).toNat<(dU i t k).1.tm.length:=by
 have:=hI.hS (((k:Nat):Int)-1).toNat (by omega)
 have h0:=this.1
 have h2:=this.2
 unfold gI at *
 omega
end Go.Fid
