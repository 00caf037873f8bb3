/- Part 20 of a proof: rules, plain facts, and functions walked. -/
import Derived.Test.YtckccjhflbljgaaGreatDoorM19
set_option linter.all false
namespace Go.Fid
def vV(xs L:List Rat)(x:kC):Rat :=
 if x.op=1 then xs.getD x.a.toNat 0
 else if x.op=2 then L.getD x.a.toNat 0+L.getD x.b.toNat 0
 else if x.op=3 then L.getD x.a.toNat 0-L.getD x.b.toNat 0
 else if x.op=4 then L.getD x.a.toNat 0*L.getD x.b.toNat 0
 else if x.op=6 then -(L.getD x.a.toNat 0)
 else if x.op=7 then L.getD x.a.toNat 0*L.getD x.a.toNat 0
 else if x.op=5 then L.getD x.a.toNat 0 / L.getD x.b.toNat 0
 else xW x.n
def vU(xs:List Rat)(t:List kC):Nat->List Rat
 |0=>[]
 |k+1=>vU xs t k++[vV xs (vU xs t k) (t.getD k tz)]
theorem vU_len(xs:List Rat)(t:List kC):∀ k,(vU xs t k).length=k
 |0=>rfl
 |k+1=>by rw[vU,List.length_append,vU_len xs t k];rfl
structure VUp (xs:List Rat) (t:List kC) (k:Nat):Prop where
 ok:∀ i,i<k->QL (vV xs (vU xs t i) (t.getD i tz)) 1048576
 dz:∀ i,i<k->(t.getD i tz).op=5->(vU xs t i).getD (t.getD i tz).b.toNat 0≠0
structure VRun (xs:List Rat) (t:List kC):Prop where
 c0:nB ((xs.length:Nat):Int) t=0
 up:VUp xs t t.length
structure VFail (xs:List Rat) (t:List kC) (k:Nat):Prop where
 c0:nB ((xs.length:Nat):Int) t=0
 hk:k<t.length
 up:VUp xs t k
 op:(t.getD k tz).op=5
 z:(vU xs t k).getD (t.getD k tz).b.toNat 0=0
theorem VUp.le{xs:List Rat}{t:List kC}{k j:Nat}(h:VUp xs t k)(hj:j<=k):VUp xs t j:=⟨fun i hi=>h.ok i (by omega),fun i hi=>h.dz i (by omega)⟩
theorem VUp.all{xs:List Rat}{t:List kC}:∀ {k},VUp xs t k->∀ q∈vU xs t k,QL q 1048576
 |0,_,q,hq=>by simp [vU] at hq
 |k+1,h,q,hq=>by
  rw[vU,List.mem_append] at hq
  rcases hq with hq | hq
  ·exact (h.le (Nat.le_succ k)).all q hq
  ·rw[List.mem_singleton] at hq;subst hq
   exact h.ok k (by omega)
def yZ(xs:List Rat)(t:List kC):Rat:=(vU xs t t.length).getD (t.length-1) 0
theorem qlg{l:List Rat}{n:Nat}(h:∀ q∈l,QL q n)(h1:1<=n)(j:Nat):QL (l.getD j 0) n:=by
 rcases Nat.lt_or_ge j l.length with hj | hj
 ·rw[List.getD_eq_getElem?_getD,List.getElem?_eq_getElem hj];exact h _ (List.getElem_mem _)
 ·rw[List.getD_eq_getElem?_getD,List.getElem?_eq_none (by omega)];exact qY eU h1
theorem VRun.last{xs:List Rat}{t:List kC}(h:VRun xs t):QL (yZ xs t) 1048576:=qlg h.up.all (by decide) _
def szs(t:List kC):List Int:=mS t t.length
def evs(xs:List Rat)(t:List kC):List Rat:=vU xs t t.length
theorem szU_app(t:List kC)(x:kC):∀ k,k<=t.length->mS (t++[x]) k=mS t k
 |0,_=>rfl
 |k+1,h=>by
  rw[mS,mS,szU_app t x k (by omega)]
  rw[show (t++[x]).getD k tz=t.getD k tz by rw[List.getD_eq_getElem?_getD,List.getElem?_append_left (by omega),<- List.getD_eq_getElem?_getD]]
theorem vU_app(xs:List Rat)(t:List kC)(x:kC):∀ k,k<=t.length->vU xs (t++[x]) k=vU xs t k
 |0,_=>rfl
 |k+1,h=>by
  rw[vU,vU,vU_app xs t x k (by omega)]
  rw[show (t++[x]).getD k tz=t.getD k tz by rw[List.getD_eq_getElem?_getD,List.getElem?_append_left (by omega),<- List.getD_eq_getElem?_getD]]
theorem snoc_get(t:List kC)(x:kC):(t++[x]).getD t.length tz=x:=by
 rw[List.getD_eq_getElem?_getD,List.getElem?_append_right (Nat.le_refl _),Nat.sub_self];rfl
theorem snoc_old(t:List kC)(x:kC){k:Nat}(h:k<t.length):(t++[x]).getD k tz=t.getD k tz:=by
 rw[List.getD_eq_getElem?_getD,List.getElem?_append_left h,<- List.getD_eq_getElem?_getD]
theorem szs_snoc(t:List kC)(x:kC):szs (t++[x])=szs t++[bC (szs t) x]:=by
 unfold szs
 rw[List.length_append,List.length_singleton,mS,szU_app t x _ (Nat.le_refl _),snoc_get]
theorem evs_snoc(xs:List Rat)(t:List kC)(x:kC):evs xs (t++[x])=evs xs t++[vV xs (evs xs t) x]:=by
 unfold evs
 rw[List.length_append,List.length_singleton,vU,vU_app xs t x _ (Nat.le_refl _),snoc_get]
theorem szs_len(t:List kC):(szs t).length=t.length:=xV _ _
theorem evs_len(xs:List Rat)(t:List kC):(evs xs t).length=t.length:=vU_len _ _ _
structure GT (xs:List Rat) (z:Int) (t:List kC):Prop where
 nd:lB z t t.length
 up:VUp xs t t.length
theorem GT.nil(xs:List Rat)(z:Int):GT xs z []:=⟨fun i h=>absurd h (Nat.not_lt_zero i),⟨fun i h=>absurd h (Nat.not_lt_zero i),fun i h=>absurd h (Nat.not_lt_zero i)⟩⟩
theorem nd_snoc{z:Int}{t:List kC}{x:kC}(h:lB z t t.length)(hn:ndC z (szs t) x=0):lB z (t++[x]) (t++[x]).length:=fun i hi=>by
 rw[List.length_append,List.length_singleton] at hi
 rw[szU_app t x i (by omega)]
 rcases Nat.lt_or_ge i t.length with h1 | h1
 ·rw[snoc_old t x h1];exact h i h1
 ·obtain rfl:i=t.length:=by omega
  rw[snoc_get];exact hn
theorem up_snoc{xs:List Rat}{t:List kC}{x:kC}(h:VUp xs t t.length):VUp xs (t++[x]) t.length:=⟨fun i hi=>by
  rw[vU_app xs t x i (by omega),snoc_old t x hi];exact h.ok i hi,fun i hi=>by
  rw[vU_app xs t x i (by omega),snoc_old t x hi];exact h.dz i hi⟩
theorem GT.snoc{xs:List Rat}{z:Int}{t:List kC}{x:kC}(h:GT xs z t)(hn:ndC z (szs t) x=0)(hq:QL (vV xs (evs xs t) x) 1048576)(hz:x.op=5->(evs xs t).getD x.b.toNat 0≠0):GT xs z (t++[x]) :=
 ⟨nd_snoc h.nd hn,⟨fun i hi=>by
  rw[List.length_append,List.length_singleton] at hi
  rcases Nat.lt_or_ge i t.length with h1 | h1
  ·exact (up_snoc h.up).ok i h1
  ·obtain rfl:i=t.length:=by omega
   rw[snoc_get,vU_app xs t x _ (Nat.le_refl _)];exact hq,fun i hi=>by
  rw[List.length_append,List.length_singleton] at hi
  rcases Nat.lt_or_ge i t.length with h1 | h1
  ·exact (up_snoc h.up).dz i h1
  ·obtain rfl:i=t.length:=by omega
   rw[snoc_get,vU_app xs t x _ (Nat.le_refl _)];exact hz⟩⟩
structure NdV (xs:List Rat) (t:List kC) (i:Int) (v:Rat) (s:Int) (n:Nat):Prop where
 lo:0<=i
 hi:i<t.length
 vl:(evs xs t).getD i.toNat 0=v
 s1:1<=(szs t).getD i.toNat 0
 sb:(szs t).getD i.toNat 0<=s
 qb:QL v n
theorem NdV.snoc{xs:List Rat}{t:List kC}{i:Int}{v:Rat}{s:Int}{n:Nat}(h:NdV xs t i v s n)(x:kC):NdV xs (t++[x]) i v s n:=by
 have h1:=h.lo;have h2:=h.hi
 refine ⟨h1,by rw[List.length_append];omega,?_,?_,?_,h.qb⟩
 ·rw[evs_snoc,List.getD_eq_getElem?_getD,List.getElem?_append_left (by rw[evs_len];omega),<- List.getD_eq_getElem?_getD];exact h.vl
 ·rw[szs_snoc,List.getD_eq_getElem?_getD,List.getElem?_append_left (by rw[szs_len];omega),<- List.getD_eq_getElem?_getD];exact h.s1
 ·rw[szs_snoc,List.getD_eq_getElem?_getD,List.getElem?_append_left (by rw[szs_len];omega),<- List.getD_eq_getElem?_getD];exact h.sb
theorem NdV.up{xs:List Rat}{t:List kC}{i:Int}{v:Rat}{s s':Int}{n n':Nat}(h:NdV xs t i v s n)(hs:s<=s')(hn:n<=n'):NdV xs t i v s' n':=⟨h.lo,h.hi,h.vl,h.s1,Int.le_trans h.sb hs,qY h.qb hn⟩
abbrev tn1 (o a b:Int):kC:=⟨o,a,b,zr⟩
def opT(o:Int)(L:List kC)(a b:Nat->Int):Nat->List kC
 |0=>L
 |i+1=>opT o L a b i++[tn1 o (a i) (b i)]
def opI(m n:Nat):List Int:=(List.range n).map fun i=>((m+i:Nat):Int)
def smI(m:Nat)(f:Int)(i:Nat):Int:=if i=0 then f else ((m+i-1:Nat):Int)
def smT(L:List kC)(f:Int)(r:List Int)(n:Nat):List kC:=opT 2 L (smI L.length f) (fun i=>r.getD i 0) n
def sqT(L:List kC)(l:List Int):List kC:=opT 7 L (fun i=>l.getD i 0) (fun _=>0) l.length
def pdT(L:List kC)(a b:List Int):List kC:=opT 4 L (fun i=>a.getD i 0) (fun i=>b.getD i 0) a.length
def ssT(L:List kC)(l:List Int):List kC:=smT (sqT L l) ((opI L.length l.length).getD 0 0) ((opI L.length l.length).drop 1) (l.length-1)
def spT(L:List kC)(a b:List Int):List kC:=smT (pdT L a b) ((opI L.length a.length).getD 0 0) ((opI L.length a.length).drop 1) (a.length-1)
theorem NdV.op{xs:List Rat}{t:List kC}{j:Int}{v:Rat}{s:Int}{n:Nat}(h:NdV xs t j v s n)(o:Int)(a b:Nat->Int):∀ i,NdV xs (opT o t a b i) j v s n
 |0=>h
 |i+1=>(h.op o a b i).snoc _
theorem NdV.ss{xs:List Rat}{t:List kC}{j:Int}{v:Rat}{s:Int}{n:Nat}(h:NdV xs t j v s n)(l:List Int):NdV xs (ssT t l) j v s n:=(h.op _ _ _ _).op _ _ _ _
theorem NdV.sp{xs:List Rat}{t:List kC}{j:Int}{v:Rat}{s:Int}{n:Nat}(h:NdV xs t j v s n)(a b:List Int):NdV xs (spT t a b) j v s n:=(h.op _ _ _ _).op _ _ _ _
theorem GT.c0{xs:List Rat}{z:Int}{t:List kC}(h:GT xs z t)(hz:0<=z/\z<=64)(h1:t.length≠0)(h4:t.length<=400):nB z t=0:=(tm_yes (by omega) h1 (by omega) h.nd).1
theorem GT.run{xs:List Rat}{t:List kC}(h:GT xs ((xs.length:Nat):Int) t)(hz:xs.length<=64)(h1:t.length≠0)(h4:t.length<=400):VRun xs t:=⟨h.c0 (by omega) h1 h4,h.up⟩
def okL(z:Int)(n:Nat)(a:List Int):Prop:=a.length=n/\∀ j,j<n->0<=a.getD j 0/\a.getD j 0<z
def crK(k:Int):Bool:=decide (k<0)||decide (64<=k)
theorem crK_of{a:List Int}(h:a.any crK=false){j:Nat}(hj:j<a.length):0<=a.getD j 0/\a.getD j 0<64:=by
 have:=List.any_eq_false.1 h (a.getD j 0) (by rw[List.getD_eq_getElem?_getD,List.getElem?_eq_getElem hj];exact List.getElem_mem _)
 unfold crK at this
 rw[Bool.not_eq_true,Bool.or_eq_false_iff,decide_eq_false_iff_not,decide_eq_false_iff_not] at this
 omega
structure CrOk (ls:List (List Int)) (n:Nat):Prop where
 n1:1<=n
 n3:n<=3
 all:∀ a∈ls,a.length=n/\a.any crK=false
theorem CrOk.le{ls:List (List Int)}{n:Nat}(h:CrOk ls n){a:List Int}(ha:a∈ls){z:Int}(hb:∀ k∈a,¬ (8<k/\k<64))(hz:z=9):okL z n a:=by
 obtain ⟨h1,h2⟩:=h.all a ha
 refine ⟨h1,fun j hj=>?_⟩
 have:=crK_of h2 (j:=j) (by omega)
 have:=hb (a.getD j 0) (by rw[List.getD_eq_getElem?_getD,List.getElem?_eq_getElem (by omega)];exact List.getElem_mem _)
 omega
def dgs:Nat->Nat->List UInt8
 |0,_=>[]
 |f+1,n=>if n<10 then [UInt8.ofNat (48+n)] else dgs f (n / 10)++[UInt8.ofNat (48+n % 10)]
def itN(n:Nat):List UInt8:=dgs 20 n
def padN(n:Nat):List UInt8:=List.replicate (9-(itN n).length) 48++itN n
def txG:List Nat->List UInt8
 |[]=>[]
 |d::l=>itN d++(l.map padN).flatten
def txN(n:Nat):List UInt8:=if (ofNat n).length=0 then [48] else txG (ofNat n).reverse
def txZ(z:Int):List UInt8:=if z<0 then 45::txN z.natAbs else txN z.natAbs
def txQ(q:Rat):ByteArray:=⟨(if q.den=1 then txZ q.num else txZ q.num++47::txZ q.den).toArray⟩
structure gO where
 tm:List kC
 kn:List ((Int × Int × Int) × Int)
 os:List (ByteArray × Int)
 us:List Int
 ov:Bool
def rb0:gO:=⟨[],[],[],[],false⟩
def uZ(B:gO)(n:kC)(s:Int):gO × Int:=if 4096<s\/400<=B.tm.length then ({ B with ov:=true },0) else ({ B with tm:=B.tm++[n],us:=B.us++[s] },(B.tm.length:Int))
def zB(B:gO)(q:Rat):gO × Int:=match zL B.os (txQ q) with
 |some i=>(B,i)
 |none=>let r:=uZ B ⟨0,0,0,jN q⟩ 1;({ r.1 with os:=r.1.os++[(txQ q,r.2)] },r.2)
def dY(B:gO)(i:Int)(n:Int):Bool:=(decide (i<(B.tm.length:Int))&&((B.tm.getD i.toNat tz).op == 0))&&(gC (xW (B.tm.getD i.toNat tz).n) (n:Rat) == 0)
def bSz(B:gO)(o i k:Int):Int:=if o=6 then B.us.getD i.toNat 0 else if o=7 then 2*B.us.getD i.toNat 0 else if uA o=2 then B.us.getD i.toNat 0+B.us.getD k.toNat 0 else 1
def jV(B:gO)(o i k:Int):gO × Int:=match zL B.kn (o,i,k) with
 |some v=>(B,v)
 |none=>if B.ov=true then (B,0) else let r:=uZ B ⟨o,i,k,zr⟩ (bSz B o i k);({ r.1 with kn:=r.1.kn++[((o,i,k),r.2)] },r.2)
def mB(B:gO)(i k:Int):gO × Int:=if dY B i 0=true then (B,k) else if dY B k 0=true then (B,i) else jV B 2 i k
def vJ(B:gO)(i k:Int):gO × Int:=if dY B k 0=true then (B,i) else if dY B i 0=true then jV B 6 k 0 else jV B 3 i k
def kH(B:gO)(i k:Int):gO × Int:=if (dY B i 0||dY B k 1)=true then (B,i) else if (dY B k 0||dY B i 1)=true then (B,k) else jV B 4 i k
def gI(L:List Int)(z:Int):Int:=L.getD z.toNat 0
def dNd(i z o:Int)(B:gO)(V S:List Int)(x:kC):gO × Int × Int :=
 if x.op=0 then let r:=zB B (xW x.n);(r.1,r.2,z)
 else if x.op=1 then let r:=jV B 1 x.a 0;(r.1,r.2,if x.a=i then o else z)
 else if x.op=6 then let r:=jV B 6 (gI V x.a) 0;let d:=vJ r.1 z (gI S x.a);(d.1,r.2,d.2)
 else if x.op=7 then
  let r:=jV B 7 (gI V x.a) 0;let p:=kH r.1 (gI V x.a) (gI S x.a)
  if p.2=z then (p.1,r.2,z) else let w:=zB p.1 ((2:Int):Rat);let u:=kH w.1 w.2 p.2;(u.1,r.2,u.2)
 else if x.op=2 then let r:=jV B 2 (gI V x.a) (gI V x.b);let d:=mB r.1 (gI S x.a) (gI S x.b);(d.1,r.2,d.2)
 else if x.op=3 then let r:=jV B 3 (gI V x.a) (gI V x.b);let d:=vJ r.1 (gI S x.a) (gI S x.b);(d.1,r.2,d.2)
 else if x.op=4 then
  let r:=jV B 4 (gI V x.a) (gI V x.b);let p:=kH r.1 (gI V x.a) (gI S x.b);let q:=kH p.1 (gI V x.b) (gI S x.a);let d:=mB q.1 p.2 q.2
  (d.1,r.2,d.2)
 else
  let r:=jV B 5 (gI V x.a) (gI V x.b);let p:=kH r.1 r.2 (gI S x.b);let d:=vJ p.1 (gI S x.a) p.2
  if dY d.1 d.2 0=true then (d.1,r.2,z) else let q:=jV d.1 5 d.2 (gI V x.b);(q.1,r.2,q.2)
def cD:gO × Int:=zB rb0 ((0:Int):Rat)
def dOn:gO × Int:=zB cD.1 ((1:Int):Rat)
def dU(i:Int)(t:List kC):Nat->gO × List Int × List Int
 |0=>(dOn.1,[],[])
 |k+1=>let r:=dU i t k;let d:=dNd i cD.2 dOn.2 r.1 r.2.1 r.2.2 (t.getD k tz);(d.1,r.2.1++[d.2.1],r.2.2++[d.2.2])
def ndS(t:List kC)(nd:List Bool)(i:Nat):List Bool :=
 if nd.getD i false=false then nd
 else if 0<uA (t.getD i tz).op then
  if 1<uA (t.getD i tz).op then (nd.set (t.getD i tz).a.toNat true).set (t.getD i tz).b.toNat true else nd.set (t.getD i tz).a.toNat true
 else nd
def ndL(t:List kC)(nd:List Bool):Nat->List Bool
 |0=>nd
 |i+1=>ndL t (ndS t nd i) i
def ndA(t:List kC)(at_:Nat):List Bool:=ndL t ((List.replicate t.length false).set at_ true) (at_+1)
def rnN(nm:List Int)(x:kC):kC:=if 0<uA x.op then (if 1<uA x.op then ⟨x.op,nm.getD x.a.toNat 0,nm.getD x.b.toNat 0,x.n⟩ else ⟨x.op,nm.getD x.a.toNat 0,x.b,x.n⟩) else x
def tmS(t:List kC)(nd:List Bool)(r:List Int × List kC)(i:Nat):List Int × List kC :=
 if nd.getD i false=false then r else (r.1.set i (r.2.length:Int),r.2++[rnN r.1 (t.getD i tz)])
def tmF(t:List kC)(nd:List Bool):Nat->List Int × List kC
 |0=>(List.replicate t.length 0,[])
 |k+1=>tmS t nd (tmF t nd k) k
def trimT(t:List kC)(at_:Nat):List kC:=(tmF t (ndA t at_) (at_+1)).2
def drvT(i:Int)(t:List kC):List kC:=let r:=dU i t t.length;trimT r.1.tm (gI r.2.2 ((t.length:Int)-1)).toNat
def dOv(i:Int)(t:List kC):Bool:=(List.range t.length).any fun k=>(dU i t (k+1)).1.ov
def OrdAt(x:kC)(j:Nat):Prop:=(0<uA x.op->0<=x.a/\x.a<(j:Int))/\(1<uA x.op->0<=x.b/\x.b<(j:Int))
structure RBI (B:gO):Prop where
 hl:B.tm.length<=400
 hu:B.us.length=B.tm.length
 hs:∀ j,j<B.us.length->1<=B.us.getD j 0/\B.us.getD j 0<=4096
 hq:∀ x∈B.tm,nL x.n (xW x.n) 1048576
 ho:∀ j,j<B.tm.length->OrdAt (B.tm.getD j tz) j
 hk:∀ e∈B.kn,0<=e.2/\e.2<(B.tm.length:Int)
 hos:∀ e∈B.os,0<=e.2/\e.2<(B.tm.length:Int)
theorem RBI.q{B:gO}(h:RBI B){j:Nat}(hj:j<B.tm.length):nL (B.tm.getD j tz).n (xW (B.tm.getD j tz).n) 1048576:=by
 rw[List.getD_eq_getElem?_getD,List.getElem?_eq_getElem hj];exact h.hq _ (List.getElem_mem _)
def fX(B:gO)(i:Int):Prop:=0<=i/\i<(B.tm.length:Int)
def Ok3(B:gO)(r:gO × Int):Prop:=RBI r.1/\fX r.1 r.2/\B.tm.length<=r.1.tm.length
theorem fX.up{B B':gO}{i:Int}(h:fX B i)(hl:B.tm.length<=B'.tm.length):fX B' i:=⟨h.1,by have:=h.2;omega⟩
theorem Ok3.ix{B:gO}{r:gO × Int}(h:Ok3 B r){i:Int}(hi:fX B i):fX r.1 i:=hi.up h.2.2
theorem rbi0:RBI rb0:=⟨by decide,rfl,fun j h=>absurd h (Nat.not_lt_zero j),by intro x h;(cases h),fun j h=>absurd h (Nat.not_lt_zero j),by intro e h;(cases h),by intro e h;(cases h)⟩
theorem ok3_self{B:gO}{i:Int}(hB:RBI B)(hi:fX B i):Ok3 B (B,i):=⟨hB,hi,Nat.le_refl _⟩
theorem bAdd_t{B:gO}{x:kC}{z:Int}(h:(decide (4096<z)||decide (((400:Nat):Int)<=((B.tm.length:Nat):Int)))=true):uZ B x z=(gO.mk B.tm B.kn B.os B.us true,0):=by
 rw[Bool.or_eq_true,decide_eq_true_eq,decide_eq_true_eq] at h
 exact if_pos (by omega)
theorem bAdd_f{B:gO}{x:kC}{z:Int}(h:(decide (4096<z)||decide (((400:Nat):Int)<=((B.tm.length:Nat):Int)))=false):uZ B x z=(gO.mk (B.tm++[x]) B.kn B.os (B.us++[z]) B.ov,((B.tm.length:Nat):Int)):=by
 rw[Bool.or_eq_false_iff,decide_eq_false_iff_not,decide_eq_false_iff_not] at h
 exact if_neg (by omega)
theorem iQ{α:Type}(l:List α)(x d:α)(j:Nat):(l++[x]).getD j d=if j<l.length then l.getD j d else if j=l.length then x else d:=by
 rw[List.getD_eq_getElem?_getD]
 split
 ·rename_i h;rw[List.getElem?_append_left h,<- List.getD_eq_getElem?_getD]
 ·rename_i h
  rw[List.getElem?_append_right (by omega)]
  split
  ·rename_i h2;rw[h2,Nat.sub_self];rfl
  ·rename_i h2
   rw[List.getElem?_eq_none (by simp;omega)];rfl
theorem bAdd_ok{B:gO}{x:kC}{z:Int}(hB:RBI B)(hx:nL x.n (xW x.n) 1048576)(ho:OrdAt x B.tm.length)(h1:1<=z)(hz:4096<z->0<B.tm.length):Ok3 B (uZ B x z):=by
 have hl:=hB.hl;have hu:=hB.hu
 unfold uZ
 split
 ·rename_i h
  exact ⟨⟨hB.hl,hB.hu,hB.hs,hB.hq,hB.ho,hB.hk,hB.hos⟩,⟨Int.le_refl _,show (0:Int)<((B.tm.length:Nat):Int) by rcases h with h | h;have:=hz h;omega;omega⟩,Nat.le_refl _⟩
 ·rename_i h
  refine ⟨⟨?_,?_,fun j hj=>?_,fun y hy=>?_,fun j hj=>?_,fun e he=>?_,fun e he=>?_⟩,⟨Int.natCast_nonneg _,?_⟩,?_⟩
  ·show (B.tm++[x]).length<=400
   rw[List.length_append,List.length_singleton];omega
  ·show (B.us++[z]).length=(B.tm++[x]).length
   rw[List.length_append,List.length_append,hu];rfl
  ·show 1<=(B.us++[z]).getD j 0/\(B.us++[z]).getD j 0<=4096
   have hj:j<(B.us++[z]).length:=hj
   rw[List.length_append,List.length_singleton] at hj
   rw[iQ]
   split
   ·rename_i h2;exact hB.hs j h2
   ·rw[if_pos (by omega)];omega
  ·have hy:y∈B.tm++[x]:=hy
   rw[List.mem_append,List.mem_singleton] at hy
   rcases hy with hy | hy
   ·exact hB.hq y hy
   ·subst hy;exact hx
  ·show OrdAt ((B.tm++[x]).getD j tz) j
   have hj:j<(B.tm++[x]).length:=hj
   rw[List.length_append,List.length_singleton] at hj
   rw[iQ]
   split
   ·rename_i h2;exact hB.ho j h2
   ·rw[if_pos (by omega),show j=B.tm.length by omega];exact ho
  ·have:=hB.hk e he
   refine ⟨this.1,?_⟩
   show e.2<(((B.tm++[x]).length:Nat):Int)
   rw[List.length_append,List.length_singleton];omega
  ·have:=hB.hos e he
   refine ⟨this.1,?_⟩
   show e.2<(((B.tm++[x]).length:Nat):Int)
   rw[List.length_append,List.length_singleton];omega
  ·show ((B.tm.length:Nat):Int)<(((B.tm++[x]).length:Nat):Int)
   rw[List.length_append,List.length_singleton];omega
  ·show B.tm.length<=(B.tm++[x]).length
   rw[List.length_append];omega
theorem bNum_t{B:gO}{q:Rat}(h:(zL B.os (txQ q)).isSome=true):zB B q=(B,(zL B.os (txQ q)).getD 0):=by
 unfold zB
 cases hg:zL B.os (txQ q) with
 |none=>rw[hg] at h;cases h
 |some v=>rfl
theorem bNum_f{B:gO}{q:Rat}(h:(zL B.os (txQ q)).isSome=false):zB B q=(gO.mk (uZ B ⟨0,0,0,jN q⟩ 1).1.tm (uZ B ⟨0,0,0,jN q⟩ 1).1.kn ((uZ B ⟨0,0,0,jN q⟩ 1).1.os++[(txQ q,(uZ B ⟨0,0,0,jN q⟩ 1).2)]) (uZ B ⟨0,0,0,jN q⟩ 1).1.us (uZ B ⟨0,0,0,jN q⟩ 1).1.ov,(uZ B ⟨0,0,0,jN q⟩ 1).2):=by
 unfold zB
 cases hg:zL B.os (txQ q) with
 |none=>rfl
 |some v=>rw[hg] at h;cases h
theorem bAdd_os(B:gO)(x:kC)(z:Int):(uZ B x z).1.os=B.os/\(uZ B x z).1.kn=B.kn:=by
 unfold uZ;split<;>exact ⟨rfl,rfl⟩
theorem getK_ok{κ:Type}[DecidableEq κ]{l:List (κ × Int)}{a:κ}{n:Nat}(h:∀ e∈l,0<=e.2/\e.2<(n:Int))(hs:(zL l a).isSome=true):0<=(zL l a).getD 0/\(zL l a).getD 0<(n:Int):=by
 cases hg:zL l a with
 |none=>rw[hg] at hs;cases hs
 |some v=>exact h _ (getK_mem hg)
theorem bNum_ok{B:gO}{q:Rat}(hB:RBI B)(hq:QL q 1048576):Ok3 B (zB B q):=by
 cases hs:(zL B.os (txQ q)).isSome with
 |true=>rw[bNum_t hs];exact ⟨hB,getK_ok hB.hos hs,Nat.le_refl _⟩
 |false=>
  rw[bNum_f hs]
  obtain ⟨h1,h2,h3⟩:=bAdd_ok (x:=⟨0,0,0,jN q⟩) (z:=1) hB (qI (jY hq)) ⟨fun h=>absurd h (show ¬ 0<uA 0 by decide),fun h=>absurd h (show ¬ 1<uA 0 by decide)⟩ (by decide) (fun h=>absurd h (by decide))
  refine ⟨⟨h1.hl,h1.hu,h1.hs,h1.hq,h1.ho,h1.hk,fun e he=>?_⟩,h2,h3⟩
  have he:e∈(uZ B ⟨0,0,0,jN q⟩ 1).1.os++[(txQ q,(uZ B ⟨0,0,0,jN q⟩ 1).2)]:=he
  rw[List.mem_append,List.mem_singleton] at he
  rcases he with he | he
  ·exact h1.hos e he
  ·subst he;exact h2
theorem bNode_t{B:gO}{o i k:Int}(h:((zL B.kn (o,i,k)).isSome||B.ov)=true):jV B o i k=(B,(zL B.kn (o,i,k)).getD 0):=by
 unfold jV
 cases hg:zL B.kn (o,i,k) with
 |none=>rw[hg] at h;exact if_pos (by simpa using h)
 |some v=>rfl
theorem bNode_f{B:gO}{o i k z:Int}(h:((zL B.kn (o,i,k)).isSome||B.ov)=false)(hz:z=bSz B o i k):jV B o i k=(gO.mk (uZ B ⟨o,i,k,zr⟩ z).1.tm ((uZ B ⟨o,i,k,zr⟩ z).1.kn++[((o,i,k),(uZ B ⟨o,i,k,zr⟩ z).2)]) (uZ B ⟨o,i,k,zr⟩ z).1.os (uZ B ⟨o,i,k,zr⟩ z).1.us (uZ B ⟨o,i,k,zr⟩ z).1.ov,(uZ B ⟨o,i,k,zr⟩ z).2):=by
 subst hz
 rw[Bool.or_eq_false_iff] at h
 unfold jV
 cases hg:zL B.kn (o,i,k) with
 |none=>exact if_neg (by rw[h.2];decide)
 |some v=>rw[hg] at h;cases h.1
def NdAr(B:gO)(o i k:Int):Prop:=(o=1/\k=0/\0<B.tm.length)\/(2<=o/\o<=7/\fX B i/\fX B k)
theorem qok_zr:nL zr (xW zr) 1048576:=qok_raw (by decide) (by decide) (by decide)
theorem NdAr.sz{B:gO}(hB:RBI B){o i k:Int}(h:NdAr B o i k):1<=bSz B o i k/\bSz B o i k<=8192:=by
 have hu:=hB.hu
 unfold bSz
 rcases h with ⟨rfl,rfl,_⟩ | ⟨h1,h2,hi,hk⟩
 ·simp [uA]
 ·have a:=hB.hs i.toNat (by have:=hi.1;have:=hi.2;omega)
  have b:=hB.hs k.toNat (by have:=hk.1;have:=hk.2;omega)
  split
  ·omega
  ·split
   ·omega
   ·split<;>omega
theorem NdAr.ge2{B:gO}(hB:RBI B){o i k:Int}(h:NdAr B o i k)(ho:o≠1):fX B i/\fX B k/\(1<=B.us.getD i.toNat 0/\B.us.getD i.toNat 0<=4096)/\(1<=B.us.getD k.toNat 0/\B.us.getD k.toNat 0<=4096):=by
 have hu:=hB.hu
 rcases h with ⟨rfl,_⟩ | ⟨h1,h2,hi,hk⟩
 ·exact absurd rfl ho
 ·exact ⟨hi,hk,hB.hs i.toNat (by have:=hi.1;have:=hi.2;omega),hB.hs k.toNat (by have:=hk.1;have:=hk.2;omega)⟩
theorem NdAr.pos{B:gO}{o i k:Int}(h:NdAr B o i k):0<B.tm.length:=by
 rcases h with ⟨_,_,h⟩ | ⟨_,_,h,_⟩
 ·exact h
 ·have:=h.1;have:=h.2;omega
theorem NdAr.ord{B:gO}{o i k:Int}(h:NdAr B o i k):OrdAt ⟨o,i,k,zr⟩ B.tm.length:=by
 rcases h with ⟨rfl,rfl,_⟩ | ⟨h1,h2,hi,hk⟩
 ·exact ⟨fun h=>absurd h (show ¬ 0<uA 1 by decide),fun h=>absurd h (show ¬ 1<uA 1 by decide)⟩
 ·exact ⟨fun _=>hi,fun _=>hk⟩
theorem bY{B:gO}{o i k:Int}(hB:RBI B)(h:NdAr B o i k):Ok3 B (jV B o i k):=by
 cases hs:((zL B.kn (o,i,k)).isSome||B.ov) with
 |true=>
  rw[bNode_t hs]
  refine ⟨hB,?_,Nat.le_refl _⟩
  cases hg:zL B.kn (o,i,k) with
  |none=>exact ⟨Int.le_refl _,by have:=h.pos;show (0:Int)<((B.tm.length:Nat):Int);omega⟩
  |some v=>exact hB.hk _ (getK_mem hg)
 |false=>
  rw[bNode_f hs rfl]
  obtain ⟨h1,h2,h3⟩:=bAdd_ok (x:=⟨o,i,k,zr⟩) (z:=bSz B o i k) hB qok_zr h.ord (h.sz hB).1 (fun _=>h.pos)
  refine ⟨⟨h1.hl,h1.hu,h1.hs,h1.hq,h1.ho,fun e he=>?_,h1.hos⟩,h2,h3⟩
  have he:e∈(uZ B ⟨o,i,k,zr⟩ (bSz B o i k)).1.kn++[((o,i,k),(uZ B ⟨o,i,k,zr⟩ (bSz B o i k)).2)]:=he
  rw[List.mem_append,List.mem_singleton] at he
  rcases he with he | he
  ·exact h1.hk e he
  ·subst he;exact h2
theorem bSum_ok{B:gO}{i k:Int}(hB:RBI B)(hi:fX B i)(hk:fX B k):Ok3 B (mB B i k):=by
 unfold mB
 split
 ·exact ok3_self hB hk
 ·split
  ·exact ok3_self hB hi
  ·exact bY hB (.inr ⟨by decide,by decide,hi,hk⟩)
theorem fX.pos{B:gO}{i:Int}(h:fX B i):fX B 0:=⟨Int.le_refl _,by have:=h.1;have:=h.2;omega⟩
theorem bDif_ok{B:gO}{i k:Int}(hB:RBI B)(hi:fX B i)(hk:fX B k):Ok3 B (vJ B i k):=by
 unfold vJ
 split
 ·exact ok3_self hB hi
 ·split
  ·exact bY hB (.inr ⟨by decide,by decide,hk,hk.pos⟩)
  ·exact bY hB (.inr ⟨by decide,by decide,hi,hk⟩)
theorem eB{B:gO}{i k:Int}(hB:RBI B)(hi:fX B i)(hk:fX B k):Ok3 B (kH B i k):=by
 unfold kH
 split
 ·exact ok3_self hB hi
 ·split
  ·exact ok3_self hB hk
  ·exact bY hB (.inr ⟨by decide,by decide,hi,hk⟩)
theorem bSum_1{B:gO}{i k:Int}(h:dY B i 0=true):mB B i k=(B,k):=if_pos h
theorem bSum_2{B:gO}{i k:Int}(h:dY B i 0=false)(h2:dY B k 0=true):mB B i k=(B,i):=by unfold mB;rw[if_neg (by rw[h];decide),if_pos h2]
theorem bSum_3{B:gO}{i k:Int}(h:dY B i 0=false)(h2:dY B k 0=false):mB B i k=jV B 2 i k:=by unfold mB;rw[if_neg (by rw[h];decide),if_neg (by rw[h2];decide)]
theorem bDif_1{B:gO}{i k:Int}(h:dY B k 0=true):vJ B i k=(B,i):=if_pos h
theorem bDif_2{B:gO}{i k:Int}(h:dY B k 0=false)(h2:dY B i 0=true):vJ B i k=jV B 6 k 0:=by unfold vJ;rw[if_neg (by rw[h];decide),if_pos h2]
theorem bDif_3{B:gO}{i k:Int}(h:dY B k 0=false)(h2:dY B i 0=false):vJ B i k=jV B 3 i k:=by unfold vJ;rw[if_neg (by rw[h];decide),if_neg (by rw[h2];decide)]
theorem bPrd_1{B:gO}{i k:Int}(h:(dY B i 0||dY B k 1)=true):kH B i k=(B,i):=if_pos h
theorem bPrd_2{B:gO}{i k:Int}(h:(dY B i 0||dY B k 1)=false)(h2:(dY B k 0||dY B i 1)=true):kH B i k=(B,k):=by unfold kH;rw[if_neg (by rw[h];decide),if_pos h2]
theorem bPrd_3{B:gO}{i k:Int}(h:(dY B i 0||dY B k 1)=false)(h2:(dY B k 0||dY B i 1)=false):kH B i k=jV B 4 i k:=by unfold kH;rw[if_neg (by rw[h];decide),if_neg (by rw[h2];decide)]
theorem bSz_6{B:gO}{o i k:Int}(h:o=6):B.us.getD i.toNat 0=bSz B o i k:=(if_pos h).symm
theorem bSz_7{B:gO}{o i k:Int}(h6:o≠6)(h:o=7):2*B.us.getD i.toNat 0=bSz B o i k:=by unfold bSz;rw[if_neg h6,if_pos h]
theorem bSz_2{B:gO}{o i k:Int}(h6:o≠6)(h7:o≠7)(h:uA o=2):B.us.getD i.toNat 0+B.us.getD k.toNat 0=bSz B o i k:=by unfold bSz;rw[if_neg h6,if_neg h7,if_pos h]
theorem bSz_1{B:gO}{o i k:Int}(h6:o≠6)(h7:o≠7)(h:uA o≠2):(1:Int)=bSz B o i k:=by unfold bSz;rw[if_neg h6,if_neg h7,if_neg h]
def OrdT(t:List kC):Prop:=∀ j,j<t.length->OrdAt (t.getD j tz) j
theorem ndS_n{t:List kC}{nd:List Bool}{i:Nat}(h:(!(nd.getD i false))=true):ndS t nd i=nd:=if_pos (by simpa using h)
theorem ndS_0{t:List kC}{nd:List Bool}{i:Nat}(h:(!(nd.getD i false))=false)(h1:¬ 0<uA (t.getD i tz).op):ndS t nd i=nd:=by
 unfold ndS;rw[if_neg (by simpa using h),if_neg h1]
theorem ndS_1{t:List kC}{nd:List Bool}{i:Nat}(h:(!(nd.getD i false))=false)(h1:0<uA (t.getD i tz).op)(h2:¬ 1<uA (t.getD i tz).op):ndS t nd i=nd.set (t.getD i tz).a.toNat true:=by
 unfold ndS;rw[if_neg (by simpa using h),if_pos h1,if_neg h2]
theorem ndS_2{t:List kC}{nd:List Bool}{i:Nat}(h:(!(nd.getD i false))=false)(h1:0<uA (t.getD i tz).op)(h2:1<uA (t.getD i tz).op):ndS t nd i=(nd.set (t.getD i tz).a.toNat true).set (t.getD i tz).b.toNat true:=by
 unfold ndS;rw[if_neg (by simpa using h),if_pos h1,if_pos h2]
theorem ndL_step{t:List kC}{nd nd2 X:List Bool}{z:Int}(h0:0<=z)(h:ndL t nd (z+1).toNat=X)(e:ndS t nd z.toNat=nd2):ndL t nd2 (z-1+1).toNat=X:=by
 rw[show (z-1+1).toNat=z.toNat by omega,<- e]
 rw[show (z+1).toNat=z.toNat+1 by omega] at h
 exact h
theorem ndL_end{t:List kC}{nd X:List Bool}{z:Int}(h0:¬ 0<=z)(h:ndL t nd (z+1).toNat=X):nd=X:=by
 rw[show (z+1).toNat=0 by omega] at h;exact h
theorem tmF_len(t:List kC)(nd:List Bool):∀ k,(tmF t nd k).1.length=t.length/\(tmF t nd k).2.length<=k
 |0=>⟨List.length_replicate,Nat.le_refl _⟩
 |k+1=>by
  obtain ⟨h1,h2⟩:=tmF_len t nd k
  rw[tmF];unfold tmS
  split
  ·exact ⟨h1,by omega⟩
  ·exact ⟨by rw[List.length_set];exact h1,by rw[List.length_append,List.length_singleton];omega⟩
theorem tmF_n{t:List kC}{nd:List Bool}{k:Nat}{nm:List Int}{o:List kC}(h:tmF t nd k=(nm,o))(hn:(!(nd.getD k false))=true):tmF t nd (k+1)=(nm,o):=by
 rw[tmF,h];exact if_pos (by simpa using hn)
theorem tmF_y{t:List kC}{nd:List Bool}{k:Nat}{nm:List Int}{o:List kC}{x:kC}(h:tmF t nd k=(nm,o))(hn:(!(nd.getD k false))=false)(hx:x=rnN nm (t.getD k tz)):tmF t nd (k+1)=(nm.set k ((o.length:Nat):Int),o++[x]):=by
 subst hx;rw[tmF,h];exact if_neg (by simpa using hn)
theorem rnN_0{nm:List Int}{x:kC}(h:¬ 0<uA x.op):x=rnN nm x:=(if_neg h).symm
theorem rnN_1{nm:List Int}{x:kC}(h:0<uA x.op)(h2:¬ 1<uA x.op):kC.mk x.op (nm.getD x.a.toNat 0) x.b x.n=rnN nm x:=by unfold rnN;rw[if_pos h,if_neg h2]
theorem rnN_2{nm:List Int}{x:kC}(h:0<uA x.op)(h2:1<uA x.op):kC.mk x.op (nm.getD x.a.toNat 0) (nm.getD x.b.toNat 0) x.n=rnN nm x:=by unfold rnN;rw[if_pos h,if_pos h2]
theorem take_getDr{α:Type}(l:List α){n k:Nat}(d:α)(h:k<n):(l.take n).getD k d=l.getD k d:=by
 rw[List.getD_eq_getElem?_getD,List.getElem?_take_of_lt h,<- List.getD_eq_getElem?_getD]
theorem tm_lenk{t:List kC}{nd:List Bool}{k:Nat}{nm:List Int}{o:List kC}(h:tmF t nd k=(nm,o)):nm.length=t.length/\o.length<=k:=by
 have:=tmF_len t nd k;rw[h] at this;exact this
section
variable {i z o:Int} {B:gO} {V S:List Int} {x:kC}
theorem dNd_0(h:x.op=0):dNd i z o B V S x=((zB B (xW x.n)).1,(zB B (xW x.n)).2,z):=if_pos h
theorem dNd_1(h:x.op=1):dNd i z o B V S x=((jV B 1 x.a 0).1,(jV B 1 x.a 0).2,if x.a=i then o else z):=by unfold dNd;rw[if_neg (by omega),if_pos h]
theorem dNd_6(h:x.op=6):dNd i z o B V S x=((vJ (jV B 6 (gI V x.a) 0).1 z (gI S x.a)).1,(jV B 6 (gI V x.a) 0).2,(vJ (jV B 6 (gI V x.a) 0).1 z (gI S x.a)).2):=by
 unfold dNd;rw[if_neg (by omega),if_neg (by omega),if_pos h]
theorem dNd_7z(h:x.op=7)(hz:(kH (jV B 7 (gI V x.a) 0).1 (gI V x.a) (gI S x.a)).2=z):dNd i z o B V S x=((kH (jV B 7 (gI V x.a) 0).1 (gI V x.a) (gI S x.a)).1,(jV B 7 (gI V x.a) 0).2,z):=by
 unfold dNd;rw[if_neg (by omega),if_neg (by omega),if_neg (by omega),if_pos h];exact if_pos hz
theorem dNd_7(h:x.op=7)(hz:(kH (jV B 7 (gI V x.a) 0).1 (gI V x.a) (gI S x.a)).2≠z):dNd i z o B V S x=((kH (zB (kH (jV B 7 (gI V x.a) 0).1 (gI V x.a) (gI S x.a)).1 ((2:Int):Rat)).1 (zB (kH (jV B 7 (gI V x.a) 0).1 (gI V x.a) (gI S x.a)).1 ((2:Int):Rat)).2 (kH (jV B 7 (gI V x.a) 0).1 (gI V x.a) (gI S x.a)).2).1,(jV B 7 (gI V x.a) 0).2,(kH (zB (kH (jV B 7 (gI V x.a) 0).1 (gI V x.a) (gI S x.a)).1 ((2:Int):Rat)).1 (zB (kH (jV B 7 (gI V x.a) 0).1 (gI V x.a) (gI S x.a)).1 ((2:Int):Rat)).2 (kH (jV B 7 (gI V x.a) 0).1 (gI V x.a) (gI S x.a)).2).2):=by
 unfold dNd;rw[if_neg (by omega),if_neg (by omega),if_neg (by omega),if_pos h];exact if_neg hz
theorem dNd_2(h:x.op=2):dNd i z o B V S x=((mB (jV B 2 (gI V x.a) (gI V x.b)).1 (gI S x.a) (gI S x.b)).1,(jV B 2 (gI V x.a) (gI V x.b)).2,(mB (jV B 2 (gI V x.a) (gI V x.b)).1 (gI S x.a) (gI S x.b)).2):=by
 unfold dNd;rw[if_neg (by omega),if_neg (by omega),if_neg (by omega),if_neg (by omega),if_pos h]
theorem dNd_3(h:x.op=3):dNd i z o B V S x=((vJ (jV B 3 (gI V x.a) (gI V x.b)).1 (gI S x.a) (gI S x.b)).1,(jV B 3 (gI V x.a) (gI V x.b)).2,(vJ (jV B 3 (gI V x.a) (gI V x.b)).1 (gI S x.a) (gI S x.b)).2):=by
 unfold dNd;rw[if_neg (by omega),if_neg (by omega),if_neg (by omega),if_neg (by omega),if_neg (by omega),if_pos h]
theorem dNd_4(h:x.op=4):dNd i z o B V S x=((mB (kH (kH (jV B 4 (gI V x.a) (gI V x.b)).1 (gI V x.a) (gI S x.b)).1 (gI V x.b) (gI S x.a)).1 (kH (jV B 4 (gI V x.a) (gI V x.b)).1 (gI V x.a) (gI S x.b)).2 (kH (kH (jV B 4 (gI V x.a) (gI V x.b)).1 (gI V x.a) (gI S x.b)).1 (gI V x.b) (gI S x.a)).2).1,(jV B 4 (gI V x.a) (gI V x.b)).2,(mB (kH (kH (jV B 4 (gI V x.a) (gI V x.b)).1 (gI V x.a) (gI S x.b)).1 (gI V x.b) (gI S x.a)).1 (kH (jV B 4 (gI V x.a) (gI V x.b)).1 (gI V x.a) (gI S x.b)).2 (kH (kH (jV B 4 (gI V x.a) (gI V x.b)).1 (gI V x.a) (gI S x.b)).1 (gI V x.b) (gI S x.a)).2).2):=by
 unfold dNd;rw[if_neg (by omega),if_neg (by omega),if_neg (by omega),if_neg (by omega),if_neg (by omega),if_neg (by omega),if_pos h]
theorem dNd_5z(h:5=x.op)(hz:dY (vJ (kH (jV B 5 (gI V x.a) (gI V x.b)).1 (jV B 5 (gI V x.a) (gI V x.b)).2 (gI S x.b)).1 (gI S x.a) (kH (jV B 5 (gI V x.a) (gI V x.b)).1 (jV B 5 (gI V x.a) (gI V x.b)).2 (gI S x.b)).2).1 (vJ (kH (jV B 5 (gI V x.a) (gI V x.b)).1 (jV B 5 (gI V x.a) (gI V x.b)).2 (gI S x.b)).1 (gI S x.a) (kH (jV B 5 (gI V x.a) (gI V x.b)).1 (jV B 5 (gI V x.a) (gI V x.b)).2 (gI S x.b)).2).2 0=true) :
  dNd i z o B V S x=((vJ (kH (jV B 5 (gI V x.a) (gI V x.b)).1 (jV B 5 (gI V x.a) (gI V x.b)).2 (gI S x.b)).1 (gI S x.a) (kH (jV B 5 (gI V x.a) (gI V x.b)).1 (jV B 5 (gI V x.a) (gI V x.b)).2 (gI S x.b)).2).1,(jV B 5 (gI V x.a) (gI V x.b)).2,z):=by
 unfold dNd;rw[if_neg (by omega),if_neg (by omega),if_neg (by omega),if_neg (by omega),if_neg (by omega),if_neg (by omega),if_neg (by omega)];exact if_pos hz
theorem dNd_5(h:5=x.op)(hz:dY (vJ (kH (jV B 5 (gI V x.a) (gI V x.b)).1 (jV B 5 (gI V x.a) (gI V x.b)).2 (gI S x.b)).1 (gI S x.a) (kH (jV B 5 (gI V x.a) (gI V x.b)).1 (jV B 5 (gI V x.a) (gI V x.b)).2 (gI S x.b)).2).1 (vJ (kH (jV B 5 (gI V x.a) (gI V x.b)).1 (jV B 5 (gI V x.a) (gI V x.b)).2 (gI S x.b)).1 (gI S x.a) (kH (jV B 5 (gI V x.a) (gI V x.b)).1 (jV B 5 (gI V x.a) (gI V x.b)).2 (gI S x.b)).2).2 0=false) :
  dNd i z o B V S x=((jV (vJ (kH (jV B 5 (gI V x.a) (gI V x.b)).1 (jV B 5 (gI V x.a) (gI V x.b)).2 (gI S x.b)).1 (gI S x.a) (kH (jV B 5 (gI V x.a) (gI V x.b)).1 (jV B 5 (gI V x.a) (gI V x.b)).2 (gI S x.b)).2).1 5 (vJ (kH (jV B 5 (gI V x.a) (gI V x.b)).1 (jV B 5 (gI V x.a) (gI V x.b)).2 (gI S x.b)).1 (gI S x.a) (kH (jV B 5 (gI V x.a) (gI V x.b)).1 (jV B 5 (gI V x.a) (gI V x.b)).2 (gI S x.b)).2).2 (gI V x.b)).1,(jV B 5 (gI V x.a) (gI V x.b)).2,(jV (vJ (kH (jV B 5 (gI V x.a) (gI V x.b)).1 (jV B 5 (gI V x.a) (gI V x.b)).2 (gI S x.b)).1 (gI S x.a) (kH (jV B 5 (gI V x.a) (gI V x.b)).1 (jV B 5 (gI V x.a) (gI V x.b)).2 (gI S x.b)).2).1 5 (vJ (kH (jV B 5 (gI V x.a) (gI V x.b)).1 (jV B 5 (gI V x.a) (gI V x.b)).2 (gI S x.b)).1 (gI S x.a) (kH (jV B 5 (gI V x.a) (gI V x.b)).1 (jV B 5 (gI V x.a) (gI V x.b)).2 (gI S x.b)).2).2 (gI V x.b)).2):=by
 unfold dNd;rw[if_neg (by omega),if_neg (by omega),if_neg (by omega),if_neg (by omega),if_neg (by omega),if_neg (by omega),if_neg (by omega)];exact if_neg (by rw[hz];decide)
end
structure DPre (k:Nat) (z o:Int) (B:gO) (V S:List Int) (x:kC):Prop where
 hB:RBI B
 hz:fX B z
 ho:fX B o
 hV:∀ j,j<k->fX B (V.getD j 0)
 hS:∀ j,j<k->fX B (S.getD j 0)
 ord:OrdAt x k
 num:x.op=0->QL (xW x.n) 1048576
 op0:0<=x.op
 op7:x.op<=7
theorem DPre.va{k:Nat}{z o:Int}{B:gO}{V S:List Int}{x:kC}(h:DPre k z o B V S x)(hk:0<uA x.op):fX B (gI V x.a):=h.hV _ (by have:=h.ord.1 hk;omega)
theorem DPre.vb{k:Nat}{z o:Int}{B:gO}{V S:List Int}{x:kC}(h:DPre k z o B V S x)(hk:1<uA x.op):fX B (gI V x.b):=h.hV _ (by have:=h.ord.2 hk;omega)
theorem DPre.sa{k:Nat}{z o:Int}{B:gO}{V S:List Int}{x:kC}(h:DPre k z o B V S x)(hk:0<uA x.op):fX B (gI S x.a):=h.hS _ (by have:=h.ord.1 hk;omega)
theorem DPre.sb{k:Nat}{z o:Int}{B:gO}{V S:List Int}{x:kC}(h:DPre k z o B V S x)(hk:1<uA x.op):fX B (gI S x.b):=h.hS _ (by have:=h.ord.2 hk;omega)
def Ok4(B:gO)(r:gO × Int × Int):Prop:=RBI r.1/\fX r.1 r.2.1/\fX r.1 r.2.2/\B.tm.length<=r.1.tm.length
theorem nd2{B:gO}{o a b:Int}(hB:RBI B)(h1:2<=o)(h2:o<=7)(ha:fX B a)(hb:fX B b):Ok3 B (jV B o a b):=bY hB (.inr ⟨h1,h2,ha,hb⟩)
theorem ql_i{z:Int}(h:z.natAbs<1000000000:=by decide):QL ((z:Int):Rat) 1048576:=yV (Nat.le_trans (yC h) (by decide)) (by decide)
theorem dNd_ok{i:Int}{k:Nat}{z o:Int}{B:gO}{V S:List Int}{x:kC}(h:DPre k z o B V S x):Ok4 B (dNd i z o B V S x):=by
 have h0:=h.op0;have h7:=h.op7
 have hc:x.op=0\/x.op=1\/x.op=2\/x.op=3\/x.op=4\/x.op=5\/x.op=6\/x.op=7:=by omega
 rcases hc with e | e | e | e | e | e | e | e
 ·rw[dNd_0 e]
  have h1:=bNum_ok h.hB (h.num e)
  exact ⟨h1.1,h1.2.1,h1.ix h.hz,h1.2.2⟩
 ·rw[dNd_1 e]
  have h1:=bY (o:=1) (i:=x.a) (k:=0) h.hB (.inl ⟨rfl,rfl,by have:=h.hz.1;have:=h.hz.2;omega⟩)
  refine ⟨h1.1,h1.2.1,?_,h1.2.2⟩
  dsimp only
  split
  ·exact h1.ix h.ho
  ·exact h1.ix h.hz
 ·rw[dNd_2 e]
  have k1:0<uA x.op:=by rw[e];decide
  have k2:1<uA x.op:=by rw[e];decide
  have h1:=nd2 h.hB (o:=2) (by decide) (by decide) (h.va k1) (h.vb k2)
  have h2:=bSum_ok h1.1 (h1.ix (h.sa k1)) (h1.ix (h.sb k2))
  exact ⟨h2.1,h2.ix h1.2.1,h2.2.1,Nat.le_trans h1.2.2 h2.2.2⟩
 ·rw[dNd_3 e]
  have k1:0<uA x.op:=by rw[e];decide
  have k2:1<uA x.op:=by rw[e];decide
  have h1:=nd2 h.hB (o:=3) (by decide) (by decide) (h.va k1) (h.vb k2)
  have h2:=bDif_ok h1.1 (h1.ix (h.sa k1)) (h1.ix (h.sb k2))
  exact ⟨h2.1,h2.ix h1.2.1,h2.2.1,Nat.le_trans h1.2.2 h2.2.2⟩
 ·rw[dNd_4 e]
  have k1:0<uA x.op:=by rw[e];decide
  have k2:1<uA x.op:=by rw[e];decide
  have h1:=nd2 h.hB (o:=4) (by decide) (by decide) (h.va k1) (h.vb k2)
  have h2:=eB h1.1 (h1.ix (h.va k1)) (h1.ix (h.sb k2))
  have h3:=eB h2.1 (h2.ix (h1.ix (h.vb k2))) (h2.ix (h1.ix (h.sa k1)))
  have h4:=bSum_ok h3.1 (h3.ix h2.2.1) h3.2.1
  exact ⟨h4.1,h4.ix (h3.ix (h2.ix h1.2.1)),h4.2.1,Nat.le_trans h1.2.2 (Nat.le_trans h2.2.2 (Nat.le_trans h3.2.2 h4.2.2))⟩
 ·have k1:0<uA x.op:=by rw[e];decide
  have k2:1<uA x.op:=by rw[e];decide
  have h1:=nd2 h.hB (o:=5) (by decide) (by decide) (h.va k1) (h.vb k2)
  have h2:=eB h1.1 h1.2.1 (h1.ix (h.sb k2))
  have h3:=bDif_ok h2.1 (h2.ix (h1.ix (h.sa k1))) h2.2.1
  cases hz:dY (vJ (kH (jV B 5 (gI V x.a) (gI V x.b)).1 (jV B 5 (gI V x.a) (gI V x.b)).2 (gI S x.b)).1 (gI S x.a) (kH (jV B 5 (gI V x.a) (gI V x.b)).1 (jV B 5 (gI V x.a) (gI V x.b)).2 (gI S x.b)).2).1 (vJ (kH (jV B 5 (gI V x.a) (gI V x.b)).1 (jV B 5 (gI V x.a) (gI V x.b)).2 (gI S x.b)).1 (gI S x.a) (kH (jV B 5 (gI V x.a) (gI V x.b)).1 (jV B 5 (gI V x.a) (gI V x.b)).2 (gI S x.b)).2).2 0 with
  |true=>
   rw[dNd_5z e.symm hz]
   exact ⟨h3.1,h3.ix (h2.ix h1.2.1),h3.ix (h2.ix (h1.ix h.hz)),Nat.le_trans h1.2.2 (Nat.le_trans h2.2.2 h3.2.2)⟩
  |false=>
   rw[dNd_5 e.symm hz]
   have h4:=nd2 h3.1 (o:=5) (by decide) (by decide) h3.2.1 (h3.ix (h2.ix (h1.ix (h.vb k2))))
   exact ⟨h4.1,h4.ix (h3.ix (h2.ix h1.2.1)),h4.2.1,Nat.le_trans h1.2.2 (Nat.le_trans h2.2.2 (Nat.le_trans h3.2.2 h4.2.2))⟩
 ·rw[dNd_6 e]
  have k1:0<uA x.op:=by rw[e];decide
  have h1:=nd2 h.hB (o:=6) (by decide) (by decide) (h.va k1) (h.va k1).pos
  have h2:=bDif_ok h1.1 (h1.ix h.hz) (h1.ix (h.sa k1))
  exact ⟨h2.1,h2.ix h1.2.1,h2.2.1,Nat.le_trans h1.2.2 h2.2.2⟩
 ·have k1:0<uA x.op:=by rw[e];decide
  have h1:=nd2 h.hB (o:=7) (by decide) (by decide) (h.va k1) (h.va k1).pos
  have h2:=eB h1.1 (h1.ix (h.va k1)) (h1.ix (h.sa k1))
  by_cases hz:(kH (jV B 7 (gI V x.a) 0).1 (gI V x.a) (gI S x.a)).2=z
  ·rw[dNd_7z e hz]
   exact ⟨h2.1,h2.ix h1.2.1,h2.ix (h1.ix h.hz),Nat.le_trans h1.2.2 h2.2.2⟩
  ·rw[dNd_7 e hz]
   have h3:=bNum_ok (q:=((2:Int):Rat)) h2.1 (ql_i)
   have h4:=eB h3.1 h3.2.1 (h3.ix h2.2.1)
   exact ⟨h4.1,h4.ix (h3.ix (h2.ix h1.2.1)),h4.2.1,Nat.le_trans h1.2.2 (Nat.le_trans h2.2.2 (Nat.le_trans h3.2.2 h4.2.2))⟩
theorem nd_k{n:Int}{t:List kC}(h0:nB n t=0)(hq:∀ x∈t,nL x.n (xW x.n) 1048576){k:Nat}(hk:k<t.length) :
  OrdAt (t.getD k tz) k/\((t.getD k tz).op=0->QL (xW (t.getD k tz).n) 1048576/\(t.getD k tz).n=jN (xW (t.getD k tz).n))/\0<=(t.getD k tz).op/\(t.getD k tz).op<=7:=by
 obtain ⟨h1,h2,h3,_⟩:=nd_0 ((fY h0).2.2.2.2 k hk)
 rw[xV] at h2
 have hqk:nL (t.getD k tz).n (xW (t.getD k tz).n) 1048576:=by
  rw[List.getD_eq_getElem?_getD,List.getElem?_eq_getElem hk];exact hq _ (List.getElem_mem _)
 generalize t.getD k tz=x at *
 unfold dN at h1
 unfold eL at h2
 refine ⟨⟨fun h=>by omega,fun h=>by omega⟩,fun h=>?_,?_⟩
 ·have hv:kX x.n=true:=by
   cases hh:kX x.n with
   |true=>rfl
   |false=>exact absurd (Or.inr (Or.inr (Or.inl ⟨h,Or.inr hh⟩))) h1
  exact ⟨hqk.ql,(iN hv).symm⟩
 ·rcases mE x.op with ⟨e,f⟩ | ⟨e,f⟩ | ⟨e,f⟩ | ⟨e,_⟩<;>omega
structure DInv (i:Int) (t:List kC) (k:Nat):Prop where
 hB:RBI (dU i t k).1
 hz:fX (dU i t k).1 cD.2
 ho:fX (dU i t k).1 dOn.2
 lV:(dU i t k).2.1.length=k
 lS:(dU i t k).2.2.length=k
 hV:∀ j,j<k->fX (dU i t k).1 ((dU i t k).2.1.getD j 0)
 hS:∀ j,j<k->fX (dU i t k).1 ((dU i t k).2.2.getD j 0)
theorem dz_ok:Ok3 rb0 cD:=bNum_ok rbi0 (ql_i)
theorem do_ok:Ok3 cD.1 dOn:=bNum_ok dz_ok.1 (ql_i)
theorem DInv.pre{i n:Int}{t:List kC}{k:Nat}(h:DInv i t k)(h0:nB n t=0)(hq:∀ x∈t,nL x.n (xW x.n) 1048576)(hk:k<t.length):DPre k cD.2 dOn.2 (dU i t k).1 (dU i t k).2.1 (dU i t k).2.2 (t.getD k tz):=by
 obtain ⟨h1,h2,h3,h4⟩:=nd_k h0 hq hk
 exact ⟨h.hB,h.hz,h.ho,h.hV,h.hS,h1,fun e=>(h2 e).1,h3,h4⟩
theorem dInv{i n:Int}{t:List kC}(h0:nB n t=0)(hq:∀ x∈t,nL x.n (xW x.n) 1048576):∀ k,k<=t.length->DInv i t k
 |0,_=>⟨do_ok.1,do_ok.ix dz_ok.2.1,do_ok.2.1,rfl,rfl,fun j h=>absurd h (Nat.not_lt_zero j),fun j h=>absurd h (Nat.not_lt_zero j)⟩
 |k+1,hk=>by
  have ih:=dInv (i:=i) h0 hq k (by omega)
  have h:=dNd_ok (i:=i) (ih.pre h0 hq (by omega))
  refine ⟨h.1,ih.hz.up h.2.2.2,ih.ho.up h.2.2.2,?_,?_,fun j hj=>?_,fun j hj=>?_⟩
  ·rw[dU];dsimp only;rw[List.length_append,ih.lV];rfl
  ·rw[dU];dsimp only;rw[List.length_append,ih.lS];rfl
  ·show fX (dNd i cD.2 dOn.2 (dU i t k).1 (dU i t k).2.1 (dU i t k).2.2 (t.getD k tz)).1 (((dU i t k).2.1++[(dNd i cD.2 dOn.2 (dU i t k).1 (dU i t k).2.1 (dU i t k).2.2 (t.getD k tz)).2.1]).getD j 0)
   rw[iQ,ih.lV]
   split
   ·rename_i h5;exact (ih.hV j h5).up h.2.2.2
   ·rw[if_pos (by omega)];exact h.2.1
  ·show fX (dNd i cD.2 dOn.2 (dU i t k).1 (dU i t k).2.1 (dU i t k).2.2 (t.getD k tz)).1 (((dU i t k).2.2++[(dNd i cD.2 dOn.2 (dU i t k).1 (dU i t k).2.1 (dU i t k).2.2 (t.getD k tz)).2.2]).getD j 0)
   rw[iQ,ih.lS]
   split
   ·rename_i h5;exact (ih.hS j h5).up h.2.2.2
   ·rw[if_pos (by omega)];exact h.2.2.1
theorem gI_a{O V:List Int}{k:Nat}(h:O.take k=V){a:Int}(ha:a.toNat<k):O.getD a.toNat 0=gI V a:=by
 unfold gI;rw[<- h,take_getDr _ _ ha]
theorem gI_s{O V:List Int}{k:Nat}{v:Int}(h:O.take k=V){a:Int}(ha:a.toNat<k):(O.set k v).getD a.toNat 0=gI V a:=by
 rw[<- gI_a h ha,List.getD_eq_getElem?_getD,List.getElem?_set_ne (by omega),<- List.getD_eq_getElem?_getD]
structure DLst (i:Int) (t:List kC) (k:Nat) (O Q:List Int):Prop where
 lO:O.length=t.length
 lQ:Q.length=t.length
 hO:O.take k=(dU i t k).2.1
 hQ:Q.take k=(dU i t k).2.2
theorem dLst_0{i:Int}{t:List kC}:DLst i t 0 (List.replicate t.length 0) (List.replicate t.length 0):=⟨List.length_replicate,List.length_replicate,rfl,rfl⟩
theorem take_set1{O V:List Int}{k:Nat}{v:Int}(h:O.take k=V)(hk:k<O.length):(O.set k v).take (k+1)=V++[v]:=by
 rw[List.take_succ_eq_append_getElem (by rw[List.length_set];omega),List.getElem_set_self,List.take_set_of_le (Nat.le_refl k),h]
theorem DLst.put{i:Int}{t:List kC}{k:Nat}{O Q:List Int}(h:DLst i t k O Q)(hk:k<t.length){X:gO}{v s:Int}(e:dNd i cD.2 dOn.2 (dU i t k).1 (dU i t k).2.1 (dU i t k).2.2 (t.getD k tz)=(X,v,s)):X=(dU i t (k+1)).1/\DLst i t (k+1) (O.set k v) (Q.set k s):=by
 have e1:dU i t (k+1)=(X,(dU i t k).2.1++[v],(dU i t k).2.2++[s]):=by
  rw[dU];rw[e]
 refine ⟨by rw[e1],by rw[List.length_set];exact h.lO,by rw[List.length_set];exact h.lQ,?_,?_⟩
 ·rw[e1];exact take_set1 h.hO (by rw[h.lO];exact hk)
 ·rw[e1];exact take_set1 h.hQ (by rw[h.lQ];exact hk)
theorem DLst.put2{i:Int}{t:List kC}{k:Nat}{O Q:List Int}(h:DLst i t k O Q)(hk:k<t.length){X:gO}{v s z:Int}(e:dNd i cD.2 dOn.2 (dU i t k).1 (dU i t k).2.1 (dU i t k).2.2 (t.getD k tz)=(X,v,s)):X=(dU i t (k+1)).1/\DLst i t (k+1) (O.set k v) ((Q.set k z).set k s):=by
 rw[List.set_set];exact h.put hk e
def DRT(i:Int)(t:List kC):List kC:=if dOv i t=true then [] else drvT i t
def DRC(i:Int)(t:List kC):Nat:=if dOv i t=true then 3 else 0
theorem dOv_t{i:Int}{t:List kC}{k:Nat}(hk:k<t.length)(h:(dU i t (k+1)).1.ov=true):DRT i t=[]/\DRC i t=3:=by
 have:dOv i t=true:=List.any_eq_true.2 ⟨k,List.mem_range.2 hk,h⟩
 exact ⟨if_pos this,if_pos this⟩
theorem dOv_f{i:Int}{t:List kC}{k:Nat}(hk:k=t.length)(h:∀ j,j<k->(dU i t (j+1)).1.ov=false):DRT i t=trimT (dU i t k).1.tm (gI (dU i t k).2.2 (((k:Nat):Int)-1)).toNat/\DRC i t=0:=by
 have:¬ dOv i t=true:=by
  rw[Bool.not_eq_true]
  exact List.any_eq_false.2 fun j hj=>by rw[h j (by rw[hk];exact List.mem_range.1 hj)];decide
 subst hk
 exact ⟨if_neg this,if_neg this⟩
theorem dlast{i:Int}{t:List kC}{k:Nat}{O Q:List Int}(h:DLst i t k O Q)(hI:DInv i t k)(hk:k=t.length)(h1:1<=k):Q.getD (t.length-1) 0=(((gI (dU i t k).2.2 (((k:Nat):Int)-1)).toNat:Nat):Int):=by
 have e:=gI_a (a:=((k:Nat):Int)-1) h.hQ (by omega)
 rw[show (((k:Nat):Int)-1).toNat=t.length-1 by omega] at e
 rw[e]
 have:=hI.hS (((k:Nat):Int)-1).toNat (by omega)
 exact (Int.toNat_of_nonneg this.1).symm
theorem dlast_lt{i:Int}{t:List kC}{k:Nat}(hI:DInv i t k)(h1:1<=k):(gI (dU i t k).2.2 (((k:Nat):Int)-1)).toNat<(dU i t k).1.tm.length:=by
 have:=hI.hS (((k:Nat):Int)-1).toNat (by omega)
 have h0:=this.1
 have h2:=this.2
 unfold gI at *
 omega
end Go.Fid
