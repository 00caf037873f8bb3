/- Part 29 of a proof: rules, plain facts, and functions walked. -/
import Derived.Test.YtciingpdmjepgaaGreatM12
import Derived.Test.YtciingpdmjepgaaGreatM23
import Derived.Test.YtciingpdmjepgaaGreatM28
set_option linter.all false
namespace Go.Proofs.YtciingpdmjepgaaGreat
open Go.Fid
def xA(m n:Int):Bool:=decide (n < -m)||decide (m<n)
def smI(l:List Int)(m:Int):Bool:=l.all fun x=>!(xA m x)
theorem smI_no{l:List Int}{m:Int}{i:Nat}(hi:i<l.length)(h:xA m (l.getD i 0)=true):smI l m=false:=by
 unfold smI
 rw[List.all_eq_false]
 refine ⟨l[i],List.getElem_mem hi,?_⟩
 rw[List.getD_eq_getElem?_getD,List.getElem?_eq_getElem hi] at h
 simpa using h
theorem smI_yes{l:List Int}{m:Int}(h:∀ j,j<l.length->xA m (l.getD j 0)=false):smI l m=true:=by
 unfold smI
 rw[List.all_eq_true]
 intro x hx
 obtain ⟨j,hj,rfl⟩:=List.getElem_of_mem hx
 have:=h j hj
 rw[List.getD_eq_getElem?_getD,List.getElem?_eq_getElem hj] at this
 simpa using this
def gG(l:List Int)(n:Int):Bool:=l.any fun x=>x == n
theorem hasI_yes{l:List Int}{n:Int}{i:Nat}(hi:i<l.length)(h:l.getD i 0=n):gG l n=true:=by
 unfold gG
 rw[List.any_eq_true]
 refine ⟨l[i],List.getElem_mem hi,?_⟩
 rw[List.getD_eq_getElem?_getD,List.getElem?_eq_getElem hi] at h
 simpa using h
theorem hasI_no{l:List Int}{n:Int}(h:∀ j,j<l.length->¬ l.getD j 0=n):gG l n=false:=by
 unfold gG
 rw[List.any_eq_false]
 intro x hx
 obtain ⟨j,hj,rfl⟩:=List.getElem_of_mem hx
 have:=h j hj
 rw[List.getD_eq_getElem?_getD,List.getElem?_eq_getElem hj] at this
 simpa using this
def mC(i n:Int):Bool:=decide (0<=i)&&decide (i<n)
def cO(dim vC:Int):List Int:=if ((dim == 2)&&(vC == 0))=true then [0,2,4] else if dim=2 then [0,2] else if vC=0 then [0,1,2,3,4,5] else [0,1,2]
theorem yG(dim vC:Int):(cO dim vC).length<=6:=by
 unfold cO
 split
 ·decide
 ·split
  ·decide
  ·split<;>decide
def fR{α:Type}(f:α->Nat):List α->Nat
 |[]=>0
 |x::r=>if f x=0 then fR f r else f x
theorem fstC_drop{α:Type}(f:α->Nat)(d:α):∀ (l:List α) (i:Nat),i<=l.length->(∀ j,j<i->f (l.getD j d)=0)->fR f l=fR f (l.drop i)
 |_,0,_,_=>rfl
 |[],i+1,h,_=>by simp at h
 |x::r,i+1,h,h0=>by
  have hx:f x=0:=h0 0 (by omega)
  show (if f x=0 then fR f r else f x)=_
  rw[if_pos hx]
  exact fstC_drop f d r i (by simpa using h) fun j hj=>h0 (j+1) (by omega)
theorem fstC_no{α:Type}{f:α->Nat}{d:α}{l:List α}{i:Nat}(hi:i<l.length)(h0:∀ j,j<i->f (l.getD j d)=0)(h:f (l.getD i d)≠0):fR f l=f (l.getD i d):=by
 rw[fstC_drop f d l i (by omega) h0,List.drop_eq_getElem_cons hi]
 rw[List.getD_eq_getElem?_getD,List.getElem?_eq_getElem hi] at h ⊢
 exact if_neg h
theorem gH{α:Type}{f:α->Nat}{d:α}{l:List α}(h0:∀ j,j<l.length->f (l.getD j d)=0):fR f l=0:=by
 rw[fstC_drop f d l l.length (Nat.le_refl _) h0,List.drop_length];rfl
theorem fstC_mem{α:Type}{f:α->Nat}:∀ {l:List α},fR f l=0->∀ x∈l,f x=0
 |[],_,x,hx=>by cases hx
 |y::r,h,x,hx=>by
  have h:(if f y=0 then fR f r else f y)=0:=h
  by_cases hy:f y=0
  ·rw[if_pos hy] at h
   rcases List.mem_cons.1 hx with rfl | hx
   ·exact hy
   ·exact fstC_mem h x hx
  ·rw[if_neg hy] at h;exact absurd h hy
theorem gO{P:Nat->Prop}{i:Nat}(h0:∀ j,j<i->P j)(h:P i):∀ j,j<i+1->P j:=fun j hj=>by
 rcases Nat.lt_or_ge j i with q | q
 ·exact h0 j q
 ·obtain rfl:j=i:=by omega
  exact h
def stG(s:kM):Bool:=((!(smI [s.at_.x,s.at_.y,s.at_.z,s.centre.x,s.centre.y] 1048576)||decide (s.focal<1))||decide (1048576<s.focal))
def stF(s:kM):Bool:=(([s.at_.x,s.at_.y,s.at_.z,s.centre.x,s.centre.y].any (xA 1048576)||decide (s.focal<1))||decide (1048576<s.focal))
def stB(dim:Int)(s:kM):Bool:=(dim == 2)&&((((s.at_.y != 0)||(s.centre.y != 0))||(s.turn.b != 0))||(s.turn.d != 0))
def rotQ(q:jB):Nat:=yD q.a q.b q.c q.d
def eH(dim:Int)(s:kM):Nat:=if stG s=true then 2 else if ((rotQ s.turn:Nat):Int)≠0 then rotQ s.turn else if stB dim s=true then 1 else 0
def stN(dim:Int)(s:kM):Nat:=if stF s=true then 2 else if ((rotQ s.turn:Nat):Int)≠0 then rotQ s.turn else if stB dim s=true then 1 else 0
theorem st33_0{dim:Int}{s:kM}(h:eH dim s=0):stG s=false/\rotQ s.turn=0:=by
 unfold eH at h
 cases hg:stG s with
 |true=>rw[hg,if_pos rfl] at h;cases h
 |false=>
  rw[hg,if_neg (by decide)] at h
  by_cases hr:rotQ s.turn=0
  ·exact ⟨rfl,hr⟩
  ·rw[if_pos (by omega)] at h;exact absurd h hr
def ptB(dim:Int)(p:jM):Bool:=(dim == 2)&&(p.y != 0)
def pt33(dim:Int)(p:jM):Nat:=if (!(smI [p.x,p.y,p.z] 1048576))=true then 2 else if ptB dim p=true then 1 else 0
def ptN(dim:Int)(p:jM):Nat:=if ([p.x,p.y,p.z].any (xA 1048576))=true then 2 else if ptB dim p=true then 1 else 0
def msB(b:qW)(o:kL):Bool :=
 if o.kind=0 then !(mC o.a (b.sts.length:Nat))||!(mC o.b (b.pts.length:Nat)) else if o.kind=1 then !(mC o.b (b.pts.length:Nat)) else if o.kind=2 then !(mC o.a (b.sts.length:Nat))
 else if o.kind=3 then !(mC o.a (b.pts.length:Nat))||!(mC o.b (b.pts.length:Nat)) else if o.b=-1 then !(mC o.a (b.sts.length:Nat)) else !(mC o.b (b.pts.length:Nat))
def seB(dim:Int)(o:kL):Bool:=(o.value.a1 != 0)&&((o.kind != 0)||(dim == 2))
def odR(dim:Int)(o:kL):Bool :=
 if o.kind=0 then (o.axis != 0)||seB dim o else if o.kind=1 then (!(gG (cO dim 1) o.axis)||(o.a != 0))||seB dim o else if o.kind=2 then (!(gG (cO dim 1) o.axis)||(o.b != 0))||seB dim o
 else if o.kind=3 then ((o.axis != 0)||(o.a == o.b))||seB dim o else if o.b=-1 then (!(gG (cO dim 0) o.axis)||(o.value.a0 != 0))||seB dim o
 else ((!(gG (cO dim 1) o.axis)||(o.a != 0))||(o.value.a0 != 0))||seB dim o
def odN(dim:Int)(o:kL):Bool :=
 if seB dim o=true then true else if o.kind=0 then (o.axis != 0) else if o.kind=1 then (o.a != 0)||!(gG (cO dim 1) o.axis) else if o.kind=2 then (o.b != 0)||!(gG (cO dim 1) o.axis)
 else if o.kind=3 then (o.axis != 0)||(o.a == o.b) else if o.value.a0≠0 then true else if o.b=-1 then !(gG (cO dim 0) o.axis) else (o.a != 0)||!(gG (cO dim 1) o.axis)
def sL(o:kL):List Int:=if ((((o.kind == 0)||(o.kind == 2)))||((o.kind == 4)&&(o.b == -1)))=true then [o.a] else []
def pL(o:kL):List Int:=if o.kind=3 then [o.a,o.b] else if ((o.kind == 2)||((o.kind == 4)&&(o.b == -1)))=true then [] else [o.b]
theorem sL_len(o:kL):(sL o).length<=1000000:=by unfold sL;split<;>simp
theorem pL_len(o:kL):(pL o).length<=1000000:=by
 unfold pL
 split
 ·simp
 ·split<;>simp
def dH(n i:Int):Bool:=decide (i<0)||decide (n<=i)
abbrev cQ:kM:=(kM.mk (jM.mk 0 0 0) (jB.mk 0 0 0 0) 0 (qD.mk 0 0))
abbrev nP0:jM:=(jM.mk 0 0 0)
abbrev nO0:kL:=(kL.mk 0 0 0 0 (A2.mk 0 0) 0)
theorem rg_get{n i:Nat}(h:i<n):(List.range n).getD i 0=i:=by
 rw[List.getD_eq_getElem?_getD,List.getElem?_range h];rfl
theorem fstR_no{f:Nat->Nat}{n i:Nat}(hi:i<n)(h0:∀ j,j<i->f j=0)(h:f i≠0):fR f (List.range n)=f i:=by
 have:=fstC_no (f:=f) (d:=0) (l:=List.range n) (i:=i) (by simpa using hi) (fun j hj=>by rw[rg_get (by omega)];exact h0 j hj) (by rw[rg_get hi];exact h)
 rwa [rg_get hi] at this
theorem fstR_yes{f:Nat->Nat}{n:Nat}(h0:∀ j,j<n->f j=0):fR f (List.range n)=0 :=
 gH (d:=0) fun j hj=>by rw[List.length_range] at hj;rw[rg_get hj];exact h0 j hj
def gA(b:qW):Bool:=(b.dim != 2)&&(b.dim != 3)
def gB(b:qW):Bool:=((decide (64<((b.sts.length:Nat):Int))||decide (256<((b.pts.length:Nat):Int)))||decide (1024<((b.obs.length:Nat):Int)))
def kdB(o:kL):Bool:=(decide (o.kind<0)||decide (4<o.kind))
def obW(o:kL):Bool:=((o.kind == 4)&&(o.weight != 0))||((o.kind != 4)&&(decide (o.weight<1)||decide (1048576<o.weight)))
def obL(o:kL):List Int:=[o.kind,o.a,o.b,o.axis,o.value.a0,o.value.a1,o.weight]
def dpB(b:qW)(i j:Nat):Bool:=((b.obs.getD i nO0).kind == 4)&&decide (obL (b.obs.getD j nO0)=obL (b.obs.getD i nO0))
def dpA(b:qW)(i:Nat):Bool:=(List.range i).any (dpB b i)
theorem dpA_y{b:qW}{i j:Nat}(hj:j<i)(h:dpB b i j=true):dpA b i=true:=List.any_eq_true.2 ⟨j,List.mem_range.2 hj,h⟩
theorem dpA_n{b:qW}{i:Nat}(h:∀ j,j<i->dpB b i j=false):dpA b i=false:=List.any_eq_false.2 fun j hj=>by rw[h j (List.mem_range.1 hj)];decide
def bC(b:qW)(i:Nat):Nat:=if kdB (b.obs.getD i nO0)=true then 1 else if msB b (b.obs.getD i nO0)=true then 6 else if odR b.dim (b.obs.getD i nO0)=true then 1 else if (!(smI [(b.obs.getD i nO0).value.a0,(b.obs.getD i nO0).value.a1] 1099511627776))=true then 2 else if obW (b.obs.getD i nO0)=true then 2 else if dpA b i=true then 7 else 0
def rcC(b:qW):Nat:=if gA b=true then 2 else if gB b=true then 3 else if fR (eH b.dim) b.sts≠0 then fR (eH b.dim) b.sts else if fR (pt33 b.dim) b.pts≠0 then fR (pt33 b.dim) b.pts else fR (bC b) (List.range b.obs.length)
theorem fb_t{n:Nat}(h:(false||(((n:Nat):Int) != ((0:Nat):Int)))=true):n≠0:=by
 have h:(((n:Nat):Int) != ((0:Nat):Int))=true:=h
 have:=bne_iff_ne.1 h
 omega
theorem fb_f{n:Nat}(h:(false||(((n:Nat):Int) != ((0:Nat):Int)))=false):n=0:=by
 have h:(((n:Nat):Int) != ((0:Nat):Int))=false:=h
 have:=bne_eq_false_iff_eq.1 h
 omega
theorem ne_nat{n:Nat}(h:((n:Nat):Int)≠((0:Nat):Int)):n≠0:=by omega
section
variable {b:qW} {i:Nat} (h1:gA b=false) (h2:gB b=false)
include h1 h2
theorem rc_s(hi:i<b.sts.length)(h0:∀ j,j<i->eH b.dim (b.sts.getD j cQ)=0)(h:eH b.dim (b.sts.getD i cQ)≠0):rcC b=eH b.dim (b.sts.getD i cQ):=by
 have e:=fstC_no hi h0 h
 unfold rcC
 rw[h1,h2,if_neg (by decide),if_neg (by decide),if_pos (by rw[e];exact h),e]
theorem rc_p(hs:∀ j,j<b.sts.length->eH b.dim (b.sts.getD j cQ)=0)(hi:i<b.pts.length)(h0:∀ j,j<i->pt33 b.dim (b.pts.getD j nP0)=0)(h:pt33 b.dim (b.pts.getD i nP0)≠0):rcC b=pt33 b.dim (b.pts.getD i nP0):=by
 have e:=fstC_no hi h0 h
 unfold rcC
 rw[h1,h2,if_neg (by decide),if_neg (by decide),if_neg (by rw[gH hs];decide),if_pos (by rw[e];exact h),e]
theorem rc_o(hs:∀ j,j<b.sts.length->eH b.dim (b.sts.getD j cQ)=0)(hp:∀ j,j<b.pts.length->pt33 b.dim (b.pts.getD j nP0)=0)(hi:i<b.obs.length)(h0:∀ j,j<i->bC b j=0){c:Nat}(h:bC b i=c)(hc:c≠0):rcC b=c:=by
 have e:=fstR_no hi h0 (by rw[h];exact hc)
 unfold rcC
 rw[h1,h2,if_neg (by decide),if_neg (by decide),if_neg (by rw[gH hs];decide),if_neg (by rw[gH hp];decide),e,h]
theorem rc_0(hs:∀ j,j<b.sts.length->eH b.dim (b.sts.getD j cQ)=0)(hp:∀ j,j<b.pts.length->pt33 b.dim (b.pts.getD j nP0)=0)(h0:∀ j,j<b.obs.length->bC b j=0):rcC b=0:=by
 unfold rcC
 rw[h1,h2,if_neg (by decide),if_neg (by decide),if_neg (by rw[gH hs];decide),if_neg (by rw[gH hp];decide),fstR_yes h0]
end
theorem rc_st{b:qW}(h:rcC b=0):∀ s∈b.sts,eH b.dim s=0:=by
 unfold rcC at h
 split at h
 ·cases h
 ·split at h
  ·cases h
  ·split at h
   ·rename_i h3;exact absurd h h3
   ·rename_i h3;exact fstC_mem (Classical.byContradiction fun h4=>h3 h4)
def wtB(o:kL):Bool:=if o.kind=4 then (o.weight != 0) else (decide (o.weight<1)||decide (1048576<o.weight))
def obM(b:qW)(o:kL):Bool:=((sL o).any (dH (b.sts.length:Nat))||(pL o).any (dH (b.pts.length:Nat)))
def obF(o:kL):Bool:=(wtB o||[o.value.a0,o.value.a1].any (xA 1099511627776))
def fZ(b:qW)(o:kL):Nat:=if kdB o=true then 1 else if obM b o=true then 6 else if odN b.dim o=true then 1 else if obF o=true then 2 else 0
def kyO(o:kL):I3K:=(o.a,o.b,o.axis)
def obsC(b:qW):List (I3K × Unit)->List kL->Nat
 |_,[]=>0
 |K,o::r=>if fZ b o≠0 then fZ b o else if o.kind=4 then (if (fL K (kyO o)).isSome=true then 7 else obsC b (K++[(kyO o,())]) r) else obsC b K r
def ncC(b:qW):Nat:=if gA b=true then 2 else if gB b=true then 3 else if fR (stN b.dim) b.sts≠0 then fR (stN b.dim) b.sts else if fR (ptN b.dim) b.pts≠0 then fR (ptN b.dim) b.pts else obsC b [] b.obs
theorem dr_at{l:List kL}{i:Nat}(h:i<l.length):l.drop i=l.getD i nO0::l.drop (i+1):=by
 rw[List.drop_eq_getElem_cons h,List.getD_eq_getElem?_getD,List.getElem?_eq_getElem h];rfl
section
variable {b:qW} {i:Nat} {K:List (I3K × Unit)}
theorem obs_e(hi:i<b.obs.length){c:Nat}(h:fZ b (b.obs.getD i nO0)=c)(hc:c≠0):obsC b K (b.obs.drop i)=c:=by
 rw[dr_at hi]
 show (if fZ b _≠0 then _ else _)=_
 rw[if_pos (by rw[h];exact hc),h]
theorem obs_d(hi:i<b.obs.length)(h:fZ b (b.obs.getD i nO0)=0)(h4:(b.obs.getD i nO0).kind=4)(hk:(fL K (kyO (b.obs.getD i nO0))).isSome=true):obsC b K (b.obs.drop i)=7:=by
 rw[dr_at hi]
 show (if fZ b _≠0 then _ else _)=_
 rw[if_neg (by rw[h];decide),if_pos h4,if_pos hk]
theorem obs_k(hi:i<b.obs.length)(h:fZ b (b.obs.getD i nO0)=0)(h4:(b.obs.getD i nO0).kind=4)(hk:(fL K (kyO (b.obs.getD i nO0))).isSome=false):obsC b K (b.obs.drop i)=obsC b (K++[(kyO (b.obs.getD i nO0),())]) (b.obs.drop (i+1)):=by
 rw[dr_at hi]
 show (if fZ b _≠0 then _ else _)=_
 rw[if_neg (by rw[h];decide),if_pos h4,if_neg (by rw[hk];decide)]
theorem obs_n(hi:i<b.obs.length)(h:fZ b (b.obs.getD i nO0)=0)(h4:¬ (b.obs.getD i nO0).kind=4):obsC b K (b.obs.drop i)=obsC b K (b.obs.drop (i+1)):=by
 rw[dr_at hi]
 show (if fZ b _≠0 then _ else _)=_
 rw[if_neg (by rw[h];decide),if_neg h4]
end
section
variable {b:qW} {i:Nat} (h1:gA b=false) (h2:gB b=false)
include h1 h2
theorem nc_s(hi:i<b.sts.length)(h0:∀ j,j<i->stN b.dim (b.sts.getD j cQ)=0)(h:stN b.dim (b.sts.getD i cQ)≠0):ncC b=stN b.dim (b.sts.getD i cQ):=by
 have e:=fstC_no hi h0 h
 unfold ncC
 rw[h1,h2,if_neg (by decide),if_neg (by decide),if_pos (by rw[e];exact h),e]
theorem nc_p(hs:∀ j,j<b.sts.length->stN b.dim (b.sts.getD j cQ)=0)(hi:i<b.pts.length)(h0:∀ j,j<i->ptN b.dim (b.pts.getD j nP0)=0){c:Nat}(h:ptN b.dim (b.pts.getD i nP0)=c)(hc:c≠0):ncC b=c:=by
 have e:=fstC_no hi h0 (by rw[h];exact hc)
 unfold ncC
 rw[h1,h2,if_neg (by decide),if_neg (by decide),if_neg (by rw[gH hs];decide),if_pos (by rw[e,h];exact hc),e,h]
theorem nc_o(hs:∀ j,j<b.sts.length->stN b.dim (b.sts.getD j cQ)=0)(hp:∀ j,j<b.pts.length->ptN b.dim (b.pts.getD j nP0)=0):ncC b=obsC b [] b.obs:=by
 unfold ncC
 rw[h1,h2,if_neg (by decide),if_neg (by decide),if_neg (by rw[gH hs];decide),if_neg (by rw[gH hp];decide)]
end
def nkB(o:kL):Bool:=(o.kind != 0)
def vW(b:qW)(k:Nat):jB:=(b.sts.getD k cQ).turn
def tdX(q:jB)(p sh:jM):Int:=((sh.x+((((q.a*q.a)+(q.b*q.b))-(q.c*q.c))-(q.d*q.d))*p.x)+(2*((q.b*q.c)-(q.a*q.d)))*p.y)+(2*((q.b*q.d)+(q.a*q.c)))*p.z
def tdY(q:jB)(p sh:jM):Int:=((sh.y+(2*((q.b*q.c)+(q.a*q.d)))*p.x)+((((q.a*q.a)-(q.b*q.b))+(q.c*q.c))-(q.d*q.d))*p.y)+(2*((q.c*q.d)-(q.a*q.b)))*p.z
def tdZ(q:jB)(p sh:jM):Int:=((sh.z+(2*((q.b*q.d)-(q.a*q.c)))*p.x)+(2*((q.c*q.d)+(q.a*q.b)))*p.y)+((((q.a*q.a)-(q.b*q.b))-(q.c*q.c))+(q.d*q.d))*p.z
def tdV(q:jB)(p sh:jM):jM:=⟨jO (tdX q p sh),jO (tdY q p sh),jO (tdZ q p sh)⟩
def tdB(q:jB)(p sh:jM):Bool:=(((((kO (tdX q p sh)&&!([jO (tdX q p sh)].any (xA 1048576)))&&kO (tdY q p sh))&&!([jO (tdY q p sh)].any (xA 1048576)))&&kO (tdZ q p sh))&&!([jO (tdZ q p sh)].any (xA 1048576)))
def mvT(q:jB)(s:kM):kM:=⟨s.at_,qV (jX q s.turn),s.focal,s.centre⟩
def mvS(q:jB)(sh:jM)(s:kM):kM:=⟨tdV q s.at_ sh,qV (jX q s.turn),s.focal,s.centre⟩
def spOk(p:jM):Prop:=(-9223372036854775808<=p.x/\p.x<=9223372036854775807)/\(-9223372036854775808<=p.y/\p.y<=9223372036854775807)/\(-9223372036854775808<=p.z/\p.z<=9223372036854775807)
abbrev nN0:qW:=⟨0,[],[],[]⟩
def agB(dim:Int)(q:jB)(sh:jM):Bool:=(dim == 2)&&(((q.b != 0)||(q.d != 0))||(sh.y != 0))
def mvG(b:qW)(q:jB)(sh:jM):Nat:=if ncC b≠0 then ncC b else if rotQ q≠0 then rotQ q else if agB b.dim q sh=true then 1 else if b.obs.any nkB=true then 11 else 0
def mvU(q:jB)(s:kM):Nat:=qC (jX q s.turn)
def mvC(b:qW)(q:jB)(sh:jM):Nat:=if mvG b q sh≠0 then mvG b q sh else if fR (mvU q) b.sts≠0 then fR (mvU q) b.sts else if (b.sts.all fun s=>tdB q s.at_ sh)=false then 2 else if (b.pts.all fun p=>tdB q p sh)=false then 2 else 0
def mvN(b:qW)(q:jB)(sh:jM):qW:=⟨b.dim,b.sts.map (mvS q sh),b.pts.map (fun p=>tdV q p sh),b.obs⟩
def mvR(b:qW)(q:jB)(sh:jM):qW:=if mvC b q sh=0 then mvN b q sh else nN0
theorem mv_e{b:qW}{q:jB}{sh:jM}{c:Nat}(h:mvC b q sh=c)(hc:c≠0):mvR b q sh=nN0/\mvC b q sh=c:=⟨if_neg (by rw[h];exact hc),h⟩
theorem all_no{α:Type}{f:α->Bool}{d:α}{l:List α}{i:Nat}(hi:i<l.length)(h:f (l.getD i d)=false):l.all f=false:=by
 rw[List.getD_eq_getElem?_getD,List.getElem?_eq_getElem hi] at h
 exact List.all_eq_false.2 ⟨l[i],List.getElem_mem hi,by simpa using h⟩
theorem all_yes{α:Type}{f:α->Bool}{d:α}{l:List α}(h:∀ j,j<l.length->f (l.getD j d)=true):l.all f=true:=by
 rw[List.all_eq_true]
 intro x hx
 obtain ⟨j,hj,rfl⟩:=List.getElem_of_mem hx
 have:=h j hj
 rwa [List.getD_eq_getElem?_getD,List.getElem?_eq_getElem hj] at this
section
variable {b:qW} {q:jB} {sh:jM} {i:Nat}
theorem mv_g{c:Nat}(h:mvG b q sh=c)(hc:c≠0):mvR b q sh=nN0/\mvC b q sh=c :=
 mv_e (by unfold mvC;rw[if_pos (by rw[h];exact hc),h]) hc
theorem mv_t(h:mvG b q sh=0)(hi:i<b.sts.length)(h0:∀ j,j<i->mvU q (b.sts.getD j cQ)=0)(h1:mvU q (b.sts.getD i cQ)≠0):mvR b q sh=nN0/\mvC b q sh=mvU q (b.sts.getD i cQ):=by
 have e:=fstC_no hi h0 h1
 exact mv_e (by unfold mvC;rw[if_neg (by rw[h];decide),if_pos (by rw[e];exact h1),e]) h1
theorem mv_s(h:mvG b q sh=0)(h0:∀ j,j<b.sts.length->mvU q (b.sts.getD j cQ)=0)(hi:i<b.sts.length)(h1:tdB q (b.sts.getD i cQ).at_ sh=false):mvR b q sh=nN0/\mvC b q sh=2 :=
 mv_e (by unfold mvC;rw[if_neg (by rw[h];decide),if_neg (by rw[gH h0];decide),if_pos (all_no hi h1)]) (by decide)
theorem mv_p(h:mvG b q sh=0)(h0:∀ j,j<b.sts.length->mvU q (b.sts.getD j cQ)=0)(h1:∀ j,j<b.sts.length->tdB q (b.sts.getD j cQ).at_ sh=true)(hi:i<b.pts.length)(h2:tdB q (b.pts.getD i nP0) sh=false):mvR b q sh=nN0/\mvC b q sh=2 :=
 mv_e (by unfold mvC;rw[if_neg (by rw[h];decide),if_neg (by rw[gH h0];decide),if_neg (by rw[all_yes (d:=cQ) h1];decide),if_pos (all_no hi h2)]) (by decide)
theorem mv_0(h:mvG b q sh=0)(h0:∀ j,j<b.sts.length->mvU q (b.sts.getD j cQ)=0)(h1:∀ j,j<b.sts.length->tdB q (b.sts.getD j cQ).at_ sh=true)(h2:∀ j,j<b.pts.length->tdB q (b.pts.getD j nP0) sh=true):mvR b q sh=mvN b q sh/\mvC b q sh=0:=by
 have e:mvC b q sh=0:=by
  unfold mvC
  rw[if_neg (by rw[h];decide),if_neg (by rw[gH h0];decide),if_neg (by rw[all_yes (d:=cQ) h1];decide),if_neg (by rw[all_yes (d:=nP0) h2];decide)]
 exact ⟨if_pos e,e⟩
theorem mvd_ok(h:mvC b q sh=0):mvR b q sh=mvN b q sh/\rotQ q=0/\∀ s∈b.sts,mvU q s=0:=by
 refine ⟨if_pos h,?_⟩
 unfold mvC at h
 split at h
 ·rename_i hg;exact absurd h hg
 ·rename_i hg
  have hg:mvG b q sh=0:=Classical.byContradiction hg
  split at h
  ·rename_i hf;exact absurd h hf
  ·rename_i hf
   refine ⟨?_,fstC_mem (Classical.byContradiction hf)⟩
   unfold mvG at hg
   split at hg
   ·rename_i h3;exact absurd hg h3
   ·split at hg
    ·rename_i h4;exact absurd hg h4
    ·rename_i h4;exact Classical.byContradiction h4
def stI(b:qW)(q:jB)(sh:jM)(i:Nat)(o:List kM):Prop:=o.length=b.sts.length/\∀ j,j<b.sts.length->o.getD j cQ=if j<i then mvS q sh (b.sts.getD j cQ) else mvT q (b.sts.getD j cQ)
theorem gd_map{α β:Type}{f:α->β}{d:α}{e:β}{l:List α}{j:Nat}(h:j<l.length):(l.map f).getD j e=f (l.getD j d):=by
 rw[List.getD_eq_getElem?_getD,List.getElem?_map,List.getD_eq_getElem?_getD,List.getElem?_eq_getElem h];rfl
theorem stI_0:stI b q sh 0 (b.sts.map (mvT q)):=⟨by simp,fun j hj=>by rw[if_neg (by omega)];exact gd_map hj⟩
theorem stI_at{o:List kM}(h:stI b q sh i o)(hi:i<b.sts.length):o.getD i cQ=mvT q (b.sts.getD i cQ):=by rw[h.2 i hi,if_neg (by omega)]
theorem stI_s{o:List kM}(h:stI b q sh i o)(hi:i<b.sts.length):stI b q sh (i+1) (o.set i (mvS q sh (b.sts.getD i cQ))):=by
 refine ⟨by rw[List.length_set];exact h.1,fun j hj=>?_⟩
 rw[List.getD_eq_getElem?_getD,List.getElem?_set]
 by_cases e:i=j
 ·subst e
  rw[if_pos rfl,if_pos (by rw[h.1];exact hi),if_pos (by omega)];rfl
 ·rw[if_neg e,<- List.getD_eq_getElem?_getD,h.2 j hj]
  by_cases g:j<i
  ·rw[if_pos g,if_pos (by omega)]
  ·rw[if_neg g,if_neg (by omega)]
theorem stI_s2{o:List kM}(h:stI b q sh i o)(hi:i<b.sts.length):stI b q sh (i+1) (o.set i (kM.mk (tdV q (b.sts.getD i cQ).at_ sh) (o.getD i cQ).turn (o.getD i cQ).focal (o.getD i cQ).centre)):=by
 rw[stI_at h hi];exact stI_s h hi
theorem ext_getD{α:Type}(d:α){l m:List α}(h:l.length=m.length)(hg:∀ j,j<l.length->l.getD j d=m.getD j d):l=m:=by
 refine List.ext_getElem h fun j h1 h2=>?_
 have:=hg j h1
 rwa [List.getD_eq_getElem?_getD,List.getD_eq_getElem?_getD,List.getElem?_eq_getElem h1,List.getElem?_eq_getElem h2] at this
theorem stI_e{o:List kM}(h:stI b q sh i o)(hi:i=b.sts.length):o=b.sts.map (mvS q sh) :=
 ext_getD cQ (by rw[h.1];simp) fun j hj=>by
  have hj':j<b.sts.length:=by rw[h.1] at hj;exact hj
  rw[h.2 j hj',if_pos (by omega)];exact (gd_map hj').symm
theorem tk_s{α β:Type}{f:α->β}{d:α}{l:List α}{i:Nat}(h:i<l.length):(l.take i).map f++[f (l.getD i d)]=(l.take (i+1)).map f:=by
 rw[List.take_succ_eq_append_getElem h,List.map_append,List.getD_eq_getElem?_getD,List.getElem?_eq_getElem h];rfl
theorem tk_l{α β:Type}{f:α->β}{l:List α}{i:Nat}(h:i<=l.length):((l.take i).map f).length=i:=by
 rw[List.length_map,List.length_take];omega
end
theorem gd_mem{α:Type}{l:List α}{j:Nat}(d:α)(h:j<l.length):l.getD j d∈l:=by
 rw[List.getD_eq_getElem?_getD,List.getElem?_eq_getElem h];exact List.getElem_mem h
def zRl(n:Nat):List Rat:=List.replicate n 0
theorem zRl_len(n:Nat):(zRl n).length=n:=List.length_replicate ..
theorem rep_get{n j:Nat}:(zRl n).getD j 0=0:=by
 unfold zRl
 rw[List.getD_eq_getElem?_getD,List.getElem?_replicate];split<;>rfl
theorem rep_map{α:Type}(l:List α):(l.map fun _=>(0:Rat))=zRl l.length:=by
 unfold zRl
 induction l with
 |nil=>rfl
 |cons x r ih=>rw[List.map_cons,ih];rfl
def mxQ(q:jB):Int:=mx8 q.a (-q.a) q.b (-q.b) q.c (-q.c) q.d (-q.d)
theorem mxQ_64{q:jB}(h:mxQ q<=64):s64 q.a/\s64 q.b/\s64 q.c/\s64 q.d:=by
 unfold mxQ mx8 at h
 simp only[mx2_le] at h
 unfold s64
 omega
theorem rc_len{b:qW}(h:rcC b=0){j:Nat}(hj:j<b.sts.length):mK (vW b j) :=
 gF.2 (st33_0 (rc_st h _ (gd_mem cQ hj))).2
theorem tn_mv{b:qW}{q:jB}{sh:jM}{j:Nat}(hj:j<b.sts.length):vW (mvN b q sh) j=qV (jX q (vW b j)):=by
 show ((b.sts.map (mvS q sh)).getD j cQ).turn=_
 rw[gd_map (d:=cQ) hj];rfl
theorem mv_len(b:qW)(q:jB)(sh:jM):(mvN b q sh).sts.length=b.sts.length:=List.length_map _
theorem mv_rel{b:qW}{q:jB}{sh:jM}(hq:mK q)(h:∀ j,j<b.sts.length->mK (vW b j))(hr:rlOk (vW b) b.sts.length)(hu:∀ s∈b.sts,mvU q s=0) :
  (∀ j,j<(mvN b q sh).sts.length->mK (vW (mvN b q sh) j))/\(rlB (vW (mvN b q sh)) (mvN b q sh).sts.length=true->rlV (vW (mvN b q sh)) (mvN b q sh).sts.length=vU (vW b) b.sts.length):=by
 have hc:∀ j,j<b.sts.length->qC (jX q (vW b j))=0:=fun j hj=>hu _ (gd_mem cQ hj)
 refine ⟨fun j hj=>?_,fun hB=>?_⟩
 ·rw[mv_len] at hj
  rw[tn_mv hj]
  exact cM (xU hq.1 (h j hj).1) (hc j hj)
 ·have hr':=rlB_t hB
  rw[(rl_yes hr').1]
  rw[mv_len] at hr' ⊢
  exact rl_turn hq.1 h hr (fun j hj=>⟨hc j hj,tn_mv hj⟩) hr'
end Go.Proofs.YtciingpdmjepgaaGreat
