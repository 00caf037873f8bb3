/- Part 26 of a proof: rules, plain facts, and functions walked. -/
import Derived.Test.YtciingpdmjepgaaGreatM23
set_option linter.all false
namespace Go.Fid
abbrev FwR:=Nat × List Bool × List jB
def nxN(x:jE)(node:Nat):Option Nat:=if ((node:Nat):Int)=x.fr then some x.to_.toNat else if ((node:Nat):Int)=x.to_ then some x.fr.toNat else none
def nxU(x:jE)(node:Nat)(out:List jB):jB:=if ((node:Nat):Int)=x.fr then jX (uX out node) (qV (uK x.turn)) else jX (uX out node) x.turn
def xZ(es:List jE)(rec:Nat->List Bool->List jB->FwR)(node i:Nat)(kn:List Bool)(out:List jB):FwR :=
 match nxN (es.getD i e0) node with
 |none=>(0,kn,out)
 |some nx=>if kn.getD nx false=true then (0,kn,out) else if qC (nxU (es.getD i e0) node out)=0 then rec nx kn (out.set nx (qV (nxU (es.getD i e0) node out))) else (qC (nxU (es.getD i e0) node out),kn,out.set nx (qV (nxU (es.getD i e0) node out)))
def nF(es:List jE)(tk:List Int)(rec:Nat->List Bool->List jB->FwR)(node:Nat)(kn:List Bool)(out:List jB):Nat->FwR
 |0=>(0,kn,out)
 |k+1=>if (nF es tk rec node kn out k).1=0 then xZ es rec node (tk.getD k 0).toNat (nF es tk rec node kn out k).2.1 (nF es tk rec node kn out k).2.2 else nF es tk rec node kn out k
def gU(es:List jE)(tk:List Int):Nat->Nat->List Bool->List jB->FwR
 |0=>fun _ kn out=>(0,kn,out)
 |f+1=>fun node kn out=>nF es tk (gU es tk f) node (kn.set node true) out tk.length
section
variable {es:List jE} {tk:List Int} {rec:Nat->List Bool->List jB->FwR} {node:Nat} {kn0:List Bool} {out0:List jB}
theorem aL{k:Nat}{kn:List Bool}{ou:List jB}(h:nF es tk rec node kn0 out0 k=(0,kn,ou)):nF es tk rec node kn0 out0 (k+1)=xZ es rec node (tk.getD k 0).toNat kn ou:=by
 show (if (nF es tk rec node kn0 out0 k).1=0 then _ else _)=_
 rw[h];rfl
theorem fwAt_stop{k:Nat}(h:(nF es tk rec node kn0 out0 k).1≠0):∀ m,nF es tk rec node kn0 out0 (k+m)=nF es tk rec node kn0 out0 k
 |0=>rfl
 |m+1=>by
  have ih:=fwAt_stop h m
  show (if (nF es tk rec node kn0 out0 (k+m)).1=0 then _ else _)=_
  rw[ih,if_neg h];exact ih
theorem fwAt_end{k:Nat}{s:FwR}(hk:k<tk.length)(h:nF es tk rec node kn0 out0 (k+1)=s)(hs:s.1≠0):nF es tk rec node kn0 out0 tk.length=s:=by
 have h1:=fwAt_stop (m:=tk.length-(k+1)) (es:=es) (tk:=tk) (rec:=rec) (node:=node) (kn0:=kn0) (out0:=out0) (k:=k+1) (by rw[h];exact hs)
 rw[show k+1+(tk.length-(k+1))=tk.length by omega] at h1
 rw[h1,h]
theorem st_none{i:Nat}{kn:List Bool}{ou:List jB}(h1:((node:Nat):Int)≠(es.getD i e0).fr)(h2:((node:Nat):Int)≠(es.getD i e0).to_):xZ es rec node i kn ou=(0,kn,ou):=by
 unfold xZ nxN;rw[if_neg h1,if_neg h2]
theorem st_fk{i:Nat}{kn:List Bool}{ou:List jB}(h1:((node:Nat):Int)=(es.getD i e0).fr)(h2:kn.getD (es.getD i e0).to_.toNat false=true):xZ es rec node i kn ou=(0,kn,ou):=by
 unfold xZ nxN;rw[if_pos h1];simp only[h2,if_true]
theorem st_bk{i:Nat}{kn:List Bool}{ou:List jB}(h0:((node:Nat):Int)≠(es.getD i e0).fr)(h1:((node:Nat):Int)=(es.getD i e0).to_)(h2:kn.getD (es.getD i e0).fr.toNat false=true):xZ es rec node i kn ou=(0,kn,ou):=by
 unfold xZ nxN;rw[if_neg h0,if_pos h1];simp only[h2,if_true]
theorem st_f{i:Nat}{kn:List Bool}{ou:List jB}(h1:((node:Nat):Int)=(es.getD i e0).fr)(h2:kn.getD (es.getD i e0).to_.toNat false=false) :
  xZ es rec node i kn ou=if qC (jX (uX ou node) (qV (uK (es.getD i e0).turn)))=0 then rec (es.getD i e0).to_.toNat kn (ou.set (es.getD i e0).to_.toNat (qV (jX (uX ou node) (qV (uK (es.getD i e0).turn))))) else (qC (jX (uX ou node) (qV (uK (es.getD i e0).turn))),kn,ou.set (es.getD i e0).to_.toNat (qV (jX (uX ou node) (qV (uK (es.getD i e0).turn))))):=by
 unfold xZ nxN nxU
 simp only[if_pos h1,h2,Bool.false_eq_true,if_false]
theorem st_b{i:Nat}{kn:List Bool}{ou:List jB}(h0:((node:Nat):Int)≠(es.getD i e0).fr)(h1:((node:Nat):Int)=(es.getD i e0).to_)(h2:kn.getD (es.getD i e0).fr.toNat false=false) :
  xZ es rec node i kn ou=if qC (jX (uX ou node) (es.getD i e0).turn)=0 then rec (es.getD i e0).fr.toNat kn (ou.set (es.getD i e0).fr.toNat (qV (jX (uX ou node) (es.getD i e0).turn))) else (qC (jX (uX ou node) (es.getD i e0).turn),kn,ou.set (es.getD i e0).fr.toNat (qV (jX (uX ou node) (es.getD i e0).turn))):=by
 unfold xZ nxN nxU
 simp only[if_neg h0,if_pos h1,h2,Bool.false_eq_true,if_false]
end
def uk(kn:List Bool):Nat:=kn.countP fun b=>!b
def FI(n:Nat)(es:List jE)(kn:List Bool)(out:List jB):Prop:=kn.length=n/\AbI n es out/\∀ j,j<n->kn.getD j false=true->uX out j≠zQ
def KLe(kn kn':List Bool):Prop:=∀ j,kn.getD j false=true->kn'.getD j false=true
theorem KLe.refl(kn:List Bool):KLe kn kn:=fun j h=>h
theorem KLe.trans{a b c:List Bool}(h:KLe a b)(g:KLe b c):KLe a c:=fun j hj=>g j (h j hj)
theorem kn_set{kn:List Bool}{i j:Nat}(hi:i<kn.length):(kn.set i true).getD j false=if i=j then true else kn.getD j false:=by
 by_cases e:i=j
 ·subst e;rw[if_pos rfl,List.getD_eq_getElem?_getD,List.getElem?_set_self hi];rfl
 ·rw[if_neg e,List.getD_eq_getElem?_getD,List.getElem?_set_ne e,<- List.getD_eq_getElem?_getD]
theorem KLe_set{kn:List Bool}{i:Nat}(hi:i<kn.length):KLe kn (kn.set i true):=fun j hj=>by
 rw[kn_set hi];split
 ·rfl
 ·exact hj
theorem uk_le:∀ {kn kn':List Bool},kn.length=kn'.length->KLe kn kn'->uk kn'<=uk kn
 |[],[],_,_=>Nat.le_refl _
 |[],_::_,h,_=>by simp at h
 |_::_,[],h,_=>by simp at h
 |a::l,b::m,h,hk=>by
  have ih:=uk_le (kn:=l) (kn':=m) (by simpa using h) (fun j hj=>by have:=hk (j+1) (by simpa using hj);simpa using this)
  have h0:=hk 0
  simp only[List.getD_cons_zero] at h0
  unfold uk at *
  rw[List.countP_cons,List.countP_cons]
  cases a<;>cases b<;>simp_all<;>omega
theorem uk_set:∀ {kn:List Bool} {i:Nat},i<kn.length->kn.getD i false=false->uk (kn.set i true)+1=uk kn
 |[],i,h,_=>by simp at h
 |a::l,0,h,e=>by
  simp only[List.getD_cons_zero] at e
  subst e
  unfold uk;rw[List.set_cons_zero,List.countP_cons,List.countP_cons];simp
 |a::l,i+1,h,e=>by
  simp only[List.getD_cons_succ] at e
  have ih:=uk_set (kn:=l) (i:=i) (by simpa using h) e
  unfold uk at *
  rw[List.set_cons_succ,List.countP_cons,List.countP_cons];omega
section
variable {n:Nat} {es:List jE}
def nbK(n:Nat)(es:List jE)(kn:List Bool)(j:Nat):Prop:=∀ i:Nat,(i:Int)∈jK n es->((es.getD i e0).fr.toNat=j->kn.getD (es.getD i e0).to_.toNat false=true)/\((es.getD i e0).to_.toNat=j->kn.getD (es.getD i e0).fr.toNat false=true)
theorem nbK.mono{kn kn':List Bool}{j:Nat}(h:nbK n es kn j)(hk:KLe kn kn'):nbK n es kn' j:=fun i hi=>⟨fun e=>hk _ ((h i hi).1 e),fun e=>hk _ ((h i hi).2 e)⟩
structure FwPre (n:Nat) (es:List jE) (f node:Nat) (kn:List Bool) (out:List jB):Prop where
 fi:FI n es kn out
 nd:node<n
 un:kn.getD node false=false
 nz:uX out node≠zQ
 fuel:uk kn<=f
structure FwPost (n:Nat) (es:List jE) (node:Nat) (kn:List Bool) (r:FwR):Prop where
 fi:FI n es r.2.1 r.2.2
 le:KLe kn r.2.1
 nd:r.2.1.getD node false=true
 cl:∀ j,r.2.1.getD j false=true->kn.getD j false=false->nbK n es r.2.1 j
theorem FI.known{kn:List Bool}{out:List jB}(h:FI n es kn out){node:Nat}(hn:node<n)(hz:uX out node≠zQ):FI n es (kn.set node true) out :=
 ⟨by rw[List.length_set];exact h.1,h.2.1,fun j hj hk=>by
  rw[kn_set (by rw[h.1];exact hn)] at hk
  split at hk
  ·rename_i e;subst e;exact hz
  ·exact h.2.2 j hj hk⟩
theorem FI.put(heo:xP n es){kn:List Bool}{out:List jB}(h:FI n es kn out){nx:Nat}(hx:nx<n)(hk:kn.getD nx false=false){u:jB}(hu:cU u/\yR u (aV n es nx))(hc:qC u=0):FI n es kn (out.set nx (qV u))/\uX (out.set nx (qV u)) nx≠zQ:=by
 obtain ⟨g1,g2⟩:=ab_yes heo hu.1 hu.2 hc
 have hl:nx<out.length:=by rw[h.2.1.1];exact hx
 refine ⟨⟨h.1,h.2.1.set hx g1 g2,fun j hj hkj=>?_⟩,?_⟩
 ·rw[aE hl];split
  ·rw[g2];exact can_nzq heo nx
  ·exact h.2.2 j hj hkj
 ·rw[aE hl,if_pos rfl,g2];exact can_nzq heo nx
structure FwIn (n:Nat) (es:List jE) (f node:Nat) (kn0 kn:List Bool) (out:List jB):Prop where
 fi:FI n es kn out
 le:KLe kn0 kn
 nd:kn.getD node false=true
 fuel:uk kn<=f
theorem FwIn_0{f node:Nat}{kn0:List Bool}{out0:List jB}(h:FwPre n es (f+1) node kn0 out0):FwIn n es f node (kn0.set node true) (kn0.set node true) out0:=by
 have hl:node<kn0.length:=by rw[h.fi.1];exact h.nd
 refine ⟨h.fi.known h.nd h.nz,KLe.refl _,by rw[kn_set hl,if_pos rfl],?_⟩
 have:=uk_set hl h.un
 have:=h.fuel
 omega
theorem FwIn.next{f node:Nat}{kn0 kn:List Bool}{out:List jB}(hi:FwIn n es f node kn0 kn out){nx:Nat}{r:FwR}(hr:FwPost n es nx kn r):FwIn n es f node kn0 r.2.1 r.2.2 :=
 ⟨hr.fi,hi.le.trans hr.le,hr.le _ hi.nd,Nat.le_trans (uk_le (by rw[hi.fi.1,hr.fi.1]) hr.le) hi.fuel⟩
theorem fwd_u(heo:xP n es){f node i:Nat}{kn0 kn:List Bool}{out:List jB}(hn:node<n)(hi:FwIn n es f node kn0 kn out)(hm:(i:Int)∈jK n es)(hl:i<es.length)(e:((node:Nat):Int)=(es.getD i e0).fr) :
  cU (jX (uX out node) (qV (uK (es.getD i e0).turn)))/\yR (jX (uX out node) (qV (uK (es.getD i e0).turn))) (aV n es (es.getD i e0).to_.toNat):=by
 have he:(es.getD i e0).fr.toNat=node:=by omega
 have h:=ab_fwd heo hi.fi.2.1 hm hl (by rw[he];exact hi.fi.2.2 node hn hi.nd)
 rwa [he] at h
theorem bwd_u(heo:xP n es){f node i:Nat}{kn0 kn:List Bool}{out:List jB}(hn:node<n)(hi:FwIn n es f node kn0 kn out)(hm:(i:Int)∈jK n es)(hl:i<es.length)(e:((node:Nat):Int)=(es.getD i e0).to_) :
  cU (jX (uX out node) (es.getD i e0).turn)/\yR (jX (uX out node) (es.getD i e0).turn) (aV n es (es.getD i e0).fr.toNat):=by
 have he:(es.getD i e0).to_.toNat=node:=by omega
 have h:=ab_bwd heo hi.fi.2.1 hm hl (by rw[he];exact hi.fi.2.2 node hn hi.nd)
 rwa [he] at h
def Fails(n:Nat)(es:List jE)(r:FwR):Prop:=mH n es=3/\vK n es=[]/\r.1=3
def edgeK(es:List jE)(kn:List Bool)(node i:Nat):Prop:=(((node:Nat):Int)=(es.getD i e0).fr->kn.getD (es.getD i e0).to_.toNat false=true)/\(((node:Nat):Int)=(es.getD i e0).to_->kn.getD (es.getD i e0).fr.toNat false=true)
theorem step_ok(heo:xP n es){f node i:Nat}{kn0 kn:List Bool}{out:List jB}{rec:Nat->List Bool->List jB->FwR}(hrec:∀ nx k o,FwPre n es f nx k o->((rec nx k o).1=0->FwPost n es nx k (rec nx k o))/\((rec nx k o).1≠0->Fails n es (rec nx k o)))
  (hn:node<n) (hi:FwIn n es f node kn0 kn out) (hm:(i:Int)∈jK n es) (hl:i<es.length) :
  ((xZ es rec node i kn out).1=0->FwIn n es f node kn0 (xZ es rec node i kn out).2.1 (xZ es rec node i kn out).2.2/\KLe kn (xZ es rec node i kn out).2.1/\edgeK es (xZ es rec node i kn out).2.1 node i/\(∀ j,(xZ es rec node i kn out).2.1.getD j false=true->kn.getD j false=false->nbK n es (xZ es rec node i kn out).2.1 j)) /\
  ((xZ es rec node i kn out).1≠0->Fails n es (xZ es rec node i kn out)):=by
 have hx:=eL heo hl
 have x0:=hx.f0;have x1:=hx.f1;have x2:=hx.t0;have x3:=hx.t1;have x4:=hx.ne
 by_cases e1:((node:Nat):Int)=(es.getD i e0).fr
 ·have e2:((node:Nat):Int)≠(es.getD i e0).to_:=fun e=>x4 (e1.symm.trans e)
  by_cases hk:kn.getD (es.getD i e0).to_.toNat false=true
  ·rw[st_fk e1 hk]
   exact ⟨fun _=>⟨hi,KLe.refl _,⟨fun _=>hk,fun e=>absurd e e2⟩,fun j h1 h2=>by rw[h1] at h2;cases h2⟩,fun h=>absurd rfl h⟩
  ·have hk:kn.getD (es.getD i e0).to_.toNat false=false:=by simpa using hk
   have hu:=fwd_u heo hn hi hm hl e1
   rw[st_f e1 hk]
   by_cases hc:qC (jX (uX out node) (qV (uK (es.getD i e0).turn)))=0
   ·rw[if_pos hc]
    obtain ⟨g1,g2⟩:=hi.fi.put heo (by omega) hk hu hc
    obtain ⟨r1,r2⟩:=hrec _ _ _ ⟨g1,by omega,hk,g2,hi.fuel⟩
    exact ⟨fun h=>⟨hi.next (r1 h),(r1 h).le,⟨fun _=>(r1 h).nd,fun e=>absurd e e2⟩,(r1 h).cl⟩,r2⟩
   ·rw[if_neg hc]
    obtain ⟨g1,g2,g3⟩:=ab_no heo (j:=(es.getD i e0).to_.toNat) (by omega) hu.1 hu.2 hc
    exact ⟨fun h=>absurd h hc,fun _=>⟨g1,g2,g3⟩⟩
 ·by_cases e2:((node:Nat):Int)=(es.getD i e0).to_
  ·by_cases hk:kn.getD (es.getD i e0).fr.toNat false=true
   ·rw[st_bk e1 e2 hk]
    exact ⟨fun _=>⟨hi,KLe.refl _,⟨fun e=>absurd e e1,fun _=>hk⟩,fun j h1 h2=>by rw[h1] at h2;cases h2⟩,fun h=>absurd rfl h⟩
   ·have hk:kn.getD (es.getD i e0).fr.toNat false=false:=by simpa using hk
    have hu:=bwd_u heo hn hi hm hl e2
    rw[st_b e1 e2 hk]
    by_cases hc:qC (jX (uX out node) (es.getD i e0).turn)=0
    ·rw[if_pos hc]
     obtain ⟨g1,g2⟩:=hi.fi.put heo (by omega) hk hu hc
     obtain ⟨r1,r2⟩:=hrec _ _ _ ⟨g1,by omega,hk,g2,hi.fuel⟩
     exact ⟨fun h=>⟨hi.next (r1 h),(r1 h).le,⟨fun e=>absurd e e1,fun _=>(r1 h).nd⟩,(r1 h).cl⟩,r2⟩
    ·rw[if_neg hc]
     obtain ⟨g1,g2,g3⟩:=ab_no heo (j:=(es.getD i e0).fr.toNat) (by omega) hu.1 hu.2 hc
     exact ⟨fun h=>absurd h hc,fun _=>⟨g1,g2,g3⟩⟩
  ·rw[st_none e1 e2]
   exact ⟨fun _=>⟨hi,KLe.refl _,⟨fun e=>absurd e e1,fun e=>absurd e e2⟩,fun j h1 h2=>by rw[h1] at h2;cases h2⟩,fun h=>absurd rfl h⟩
theorem edgeK.mono{kn kn':List Bool}{node i:Nat}(h:edgeK es kn node i)(hk:KLe kn kn'):edgeK es kn' node i:=⟨fun e=>hk _ (h.1 e),fun e=>hk _ (h.2 e)⟩
theorem at_ok(heo:xP n es){f node:Nat}{kn0:List Bool}{out0:List jB}{rec:Nat->List Bool->List jB->FwR}(hrec:∀ nx k o,FwPre n es f nx k o->((rec nx k o).1=0->FwPost n es nx k (rec nx k o))/\((rec nx k o).1≠0->Fails n es (rec nx k o)))
  (hn:node<n) (h0:FwIn n es f node kn0 kn0 out0):∀ k,k<=(jK n es).length ->
  ((nF es (jK n es) rec node kn0 out0 k).1=0->FwIn n es f node kn0 (nF es (jK n es) rec node kn0 out0 k).2.1 (nF es (jK n es) rec node kn0 out0 k).2.2 /\
   (∀ m,m<k->edgeK es (nF es (jK n es) rec node kn0 out0 k).2.1 node ((jK n es).getD m 0).toNat)/\(∀ j,(nF es (jK n es) rec node kn0 out0 k).2.1.getD j false=true->kn0.getD j false=false->nbK n es (nF es (jK n es) rec node kn0 out0 k).2.1 j)) /\
  ((nF es (jK n es) rec node kn0 out0 k).1≠0->Fails n es (nF es (jK n es) rec node kn0 out0 k))
 |0,_=>⟨fun _=>⟨h0,fun m hm=>by omega,fun j h1 h2=>by have h1:kn0.getD j false=true:=h1;rw[h1] at h2;cases h2⟩,fun h=>absurd rfl h⟩
 |k+1,hk=>by
  obtain ⟨ih1,ih2⟩:=at_ok heo hrec hn h0 k (by omega)
  obtain ⟨i,hil,hit,him⟩:=tre_at (n:=n) (es:=es) (k:=k) (by omega)
  have hiN:((jK n es).getD k 0).toNat=i:=by rw[hit];rfl
  have hdef:nF es (jK n es) rec node kn0 out0 (k+1)=if (nF es (jK n es) rec node kn0 out0 k).1=0 then xZ es rec node ((jK n es).getD k 0).toNat (nF es (jK n es) rec node kn0 out0 k).2.1 (nF es (jK n es) rec node kn0 out0 k).2.2 else nF es (jK n es) rec node kn0 out0 k:=rfl
  rw[hdef]
  by_cases hz:(nF es (jK n es) rec node kn0 out0 k).1=0
  ·rw[if_pos hz]
   obtain ⟨a1,a2,a3⟩:=ih1 hz
   obtain ⟨s1,s2⟩:=step_ok heo hrec hn a1 him hil
   rw[hiN]
   refine ⟨fun h=>?_,s2⟩
   obtain ⟨b1,b2,b3,b4⟩:=s1 h
   refine ⟨b1,fun m hm=>?_,fun j h1 h2=>?_⟩
   ·by_cases e:m=k
    ·subst e;rw[hiN];exact b3
    ·exact (a2 m (by omega)).mono b2
   ·by_cases hkj:(nF es (jK n es) rec node kn0 out0 k).2.1.getD j false=true
    ·exact (a3 j hkj h2).mono b2
    ·exact b4 j h1 (by simpa using hkj)
  ·rw[if_neg hz]
   exact ⟨fun h=>absurd h hz,ih2⟩
theorem flw_ok(heo:xP n es):∀ (f node:Nat) (kn:List Bool) (out:List jB),FwPre n es f node kn out ->
  ((gU es (jK n es) f node kn out).1=0->FwPost n es node kn (gU es (jK n es) f node kn out))/\((gU es (jK n es) f node kn out).1≠0->Fails n es (gU es (jK n es) f node kn out))
 |0,node,kn,out,h=>by
  exfalso
  have hl:node<kn.length:=by rw[h.fi.1];exact h.nd
  have:=uk_set hl h.un
  have:=h.fuel
  omega
 |f+1,node,kn,out,h=>by
  have hl:node<kn.length:=by rw[h.fi.1];exact h.nd
  have h0:=FwIn_0 h
  have ha:=at_ok heo (rec:=gU es (jK n es) f) (fun nx k o hp=>flw_ok heo f nx k o hp) h.nd h0 (jK n es).length (Nat.le_refl _)
  show ((nF es (jK n es) (gU es (jK n es) f) node (kn.set node true) out (jK n es).length).1=0->FwPost n es node kn (nF es (jK n es) (gU es (jK n es) f) node (kn.set node true) out (jK n es).length))/\_
  refine ⟨fun hz=>?_,ha.2⟩
  obtain ⟨a1,a2,a3⟩:=ha.1 hz
  refine ⟨a1.fi,(KLe_set hl).trans a1.le,a1.nd,fun j h1 h2=>?_⟩
  by_cases e:node=j
  ·subst e
   intro i hi
   obtain ⟨m,hm,hmi⟩:=List.getElem_of_mem hi
   have h3:=a2 m hm
   rw[List.getD_eq_getElem?_getD,List.getElem?_eq_getElem hm,Option.getD_some,hmi] at h3
   have hx:=eL heo (k:=i) (by obtain ⟨q,hq,e⟩:=cL hi;omega)
   have x0:=hx.f0;have x2:=hx.t0
   exact ⟨fun e=>h3.1 (by show ((node:Nat):Int)=(es.getD i e0).fr;omega),fun e=>h3.2 (by show ((node:Nat):Int)=(es.getD i e0).to_;omega)⟩
  ·exact a3 j h1 (by rw[kn_set hl,if_neg e];exact h2)
structure AlI (n:Nat) (es:List jE) (i:Nat) (kn:List Bool) (out:List jB):Prop where
 fi:FI n es kn out
 up:∀ j,j<i->kn.getD j false=true
 cl:∀ j,kn.getD j false=true->nbK n es kn j
theorem AlI_0:AlI n es 0 (List.replicate n false) (List.replicate n zQ):=by
 have hk:∀ j,(List.replicate n false).getD j false=false:=fun j=>by
  rw[List.getD_eq_getElem?_getD,List.getElem?_replicate];split<;>rfl
 refine ⟨⟨by simp,⟨by simp,fun j hj=>.inl ?_⟩,fun j hj h=>by rw[hk] at h;cases h⟩,fun j hj=>by omega,fun j h=>by rw[hk] at h;cases h⟩
 unfold uX;simp [List.getD_eq_getElem?_getD,hj]
theorem AlI.skip{i:Nat}{kn:List Bool}{out:List jB}(h:AlI n es i kn out)(hk:kn.getD i false=true):AlI n es (i+1) kn out :=
 ⟨h.fi,fun j hj=>by
  by_cases e:j=i
  ·subst e;exact hk
  ·exact h.up j (by omega),h.cl⟩
theorem AlI.root(heo:xP n es){i:Nat}{kn:List Bool}{out:List jB}(h:AlI n es i kn out)(hi:i<n)(hk:kn.getD i false=false):aV n es i=q1:=by
 have rj:=cG heo (Nat.le_refl es.length) hi
 refine tV_root heo (Nat.le_refl es.length) hi ?_
 apply Classical.byContradiction
 intro hne
 have hlt:((kV true n es es.length).getD i 0).toNat<i:=by omega
 have hcl:=cF heo (fun j=>kn.getD j false=true) (Nat.le_refl es.length) (fun q hq=>by
  exact ⟨fun e=>(h.cl _ e q hq).1 rfl,fun e=>(h.cl _ e q hq).2 rfl⟩) (i:=((kV true n es es.length).getD i 0).toNat) (j:=i) (by omega) hi (tPar_root heo (Nat.le_refl es.length) hi)
 have:=hcl.1 (h.up _ hlt)
 rw[this] at hk;cases hk
theorem AlI.pre(heo:xP n es){i:Nat}{kn:List Bool}{out:List jB}(h:AlI n es i kn out)(hi:i<n)(hk:kn.getD i false=false):FwPre n es n i kn (out.set i q1):=by
 have hl:i<out.length:=by rw[h.fi.2.1.1];exact hi
 have hr:=h.root heo hi hk
 refine ⟨⟨h.fi.1,h.fi.2.1.set hi (by rw[hr,q1_can];exact q1_ok.2) (by rw[hr,q1_can]),fun j hj hkj=>?_⟩,hi,hk,by rw[aE hl,if_pos rfl];exact q1_nz,?_⟩
 ·rw[aE hl];split
  ·exact q1_nz
  ·exact h.fi.2.2 j hj hkj
 ·unfold uk
  exact Nat.le_trans List.countP_le_length (by rw[h.fi.1];exact Nat.le_refl _)
theorem AlI.next{i:Nat}{kn:List Bool}{out:List jB}(h:AlI n es i kn out){r:FwR}(hr:FwPost n es i kn r):AlI n es (i+1) r.2.1 r.2.2:=by
 refine ⟨hr.fi,fun j hj=>?_,fun j hj=>?_⟩
 ·by_cases e:j=i
  ·subst e;exact hr.nd
  ·exact hr.le _ (h.up j (by omega))
 ·by_cases hk:kn.getD j false=true
  ·exact (h.cl j hk).mono hr.le
  ·exact hr.cl j hj (by simpa using hk)
theorem AlI.end_(heo:xP n es){i:Nat}{kn:List Bool}{out:List jB}(h:AlI n es i kn out)(hi:i=n):out=vK n es/\mH n es=0:=by
 subst hi
 have hall:∀ j,j<i->uX out j≠zQ:=fun j hj=>h.fi.2.2 j hj (h.up j hj)
 refine ab_all heo h.fi.2.1 (fun j hj _=>hall j hj) fun q hq=>?_
 obtain ⟨q',hq',e⟩:=cL hq
 have hx:=eL heo (k:=q) (by omega)
 have x0:=hx.f0;have x1:=hx.f1;have x2:=hx.t0;have x3:=hx.t1
 exact ⟨fun _=>hall _ (by omega),fun _=>hall _ (by omega)⟩
end
end Go.Fid
