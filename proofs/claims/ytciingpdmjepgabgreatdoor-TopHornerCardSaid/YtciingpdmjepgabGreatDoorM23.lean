/- Part 23 of a proof: rules, plain facts, and functions walked. -/
import Derived.Test.YtciingpdmjepgabGreatDoorM12
import Derived.Test.YtciingpdmjepgabGreatDoorM22
import Derived.Test.YtciingpdmjepgabGreatDoorM21
import Derived.Test.YtciingpdmjepgabGreatDoorM11
set_option linter.all false
namespace Go.Fid
def xE(o:Int):Int:=if o=0\/o=1 then 0 else if o=6\/o=7 then 1 else if o=2\/o=3\/o=4\/o=5 then 2 else -1
theorem nC(o:Int):(xE o=0/\(o=0\/o=1))\/(xE o=1/\(o=6\/o=7))\/(xE o=2/\(o=2\/o=3\/o=4\/o=5))\/(xE o=-1/\¬ (o=0\/o=1)/\¬ (o=6\/o=7)/\¬ (o=2\/o=3\/o=4\/o=5)):=by
 unfold xE
 by_cases h1:o=0\/o=1
 ·exact .inl ⟨if_pos h1,h1⟩
 by_cases h2:o=6\/o=7
 ·exact .inr (.inl ⟨by rw[if_neg h1,if_pos h2],h2⟩)
 by_cases h3:o=2\/o=3\/o=4\/o=5
 ·exact .inr (.inr (.inl ⟨by rw[if_neg h1,if_neg h2,if_pos h3],h3⟩))
 ·exact .inr (.inr (.inr ⟨by rw[if_neg h1,if_neg h2,if_neg h3],h1,h2,h3⟩))
def unsB(x:kP):Bool:=((!x.num.neg&&!x.den.neg)&&(((x.num.gs.length:Nat):Int) == 0))&&(((x.den.gs.length:Nat):Int) == 0)
theorem uns_eq{x:kP}(h:unsB x=true):x=zr:=by
 obtain ⟨⟨n,g⟩,⟨m,d⟩⟩:=x
 unfold unsB at h
 simp only[Bool.and_eq_true,Bool.not_eq_true',beq_iff_eq] at h
 obtain ⟨⟨⟨h1,h2⟩,h3⟩,h4⟩:=h
 have e3:g=[]:=List.eq_nil_of_length_eq_zero (by omega)
 have e4:d=[]:=List.eq_nil_of_length_eq_zero (by omega)
 subst h1;subst h2;subst e3;subst e4
 rfl
def cC(x:kI):Prop:=xE x.op<0\/(xE x.op<2/\x.b≠0)\/(x.op=0/\(x.a≠0\/kL x.n=false))\/(x.op≠0/\unsB x.n=false)
instance (x:kI):Decidable (cC x):=by unfold cC;infer_instance
def nP(k:Int)(x:kI):Prop:=(0<xE x.op/\(x.a<0\/k<=x.a))\/(1<xE x.op/\(x.b<0\/k<=x.b))
instance (k:Int) (x:kI):Decidable (nP k x):=by unfold nP;infer_instance
def aY(z:Int)(x:kI):Prop:=x.op=1/\(x.a<0\/z<=x.a)
instance (z:Int) (x:kI):Decidable (aY z x):=by unfold aY;infer_instance
def eD(ss:List Int)(x:kI):Int:=if xE x.op=0 then 1 else if x.op=6 then ss.getD x.a.toNat 0 else if x.op=7 then 2*ss.getD x.a.toNat 0 else ss.getD x.a.toNat 0+ss.getD x.b.toNat 0
def ndC(z:Int)(ss:List Int)(x:kI):Nat:=if cC x then 1 else if nP ((ss.length:Nat):Int) x then 5 else if aY z x then 2 else if 4096<eD ss x then 3 else 0
def gX(t:List kI):Nat->List Int
 |0=>[]
 |k+1=>gX t k++[eD (gX t k) (t.getD k tz)]
theorem xT(t:List kI):∀ k,(gX t k).length=k
 |0=>rfl
 |k+1=>by rw[gX,List.length_append,xT t k];rfl
def szUp(z:Int)(t:List kI)(k:Nat):Prop:=∀ i,i<k->ndC z (gX t i) (t.getD i tz)=0
theorem szUp_0(z:Int)(t:List kI):szUp z t 0:=fun i h=>by omega
theorem szUp_s{z:Int}{t:List kI}{k:Nat}(h:szUp z t k)(hk:ndC z (gX t k) (t.getD k tz)=0):szUp z t (k+1):=fun i hi=>by
 rcases Nat.lt_or_ge i k with h1 | h1
 ·exact h i h1
 ·obtain rfl:i=k:=by omega
  exact hk
def szE(z:Int)(t:List kI):Nat->Nat->Nat
 |0,_=>0
 |f+1,k=>if ndC z (gX t k) (t.getD k tz)=0 then szE z t f (k+1) else ndC z (gX t k) (t.getD k tz)
def dQ(z:Int)(t:List kI):Nat:=if z<0\/64<z then 2 else if t.length=0 then 1 else if 400<t.length then 3 else szE z t t.length 0
def tmL(z:Int)(t:List kI):List Int:=if dQ z t=0 then gX t t.length else []
theorem szE_0{z:Int}{t:List kI}:∀ {f k:Nat},szE z t f k=0↔∀ i,k<=i->i<k+f->ndC z (gX t i) (t.getD i tz)=0
 |0,k=>by simp only[szE,true_iff];intro i h1 h2;omega
 |f+1,k=>by
  unfold szE
  constructor
  ·intro h i h1 h2
   split at h
   ·rename_i h0
    rcases Nat.lt_or_ge k i with h3 | h3
    ·exact szE_0.1 h i (by omega) (by omega)
    ·obtain rfl:i=k:=by omega
     exact h0
   ·rename_i h0;exact absurd h h0
  ·intro h
   rw[if_pos (h k (Nat.le_refl _) (by omega))]
   exact szE_0.2 fun i h1 h2=>h i (by omega) (by omega)
theorem szE_at{z:Int}{t:List kI}{m:Nat}(hm:ndC z (gX t m) (t.getD m tz)≠0):∀ {f k:Nat},k<=m->m<k+f->(∀ i,k<=i->i<m->ndC z (gX t i) (t.getD i tz)=0)->szE z t f k=ndC z (gX t m) (t.getD m tz)
 |0,k,h1,h2,_=>by omega
 |f+1,k,h1,h2,h=>by
  unfold szE
  rcases Nat.lt_or_ge k m with h3 | h3
  ·rw[if_pos (h k (Nat.le_refl _) h3)]
   exact szE_at hm (by omega) (by omega) fun i a b=>h i (by omega) b
  ·obtain rfl:k=m:=by omega
   rw[if_neg hm]
theorem tm_1{z:Int}{t:List kI}(h:z<0\/64<z):dQ z t=2:=if_pos h
theorem tm_2{z:Int}{t:List kI}(h:¬ (z<0\/64<z))(h1:t.length=0):dQ z t=1:=by unfold dQ;rw[if_neg h,if_pos h1]
theorem tm_3{z:Int}{t:List kI}(h:¬ (z<0\/64<z))(h1:t.length≠0)(h2:400<t.length):dQ z t=3:=by unfold dQ;rw[if_neg h,if_neg h1,if_pos h2]
theorem tm_e{z:Int}{t:List kI}(h:¬ (z<0\/64<z))(h1:t.length≠0)(h2:¬ 400<t.length):dQ z t=szE z t t.length 0:=by unfold dQ;rw[if_neg h,if_neg h1,if_neg h2]
theorem tm_no{z:Int}{t:List kI}{k:Nat}(h:¬ (z<0\/64<z))(h1:k<t.length)(h2:¬ 400<t.length)(hu:szUp z t k)(hc:ndC z (gX t k) (t.getD k tz)≠0):dQ z t=ndC z (gX t k) (t.getD k tz)/\tmL z t=[]:=by
 have e:dQ z t=ndC z (gX t k) (t.getD k tz):=by
  rw[tm_e h (by omega) h2]
  exact szE_at hc (by omega) (by omega) fun i _ hi=>hu i hi
 exact ⟨e,if_neg (by rw[e];exact hc)⟩
theorem tm_yes{z:Int}{t:List kI}(h:¬ (z<0\/64<z))(h1:t.length≠0)(h2:¬ 400<t.length)(hu:szUp z t t.length):dQ z t=0/\tmL z t=gX t t.length:=by
 have e:dQ z t=0:=by
  rw[tm_e h h1 h2]
  exact szE_0.2 fun i _ hi=>hu i (by omega)
 exact ⟨e,if_pos e⟩
theorem tm_n{z:Int}{t:List kI}(h:dQ z t≠0):tmL z t=[]:=if_neg h
theorem tm_0{z:Int}{t:List kI}(h:dQ z t=0):0<=z/\z<=64/\t.length≠0/\t.length<=400/\szUp z t t.length:=by
 by_cases h0:z<0\/64<z
 ·rw[tm_1 h0] at h;cases h
 by_cases h1:t.length=0
 ·rw[tm_2 h0 h1] at h;cases h
 by_cases h2:400<t.length
 ·rw[tm_3 h0 h1 h2] at h;cases h
 rw[tm_e h0 h1 h2] at h
 exact ⟨by omega,by omega,h1,by omega,fun i hi=>szE_0.1 h i (by omega) (by omega)⟩
theorem nd_0{z:Int}{ss:List Int}{x:kI}(h:ndC z ss x=0):¬ cC x/\¬ nP ((ss.length:Nat):Int) x/\¬ aY z x/\eD ss x<=4096:=by
 unfold ndC at h
 split at h
 ·cases h
 ·rename_i h1
  split at h
  ·cases h
  ·rename_i h2
   split at h
   ·cases h
   ·rename_i h3
    split at h
    ·cases h
    ·rename_i h4
     exact ⟨h1,h2,h3,by omega⟩
theorem nd_1{z:Int}{ss:List Int}{x:kI}(h:cC x):ndC z ss x=1:=if_pos h
theorem nd_5{z:Int}{ss:List Int}{x:kI}(h:¬ cC x)(h2:nP ((ss.length:Nat):Int) x):ndC z ss x=5:=by unfold ndC;rw[if_neg h,if_pos h2]
theorem nd_2{z:Int}{ss:List Int}{x:kI}(h:¬ cC x)(h2:¬ nP ((ss.length:Nat):Int) x)(h3:aY z x):ndC z ss x=2:=by unfold ndC;rw[if_neg h,if_neg h2,if_pos h3]
theorem nd_3{z:Int}{ss:List Int}{x:kI}(h:¬ cC x)(h2:¬ nP ((ss.length:Nat):Int) x)(h3:¬ aY z x)(h4:4096<eD ss x):ndC z ss x=3:=by unfold ndC;rw[if_neg h,if_neg h2,if_neg h3,if_pos h4]
theorem nd_y{z:Int}{ss:List Int}{x:kI}(h:¬ cC x)(h2:¬ nP ((ss.length:Nat):Int) x)(h3:¬ aY z x)(h4:¬ 4096<eD ss x):ndC z ss x=0:=by unfold ndC;rw[if_neg h,if_neg h2,if_neg h3,if_neg h4]
theorem sz_rng{z:Int}{t:List kI}:∀ {k:Nat},szUp z t k->∀ j,j<k->1<=(gX t k).getD j 0/\(gX t k).getD j 0<=4096
 |0,_,j,h=>by omega
 |k+1,hu,j,hj=>by
  have ih:=sz_rng (k:=k) (fun i hi=>hu i (by omega))
  have hl:=xT t k
  obtain ⟨h1,h2,h3,h4⟩:=nd_0 (hu k (by omega))
  rw[hl] at h2
  unfold gX
  rcases Nat.lt_or_ge j k with h | h
  ·rw[List.getD_eq_getElem?_getD,List.getElem?_append_left (by omega),<- List.getD_eq_getElem?_getD]
   exact ih j h
  ·obtain rfl:j=k:=by omega
   rw[List.getD_eq_getElem?_getD,List.getElem?_append_right (by omega),hl,Nat.sub_self]
   show 1<=eD (gX t j) (t.getD j tz)/\eD (gX t j) (t.getD j tz)<=4096
   refine ⟨?_,h4⟩
   have hA:∀ a:Int,0<=a->a<j->1<=(gX t j).getD a.toNat 0:=fun a q1 q2=>(ih a.toNat (by omega)).1
   generalize t.getD j tz=x at *
   unfold eD nP cC at *
   rcases nC x.op with ⟨e,_⟩ | ⟨e,f⟩ | ⟨e,f⟩ | ⟨e,_⟩
   ·rw[if_pos e];exact Int.le_refl _
   ·have ha:=hA x.a (by omega) (by omega)
    rw[if_neg (by omega)]
    split
    ·exact ha
    ·split<;>omega
   ·have ha:=hA x.a (by omega) (by omega)
    have hb:=hA x.b (by omega) (by omega)
    rw[if_neg (by omega),if_neg (by omega),if_neg (by omega)]
    omega
   ·omega
def szI(t:List kI)(k:Nat)(o:List Int):Prop:=o.length=t.length/\o.take k=gX t k
theorem szI_0{t:List kI}:szI t 0 (List.replicate t.length 0):=⟨List.length_replicate,rfl⟩
theorem szI.at{t:List kI}{k:Nat}{o:List Int}(h:szI t k o){j:Nat}(hj:j<k)(hk:k<=t.length):o.getD j 0=(gX t k).getD j 0:=by
 rw[<- h.2,List.getD_eq_getElem?_getD,List.getD_eq_getElem?_getD,List.getElem?_take_of_lt hj]
theorem szI.put{t:List kI}{k:Nat}{o:List Int}(h:szI t k o)(hk:k<t.length){v:Int}(hv:v=eD (gX t k) (t.getD k tz)):szI t (k+1) (o.set k v):=by
 refine ⟨by rw[List.length_set];exact h.1,?_⟩
 have hl:=h.1
 rw[List.take_succ_eq_append_getElem (by rw[List.length_set];omega),List.getElem_set_self,List.take_set_of_le (Nat.le_refl k),h.2,gX,hv]
theorem set_getD{o:List Int}{k:Nat}{v:Int}(h:k<o.length):(o.set k v).getD k 0=v:=by
 rw[List.getD_eq_getElem?_getD,List.getElem?_set_self h];rfl
theorem szI_end{t:List kI}{o:List Int}(h:szI t t.length o):o=gX t t.length:=by
 rw[<- h.2,<- h.1,List.take_length]
def badB(x:kI):Bool:=(((decide (xE x.op<0)||(decide (xE x.op<2)&&(x.b != 0)))||((x.op == 0)&&((x.a != 0)||!(kL x.n))))||((x.op != 0)&&!(unsB x.n)))
def ordB(k:Int)(x:kI):Bool:=((decide (0<xE x.op)&&(decide (x.a<0)||decide (k<=x.a)))||(decide (1<xE x.op)&&(decide (x.b<0)||decide (k<=x.b))))
def rngB(z:Int)(x:kI):Bool:=((x.op == 1)&&(decide (x.a<0)||decide (z<=x.a)))
theorem badB_iff{x:kI}:badB x=true↔cC x:=by
 unfold badB cC
 simp only[Bool.or_eq_true,Bool.and_eq_true,decide_eq_true_eq,beq_iff_eq,bne_iff_ne,Bool.not_eq_true',ne_eq,or_assoc]
theorem ordB_iff{k:Int}{x:kI}:ordB k x=true↔nP k x:=by
 unfold ordB nP
 simp only[Bool.or_eq_true,Bool.and_eq_true,decide_eq_true_eq]
theorem rngB_iff{k:Int}{x:kI}:rngB k x=true↔aY k x:=by
 unfold rngB aY
 simp only[Bool.or_eq_true,Bool.and_eq_true,decide_eq_true_eq,beq_iff_eq]
theorem not_of{b:Bool}{p:Prop}(h:b=true↔p)(hb:b=false):¬ p:=fun q=>by rw[h.2 q] at hb;cases hb
structure TmR (z:Int) (t:List kI) (k:Nat):Prop where
 z0:¬ (z<0\/64<z)
 kl:k<t.length
 tl:¬ 400<t.length
 up:szUp z t k
theorem tmr{z:Int}{t:List kI}{k:Nat}(h:(decide (z<0)||decide (64<z))=false)(h1:((k:Nat):Int)<((t.length:Nat):Int))(h2:¬ 400<((t.length:Nat):Int))(hu:szUp z t k):TmR z t k:=by
 rw[Bool.or_eq_false_iff,decide_eq_false_iff_not,decide_eq_false_iff_not] at h
 exact ⟨by omega,by omega,by omega,hu⟩
theorem zb_t{z:Int}{t:List kI}(h:(decide (z<0)||decide (64<z))=true):dQ z t=2/\tmL z t=[]:=by
 rw[Bool.or_eq_true,decide_eq_true_eq,decide_eq_true_eq] at h
 have e:=tm_1 (t:=t) h
 exact ⟨e,tm_n (by rw[e];decide)⟩
theorem zb_f{z:Int}(h:(decide (z<0)||decide (64<z))=false):¬ (z<0\/64<z):=by
 rw[Bool.or_eq_false_iff,decide_eq_false_iff_not,decide_eq_false_iff_not] at h
 omega
theorem tm_l0{z:Int}{t:List kI}(h:(decide (z<0)||decide (64<z))=false)(h1:t.length=0):dQ z t=1/\tmL z t=[]:=by
 have e:=tm_2 (zb_f h) h1
 exact ⟨e,tm_n (by rw[e];decide)⟩
theorem tm_lb{z:Int}{t:List kI}(h:(decide (z<0)||decide (64<z))=false)(h1:400<t.length):dQ z t=3/\tmL z t=[]:=by
 have e:=tm_3 (zb_f h) (by omega) h1
 exact ⟨e,tm_n (by rw[e];decide)⟩
theorem TmR.bad{z:Int}{t:List kI}{k:Nat}(h:TmR z t k)(hb:badB (t.getD k tz)=true):dQ z t=1/\tmL z t=[]:=by
 have e:=nd_1 (z:=z) (ss:=gX t k) (badB_iff.1 hb)
 have:=tm_no h.z0 h.kl h.tl h.up (by rw[e];decide)
 rwa [e] at this
theorem TmR.ord{z:Int}{t:List kI}{k:Nat}(h:TmR z t k)(hb:badB (t.getD k tz)=false)(ho:ordB ((k:Nat):Int) (t.getD k tz)=true):dQ z t=5/\tmL z t=[]:=by
 have e:=nd_5 (z:=z) (ss:=gX t k) (not_of badB_iff hb) (by rw[xT];exact ordB_iff.1 ho)
 have:=tm_no h.z0 h.kl h.tl h.up (by rw[e];decide)
 rwa [e] at this
theorem TmR.rng{z:Int}{t:List kI}{k:Nat}(h:TmR z t k)(hb:badB (t.getD k tz)=false)(ho:ordB ((k:Nat):Int) (t.getD k tz)=false)(hr:rngB z (t.getD k tz)=true):dQ z t=2/\tmL z t=[]:=by
 have e:=nd_2 (z:=z) (ss:=gX t k) (not_of badB_iff hb) (by rw[xT];exact not_of ordB_iff ho) (rngB_iff.1 hr)
 have:=tm_no h.z0 h.kl h.tl h.up (by rw[e];decide)
 rwa [e] at this
structure NdR (z:Int) (t:List kI) (k:Nat):Prop where
 tm:TmR z t k
 bad:¬ cC (t.getD k tz)
 ord:¬ nP ((k:Nat):Int) (t.getD k tz)
 rng:¬ aY z (t.getD k tz)
theorem ndr{z:Int}{t:List kI}{k:Nat}(h:TmR z t k)(hb:badB (t.getD k tz)=false)(ho:ordB ((k:Nat):Int) (t.getD k tz)=false)(hr:rngB z (t.getD k tz)=false):NdR z t k:=⟨h,not_of badB_iff hb,not_of ordB_iff ho,not_of rngB_iff hr⟩
theorem NdR.big{z:Int}{t:List kI}{k:Nat}(h:NdR z t k){v:Int}(hv:v=eD (gX t k) (t.getD k tz)){o:List Int}(ho:k<o.length)(hb:4096<(o.set k v).getD k 0):dQ z t=3/\tmL z t=[]:=by
 rw[set_getD ho,hv] at hb
 have e:=nd_3 (z:=z) (ss:=gX t k) h.bad (by rw[xT];exact h.ord) h.rng hb
 have:=tm_no h.tm.z0 h.tm.kl h.tm.tl h.tm.up (by rw[e];decide)
 rwa [e] at this
theorem NdR.next{z:Int}{t:List kI}{k:Nat}(h:NdR z t k){v:Int}(hv:v=eD (gX t k) (t.getD k tz)){o:List Int}(ho:szI t k o)(hb:¬ 4096<(o.set k v).getD k 0):k+1<=t.length/\szI t (k+1) (o.set k v)/\szUp z t (k+1):=by
 have hl:=ho.1
 have hk:=h.tm.kl
 rw[set_getD (by omega),hv] at hb
 exact ⟨hk,ho.put hk hv,szUp_s h.tm.up (nd_y h.bad (by rw[xT];exact h.ord) h.rng hb)⟩
theorem NdR.kd{z:Int}{t:List kI}{k:Nat}(h:NdR z t k):0<=xE (t.getD k tz).op:=by
 have:=h.bad;unfold cC at this;omega
theorem NdR.a{z:Int}{t:List kI}{k:Nat}(h:NdR z t k){o:List Int}(ho:szI t k o)(h0:xE (t.getD k tz).op≠0) :
  0<=(t.getD k tz).a/\(t.getD k tz).a.toNat<k/\o.getD (t.getD k tz).a.toNat 0=(gX t k).getD (t.getD k tz).a.toNat 0/\1<=o.getD (t.getD k tz).a.toNat 0/\o.getD (t.getD k tz).a.toNat 0<=4096:=by
 have h1:=h.kd
 have h2:=h.ord
 unfold nP at h2
 have ha:(t.getD k tz).a.toNat<k:=by omega
 have e:=ho.at ha (by have:=h.tm.kl;omega)
 have r:=sz_rng h.tm.up _ ha
 rw[<- e] at r
 exact ⟨by omega,ha,e,r⟩
theorem NdR.b{z:Int}{t:List kI}{k:Nat}(h:NdR z t k){o:List Int}(ho:szI t k o)(h0:xE (t.getD k tz).op≠0)(h6:(t.getD k tz).op≠6)(h7:(t.getD k tz).op≠7) :
  0<=(t.getD k tz).b/\(t.getD k tz).b.toNat<k/\o.getD (t.getD k tz).b.toNat 0=(gX t k).getD (t.getD k tz).b.toNat 0/\1<=o.getD (t.getD k tz).b.toNat 0/\o.getD (t.getD k tz).b.toNat 0<=4096:=by
 have h1:=h.kd
 have h2:=h.ord
 have h3:xE (t.getD k tz).op=2:=by rcases nC (t.getD k tz).op with ⟨a,b⟩ | ⟨a,b⟩ | ⟨a,b⟩ | ⟨a,b⟩<;>omega
 unfold nP at h2
 have ha:(t.getD k tz).b.toNat<k:=by omega
 have e:=ho.at ha (by have:=h.tm.kl;omega)
 have r:=sz_rng h.tm.up _ ha
 rw[<- e] at r
 exact ⟨by omega,ha,e,r⟩
theorem szN_c{ss:List Int}{x:kI}(h:xE x.op=0):(1:Int)=eD ss x:=(if_pos h).symm
theorem szN_n{ss:List Int}{x:kI}{v:Int}(h:xE x.op≠0)(h6:x.op=6)(hv:v=ss.getD x.a.toNat 0):v=eD ss x:=by
 unfold eD;rw[if_neg h,if_pos h6,hv]
theorem szN_q{ss:List Int}{x:kI}{v:Int}(h:xE x.op≠0)(h7:x.op=7)(hv:v=ss.getD x.a.toNat 0):2*v=eD ss x:=by
 unfold eD;rw[if_neg h,if_neg (by omega),if_pos h7,hv]
theorem szN_b{ss:List Int}{x:kI}{v w:Int}(h:xE x.op≠0)(h6:x.op≠6)(h7:x.op≠7)(hv:v=ss.getD x.a.toNat 0)(hw:w=ss.getD x.b.toNat 0):v+w=eD ss x:=by
 unfold eD;rw[if_neg h,if_neg h6,if_neg h7,hv,hw]
theorem tm_end{z:Int}{t:List kI}{k:Nat}{o:List Int}(h:(decide (z<0)||decide (64<z))=false)(h0:((t.length:Nat):Int)≠0)(h4:¬ 400<((t.length:Nat):Int))(hk:k<=t.length)(h5:¬ ((k:Nat):Int)<((t.length:Nat):Int))(ho:szI t k o)(hu:szUp z t k):dQ z t=0/\tmL z t=o:=by
 obtain rfl:k=t.length:=by omega
 obtain ⟨e1,e2⟩:=tm_yes (zb_f h) (by omega) (by omega) hu
 exact ⟨e1,by rw[e2,szI_end ho]⟩
inductive aR (n:Nat) (L:List JV):kI->Prop
 |c {p:Rat} (hp:QL p 1048576):aR n L ⟨0,0,0,jP p⟩
 |v {a:Nat} (ha:a<n):aR n L ⟨1,(a:Int),0,zr⟩
 |add {a b:Nat} (ha:a<L.length) (hb:b<L.length):aR n L ⟨2,(a:Int),(b:Int),zr⟩
 |sub {a b:Nat} (ha:a<L.length) (hb:b<L.length):aR n L ⟨3,(a:Int),(b:Int),zr⟩
 |mul {a b:Nat} (ha:a<L.length) (hb:b<L.length):aR n L ⟨4,(a:Int),(b:Int),zr⟩
 |div {a b:Nat} (ha:a<L.length) (hb:b<L.length) (hz:mL (L.getD b jz).v.1 (L.getD b jz).v.2=false):aR n L ⟨5,(a:Int),(b:Int),zr⟩
 |neg {a:Nat} (ha:a<L.length):aR n L ⟨6,(a:Int),0,zr⟩
 |sq {a:Nat} (ha:a<L.length):aR n L ⟨7,(a:Int),0,zr⟩
theorem nat_of{a:Int}(h:0<=a):∃ m:Nat,a=(m:Int):=⟨a.toNat,by omega⟩
theorem nd_ok{bx:List R2}{t:List kI}{k:Nat}{ss:List Int}(h:ndC ((bx.length:Nat):Int) ss (t.getD k tz)=0)(hs:ss.length=k)(hq:gD (t.getD k tz).n (xZ (t.getD k tz).n) 1048576)
  (hz:(t.getD k tz).op=5->mL (jA (jU bx t k) (t.getD k tz).b).v.1 (jA (jU bx t k) (t.getD k tz).b).v.2=false):aR bx.length (jU bx t k) (t.getD k tz):=by
 obtain ⟨h1,h2,h3,_⟩:=nd_0 h
 have hl:=aS bx t k
 rw[hs] at h2
 generalize t.getD k tz=x at *
 generalize jU bx t k=L at *
 obtain ⟨op,a,b,n⟩:=x
 unfold cC at h1
 unfold nP at h2
 unfold aY at h3
 dsimp only at *
 have hu:op≠0->n=zr:=fun h=>uns_eq (by
  cases hh:unsB n with
  |true=>rfl
  |false=>exact absurd (Or.inr (Or.inr (Or.inr ⟨h,hh⟩))) h1)
 rcases nC op with ⟨e,f⟩ | ⟨e,f⟩ | ⟨e,f⟩ | ⟨e,f⟩
 ·have hb:b=0:=by omega
  subst hb
  rcases f with f | f
  ·subst f
   have ha:a=0:=by omega
   subst ha
   have hv:kL n=true:=by
    cases hh:kL n with
    |true=>rfl
    |false=>exact absurd (Or.inr (Or.inr (Or.inl ⟨rfl,Or.inr hh⟩))) h1
   rw[<- ofQ_toQ hv] at hq ⊢
   rw[mV] at hq
   exact .c (hq.ql)
  ·subst f
   obtain ⟨m,hm⟩:=nat_of (a:=a) (by omega)
   subst hm
   rw[hu (by decide)]
   exact .v (by omega)
 ·have hb:b=0:=by omega
  subst hb
  obtain ⟨m,hm⟩:=nat_of (a:=a) (by omega)
  subst hm
  rw[hu (by omega)]
  rcases f with f | f<;>subst f
  ·exact .neg (by omega)
  ·exact .sq (by omega)
 ·obtain ⟨m,hm⟩:=nat_of (a:=a) (by omega)
  subst hm
  obtain ⟨l,hl'⟩:=nat_of (a:=b) (by omega)
  subst hl'
  rw[hu (by omega)]
  rcases f with f | f | f | f<;>subst f
  ·exact .add (by omega) (by omega)
  ·exact .sub (by omega) (by omega)
  ·exact .mul (by omega) (by omega)
  ·refine .div (by omega) (by omega) ?_
   have:=hz rfl
   unfold jA at this
   rwa [Int.toNat_natCast] at this
 ·omega
structure JRun (bx:List R2) (t:List kI):Prop where
 c0:dQ ((bx.length:Nat):Int) t=0
 ok:∀ k,k<t.length->JOk 1048576 bx.length (nJ bx (jU bx t k) (t.getD k tz))
 dz:∀ k,k<t.length->(t.getD k tz).op=5->mL (jA (jU bx t k) (t.getD k tz).b).v.1 (jA (jU bx t k) (t.getD k tz).b).v.2=false
theorem JRun.nd{bx:List R2}{t:List kI}(h:JRun bx t)(hq:∀ x∈t,gD x.n (xZ x.n) 1048576){k:Nat}(hk:k<t.length):aR bx.length (jU bx t k) (t.getD k tz):=by
 have h0:=tm_0 h.c0
 refine nd_ok (h0.2.2.2.2 k hk) (xT t k) ?_ (h.dz k hk)
 rw[List.getD_eq_getElem?_getD,List.getElem?_eq_getElem hk];exact hq _ (List.getElem_mem _)
def vV(xs L:List Rat)(x:kI):Rat :=
 if x.op=1 then xs.getD x.a.toNat 0
 else if x.op=2 then L.getD x.a.toNat 0+L.getD x.b.toNat 0
 else if x.op=3 then L.getD x.a.toNat 0-L.getD x.b.toNat 0
 else if x.op=4 then L.getD x.a.toNat 0*L.getD x.b.toNat 0
 else if x.op=6 then -(L.getD x.a.toNat 0)
 else if x.op=7 then L.getD x.a.toNat 0*L.getD x.a.toNat 0
 else if x.op=5 then L.getD x.a.toNat 0 / L.getD x.b.toNat 0
 else xZ x.n
def vU(xs:List Rat)(t:List kI):Nat->List Rat
 |0=>[]
 |k+1=>vU xs t k++[vV xs (vU xs t k) (t.getD k tz)]
theorem vU_len(xs:List Rat)(t:List kI):∀ k,(vU xs t k).length=k
 |0=>rfl
 |k+1=>by rw[vU,List.length_append,vU_len xs t k];rfl
structure VUp (xs:List Rat) (t:List kI) (k:Nat):Prop where
 ok:∀ i,i<k->QL (vV xs (vU xs t i) (t.getD i tz)) 1048576
 dz:∀ i,i<k->(t.getD i tz).op=5->(vU xs t i).getD (t.getD i tz).b.toNat 0≠0
structure VRun (xs:List Rat) (t:List kI):Prop where
 c0:dQ ((xs.length:Nat):Int) t=0
 up:VUp xs t t.length
structure VFail (xs:List Rat) (t:List kI) (k:Nat):Prop where
 c0:dQ ((xs.length:Nat):Int) t=0
 hk:k<t.length
 up:VUp xs t k
 op:(t.getD k tz).op=5
 z:(vU xs t k).getD (t.getD k tz).b.toNat 0=0
theorem VUp.le{xs:List Rat}{t:List kI}{k j:Nat}(h:VUp xs t k)(hj:j<=k):VUp xs t j:=⟨fun i hi=>h.ok i (by omega),fun i hi=>h.dz i (by omega)⟩
theorem VUp.all{xs:List Rat}{t:List kI}:∀ {k},VUp xs t k->∀ q∈vU xs t k,QL q 1048576
 |0,_,q,hq=>by simp [vU] at hq
 |k+1,h,q,hq=>by
  rw[vU,List.mem_append] at hq
  rcases hq with hq | hq
  ·exact (h.le (Nat.le_succ k)).all q hq
  ·rw[List.mem_singleton] at hq;subst hq
   exact h.ok k (by omega)
def lastV(xs:List Rat)(t:List kI):Rat:=(vU xs t t.length).getD (t.length-1) 0
theorem qlg{l:List Rat}{n:Nat}(h:∀ q∈l,QL q n)(h1:1<=n)(j:Nat):QL (l.getD j 0) n:=by
 rcases Nat.lt_or_ge j l.length with hj | hj
 ·rw[List.getD_eq_getElem?_getD,List.getElem?_eq_getElem hj];exact h _ (List.getElem_mem _)
 ·rw[List.getD_eq_getElem?_getD,List.getElem?_eq_none (by omega)];exact kS mW h1
def szs(t:List kI):List Int:=gX t t.length
def evs(xs:List Rat)(t:List kI):List Rat:=vU xs t t.length
theorem bA(t:List kI)(x:kI):∀ k,k<=t.length->gX (t++[x]) k=gX t k
 |0,_=>rfl
 |k+1,h=>by
  rw[gX,gX,bA t x k (by omega)]
  rw[show (t++[x]).getD k tz=t.getD k tz by rw[List.getD_eq_getElem?_getD,List.getElem?_append_left (by omega),<- List.getD_eq_getElem?_getD]]
theorem vU_app(xs:List Rat)(t:List kI)(x:kI):∀ k,k<=t.length->vU xs (t++[x]) k=vU xs t k
 |0,_=>rfl
 |k+1,h=>by
  rw[vU,vU,vU_app xs t x k (by omega)]
  rw[show (t++[x]).getD k tz=t.getD k tz by rw[List.getD_eq_getElem?_getD,List.getElem?_append_left (by omega),<- List.getD_eq_getElem?_getD]]
theorem eK(t:List kI)(x:kI):(t++[x]).getD t.length tz=x:=by
 rw[List.getD_eq_getElem?_getD,List.getElem?_append_right (Nat.le_refl _),Nat.sub_self];rfl
theorem snoc_old(t:List kI)(x:kI){k:Nat}(h:k<t.length):(t++[x]).getD k tz=t.getD k tz:=by
 rw[List.getD_eq_getElem?_getD,List.getElem?_append_left h,<- List.getD_eq_getElem?_getD]
theorem szs_snoc(t:List kI)(x:kI):szs (t++[x])=szs t++[eD (szs t) x]:=by
 unfold szs
 rw[List.length_append,List.length_singleton,gX,bA t x _ (Nat.le_refl _),eK]
theorem mE(xs:List Rat)(t:List kI)(x:kI):evs xs (t++[x])=evs xs t++[vV xs (evs xs t) x]:=by
 unfold evs
 rw[List.length_append,List.length_singleton,vU,vU_app xs t x _ (Nat.le_refl _),eK]
theorem szs_len(t:List kI):(szs t).length=t.length:=xT _ _
theorem evs_len(xs:List Rat)(t:List kI):(evs xs t).length=t.length:=vU_len _ _ _
structure GT (xs:List Rat) (z:Int) (t:List kI):Prop where
 nd:szUp z t t.length
 up:VUp xs t t.length
theorem GT.nil(xs:List Rat)(z:Int):GT xs z []:=⟨fun i h=>absurd h (Nat.not_lt_zero i),⟨fun i h=>absurd h (Nat.not_lt_zero i),fun i h=>absurd h (Nat.not_lt_zero i)⟩⟩
theorem nd_snoc{z:Int}{t:List kI}{x:kI}(h:szUp z t t.length)(hn:ndC z (szs t) x=0):szUp z (t++[x]) (t++[x]).length:=fun i hi=>by
 rw[List.length_append,List.length_singleton] at hi
 rw[bA t x i (by omega)]
 rcases Nat.lt_or_ge i t.length with h1 | h1
 ·rw[snoc_old t x h1];exact h i h1
 ·obtain rfl:i=t.length:=by omega
  rw[eK];exact hn
theorem up_snoc{xs:List Rat}{t:List kI}{x:kI}(h:VUp xs t t.length):VUp xs (t++[x]) t.length:=⟨fun i hi=>by
  rw[vU_app xs t x i (by omega),snoc_old t x hi];exact h.ok i hi,fun i hi=>by
  rw[vU_app xs t x i (by omega),snoc_old t x hi];exact h.dz i hi⟩
theorem GT.snoc{xs:List Rat}{z:Int}{t:List kI}{x:kI}(h:GT xs z t)(hn:ndC z (szs t) x=0)(hq:QL (vV xs (evs xs t) x) 1048576)(hz:x.op=5->(evs xs t).getD x.b.toNat 0≠0):GT xs z (t++[x]) :=
 ⟨nd_snoc h.nd hn,⟨fun i hi=>by
  rw[List.length_append,List.length_singleton] at hi
  rcases Nat.lt_or_ge i t.length with h1 | h1
  ·exact (up_snoc h.up).ok i h1
  ·obtain rfl:i=t.length:=by omega
   rw[eK,vU_app xs t x _ (Nat.le_refl _)];exact hq,fun i hi=>by
  rw[List.length_append,List.length_singleton] at hi
  rcases Nat.lt_or_ge i t.length with h1 | h1
  ·exact (up_snoc h.up).dz i h1
  ·obtain rfl:i=t.length:=by omega
   rw[eK,vU_app xs t x _ (Nat.le_refl _)];exact hz⟩⟩
structure NdV (xs:List Rat) (t:List kI) (i:Int) (v:Rat) (s:Int) (n:Nat):Prop where
 lo:0<=i
 hi:i<t.length
 vl:(evs xs t).getD i.toNat 0=v
 s1:1<=(szs t).getD i.toNat 0
 sb:(szs t).getD i.toNat 0<=s
 qb:QL v n
theorem NdV.snoc{xs:List Rat}{t:List kI}{i:Int}{v:Rat}{s:Int}{n:Nat}(h:NdV xs t i v s n)(x:kI):NdV xs (t++[x]) i v s n:=by
 have h1:=h.lo;have h2:=h.hi
 refine ⟨h1,by rw[List.length_append];omega,?_,?_,?_,h.qb⟩
 ·rw[mE,List.getD_eq_getElem?_getD,List.getElem?_append_left (by rw[evs_len];omega),<- List.getD_eq_getElem?_getD];exact h.vl
 ·rw[szs_snoc,List.getD_eq_getElem?_getD,List.getElem?_append_left (by rw[szs_len];omega),<- List.getD_eq_getElem?_getD];exact h.s1
 ·rw[szs_snoc,List.getD_eq_getElem?_getD,List.getElem?_append_left (by rw[szs_len];omega),<- List.getD_eq_getElem?_getD];exact h.sb
theorem NdV.up{xs:List Rat}{t:List kI}{i:Int}{v:Rat}{s s':Int}{n n':Nat}(h:NdV xs t i v s n)(hs:s<=s')(hn:n<=n'):NdV xs t i v s' n':=⟨h.lo,h.hi,h.vl,h.s1,Int.le_trans h.sb hs,kS h.qb hn⟩
abbrev tn1 (o a b:Int):kI:=⟨o,a,b,zr⟩
def opT(o:Int)(L:List kI)(a b:Nat->Int):Nat->List kI
 |0=>L
 |i+1=>opT o L a b i++[tn1 o (a i) (b i)]
def opI(m n:Nat):List Int:=(List.range n).map fun i=>((m+i:Nat):Int)
def smI(m:Nat)(f:Int)(i:Nat):Int:=if i=0 then f else ((m+i-1:Nat):Int)
def smT(L:List kI)(f:Int)(r:List Int)(n:Nat):List kI:=opT 2 L (smI L.length f) (fun i=>r.getD i 0) n
def sqT(L:List kI)(l:List Int):List kI:=opT 7 L (fun i=>l.getD i 0) (fun _=>0) l.length
def pdT(L:List kI)(a b:List Int):List kI:=opT 4 L (fun i=>a.getD i 0) (fun i=>b.getD i 0) a.length
def ssT(L:List kI)(l:List Int):List kI:=smT (sqT L l) ((opI L.length l.length).getD 0 0) ((opI L.length l.length).drop 1) (l.length-1)
def spT(L:List kI)(a b:List Int):List kI:=smT (pdT L a b) ((opI L.length a.length).getD 0 0) ((opI L.length a.length).drop 1) (a.length-1)
theorem NdV.op{xs:List Rat}{t:List kI}{j:Int}{v:Rat}{s:Int}{n:Nat}(h:NdV xs t j v s n)(o:Int)(a b:Nat->Int):∀ i,NdV xs (opT o t a b i) j v s n
 |0=>h
 |i+1=>(h.op o a b i).snoc _
theorem NdV.ss{xs:List Rat}{t:List kI}{j:Int}{v:Rat}{s:Int}{n:Nat}(h:NdV xs t j v s n)(l:List Int):NdV xs (ssT t l) j v s n:=(h.op _ _ _ _).op _ _ _ _
theorem NdV.sp{xs:List Rat}{t:List kI}{j:Int}{v:Rat}{s:Int}{n:Nat}(h:NdV xs t j v s n)(a b:List Int):NdV xs (spT t a b) j v s n:=(h.op _ _ _ _).op _ _ _ _
theorem GT.c0{xs:List Rat}{z:Int}{t:List kI}(h:GT xs z t)(hz:0<=z/\z<=64)(h1:t.length≠0)(h4:t.length<=400):dQ z t=0:=(tm_yes (by omega) h1 (by omega) h.nd).1
theorem GT.run{xs:List Rat}{t:List kI}(h:GT xs ((xs.length:Nat):Int) t)(hz:xs.length<=64)(h1:t.length≠0)(h4:t.length<=400):VRun xs t:=⟨h.c0 (by omega) h1 h4,h.up⟩
def okL(z:Int)(n:Nat)(a:List Int):Prop:=a.length=n/\∀ j,j<n->0<=a.getD j 0/\a.getD j 0<z
def crK(k:Int):Bool:=decide (k<0)||decide (64<=k)
theorem crK_of{a:List Int}(h:a.any crK=false){j:Nat}(hj:j<a.length):0<=a.getD j 0/\a.getD j 0<64:=by
 have:=List.any_eq_false.1 h (a.getD j 0) (by rw[List.getD_eq_getElem?_getD,List.getElem?_eq_getElem hj];exact List.getElem_mem _)
 unfold crK at this
 rw[Bool.not_eq_true,Bool.or_eq_false_iff,decide_eq_false_iff_not,decide_eq_false_iff_not] at this
 omega
structure CrOk (ls:List (List Int)) (n:Nat):Prop where
 n1:1<=n
 n3:n<=3
 all:∀ a∈ls,a.length=n/\a.any crK=false
theorem CrOk.le{ls:List (List Int)}{n:Nat}(h:CrOk ls n){a:List Int}(ha:a∈ls){z:Int}(hb:∀ k∈a,¬ (8<k/\k<64))(hz:z=9):okL z n a:=by
 obtain ⟨h1,h2⟩:=h.all a ha
 refine ⟨h1,fun j hj=>?_⟩
 have:=crK_of h2 (j:=j) (by omega)
 have:=hb (a.getD j 0) (by rw[List.getD_eq_getElem?_getD,List.getElem?_eq_getElem (by omega)];exact List.getElem_mem _)
 omega
def dgs:Nat->Nat->List UInt8
 |0,_=>[]
 |f+1,n=>if n<10 then [UInt8.ofNat (48+n)] else dgs f (n / 10)++[UInt8.ofNat (48+n % 10)]
def itN(n:Nat):List UInt8:=dgs 20 n
def padN(n:Nat):List UInt8:=List.replicate (9-(itN n).length) 48++itN n
def txG:List Nat->List UInt8
 |[]=>[]
 |d::l=>itN d++(l.map padN).flatten
def txN(n:Nat):List UInt8:=if (ofNat n).length=0 then [48] else txG (ofNat n).reverse
def txZ(z:Int):List UInt8:=if z<0 then 45::txN z.natAbs else txN z.natAbs
def txQ(q:Rat):ByteArray:=⟨(if q.den=1 then txZ q.num else txZ q.num++47::txZ q.den).toArray⟩
structure nD where
 tm:List kI
 kn:List ((Int × Int × Int) × Int)
 os:List (ByteArray × Int)
 us:List Int
 ov:Bool
def rb0:nD:=⟨[],[],[],[],false⟩
def bAdd(B:nD)(n:kI)(s:Int):nD × Int:=if 4096<s\/400<=B.tm.length then ({ B with ov:=true },0) else ({ B with tm:=B.tm++[n],us:=B.us++[s] },(B.tm.length:Int))
def bNum(B:nD)(q:Rat):nD × Int:=match getK B.os (txQ q) with
 |some i=>(B,i)
 |none=>let r:=bAdd B ⟨0,0,0,jP q⟩ 1;({ r.1 with os:=r.1.os++[(txQ q,r.2)] },r.2)
def bIs(B:nD)(i:Int)(n:Int):Bool:=(decide (i<(B.tm.length:Int))&&((B.tm.getD i.toNat tz).op == 0))&&(gW (xZ (B.tm.getD i.toNat tz).n) (n:Rat) == 0)
def bSz(B:nD)(o i k:Int):Int:=if o=6 then B.us.getD i.toNat 0 else if o=7 then 2*B.us.getD i.toNat 0 else if xE o=2 then B.us.getD i.toNat 0+B.us.getD k.toNat 0 else 1
def bNode(B:nD)(o i k:Int):nD × Int:=match getK B.kn (o,i,k) with
 |some v=>(B,v)
 |none=>if B.ov=true then (B,0) else let r:=bAdd B ⟨o,i,k,zr⟩ (bSz B o i k);({ r.1 with kn:=r.1.kn++[((o,i,k),r.2)] },r.2)
def bSum(B:nD)(i k:Int):nD × Int:=if bIs B i 0=true then (B,k) else if bIs B k 0=true then (B,i) else bNode B 2 i k
def bDif(B:nD)(i k:Int):nD × Int:=if bIs B k 0=true then (B,i) else if bIs B i 0=true then bNode B 6 k 0 else bNode B 3 i k
def bPrd(B:nD)(i k:Int):nD × Int:=if (bIs B i 0||bIs B k 1)=true then (B,i) else if (bIs B k 0||bIs B i 1)=true then (B,k) else bNode B 4 i k
def gI(L:List Int)(z:Int):Int:=L.getD z.toNat 0
def dNd(i z o:Int)(B:nD)(V S:List Int)(x:kI):nD × Int × Int :=
 if x.op=0 then let r:=bNum B (xZ x.n);(r.1,r.2,z)
 else if x.op=1 then let r:=bNode B 1 x.a 0;(r.1,r.2,if x.a=i then o else z)
 else if x.op=6 then let r:=bNode B 6 (gI V x.a) 0;let d:=bDif r.1 z (gI S x.a);(d.1,r.2,d.2)
 else if x.op=7 then
  let r:=bNode B 7 (gI V x.a) 0;let p:=bPrd r.1 (gI V x.a) (gI S x.a)
  if p.2=z then (p.1,r.2,z) else let w:=bNum p.1 ((2:Int):Rat);let u:=bPrd w.1 w.2 p.2;(u.1,r.2,u.2)
 else if x.op=2 then let r:=bNode B 2 (gI V x.a) (gI V x.b);let d:=bSum r.1 (gI S x.a) (gI S x.b);(d.1,r.2,d.2)
 else if x.op=3 then let r:=bNode B 3 (gI V x.a) (gI V x.b);let d:=bDif r.1 (gI S x.a) (gI S x.b);(d.1,r.2,d.2)
 else if x.op=4 then
  let r:=bNode B 4 (gI V x.a) (gI V x.b);let p:=bPrd r.1 (gI V x.a) (gI S x.b);let q:=bPrd p.1 (gI V x.b) (gI S x.a);let d:=bSum q.1 p.2 q.2
  (d.1,r.2,d.2)
 else
  let r:=bNode B 5 (gI V x.a) (gI V x.b);let p:=bPrd r.1 r.2 (gI S x.b);let d:=bDif p.1 (gI S x.a) p.2
  if bIs d.1 d.2 0=true then (d.1,r.2,z) else let q:=bNode d.1 5 d.2 (gI V x.b);(q.1,r.2,q.2)
def dZr:nD × Int:=bNum rb0 ((0:Int):Rat)
def dOn:nD × Int:=bNum dZr.1 ((1:Int):Rat)
def dU(i:Int)(t:List kI):Nat->nD × List Int × List Int
 |0=>(dOn.1,[],[])
 |k+1=>let r:=dU i t k;let d:=dNd i dZr.2 dOn.2 r.1 r.2.1 r.2.2 (t.getD k tz);(d.1,r.2.1++[d.2.1],r.2.2++[d.2.2])
def rnN(nm:List Int)(x:kI):kI:=if 0<xE x.op then (if 1<xE x.op then ⟨x.op,nm.getD x.a.toNat 0,nm.getD x.b.toNat 0,x.n⟩ else ⟨x.op,nm.getD x.a.toNat 0,x.b,x.n⟩) else x
def OrdAt(x:kI)(j:Nat):Prop:=(0<xE x.op->0<=x.a/\x.a<(j:Int))/\(1<xE x.op->0<=x.b/\x.b<(j:Int))
structure RBI (B:nD):Prop where
 hl:B.tm.length<=400
 hu:B.us.length=B.tm.length
 hs:∀ j,j<B.us.length->1<=B.us.getD j 0/\B.us.getD j 0<=4096
 hq:∀ x∈B.tm,gD x.n (xZ x.n) 1048576
 ho:∀ j,j<B.tm.length->OrdAt (B.tm.getD j tz) j
 hk:∀ e∈B.kn,0<=e.2/\e.2<(B.tm.length:Int)
 hos:∀ e∈B.os,0<=e.2/\e.2<(B.tm.length:Int)
theorem RBI.q{B:nD}(h:RBI B){j:Nat}(hj:j<B.tm.length):gD (B.tm.getD j tz).n (xZ (B.tm.getD j tz).n) 1048576:=by
 rw[List.getD_eq_getElem?_getD,List.getElem?_eq_getElem hj];exact h.hq _ (List.getElem_mem _)
def IxB(B:nD)(i:Int):Prop:=0<=i/\i<(B.tm.length:Int)
def Ok3(B:nD)(r:nD × Int):Prop:=RBI r.1/\IxB r.1 r.2/\B.tm.length<=r.1.tm.length
theorem IxB.up{B B':nD}{i:Int}(h:IxB B i)(hl:B.tm.length<=B'.tm.length):IxB B' i:=⟨h.1,by have:=h.2;omega⟩
theorem Ok3.ix{B:nD}{r:nD × Int}(h:Ok3 B r){i:Int}(hi:IxB B i):IxB r.1 i:=hi.up h.2.2
def NdAr(B:nD)(o i k:Int):Prop:=(o=1/\k=0/\0<B.tm.length)\/(2<=o/\o<=7/\IxB B i/\IxB B k)
theorem NdAr.sz{B:nD}(hB:RBI B){o i k:Int}(h:NdAr B o i k):1<=bSz B o i k/\bSz B o i k<=8192:=by
 have hu:=hB.hu
 unfold bSz
 rcases h with ⟨rfl,rfl,_⟩ | ⟨h1,h2,hi,hk⟩
 ·simp [xE]
 ·have a:=hB.hs i.toNat (by have:=hi.1;have:=hi.2;omega)
  have b:=hB.hs k.toNat (by have:=hk.1;have:=hk.2;omega)
  split
  ·omega
  ·split
   ·omega
   ·split<;>omega
theorem NdAr.ord{B:nD}{o i k:Int}(h:NdAr B o i k):OrdAt ⟨o,i,k,zr⟩ B.tm.length:=by
 rcases h with ⟨rfl,rfl,_⟩ | ⟨h1,h2,hi,hk⟩
 ·exact ⟨fun h=>absurd h (show ¬ 0<xE 1 by decide),fun h=>absurd h (show ¬ 1<xE 1 by decide)⟩
 ·exact ⟨fun _=>hi,fun _=>hk⟩
def OrdT(t:List kI):Prop:=∀ j,j<t.length->OrdAt (t.getD j tz) j
theorem take_getDr{α:Type}(l:List α){n k:Nat}(d:α)(h:k<n):(l.take n).getD k d=l.getD k d:=by
 rw[List.getD_eq_getElem?_getD,List.getElem?_take_of_lt h,<- List.getD_eq_getElem?_getD]
section
variable {i z o:Int} {B:nD} {V S:List Int} {x:kI}
end
structure DPre (k:Nat) (z o:Int) (B:nD) (V S:List Int) (x:kI):Prop where
 hB:RBI B
 hz:IxB B z
 ho:IxB B o
 hV:∀ j,j<k->IxB B (V.getD j 0)
 hS:∀ j,j<k->IxB B (S.getD j 0)
 ord:OrdAt x k
 num:x.op=0->QL (xZ x.n) 1048576
 op0:0<=x.op
 op7:x.op<=7
theorem DPre.va{k:Nat}{z o:Int}{B:nD}{V S:List Int}{x:kI}(h:DPre k z o B V S x)(hk:0<xE x.op):IxB B (gI V x.a):=h.hV _ (by have:=h.ord.1 hk;omega)
theorem DPre.vb{k:Nat}{z o:Int}{B:nD}{V S:List Int}{x:kI}(h:DPre k z o B V S x)(hk:1<xE x.op):IxB B (gI V x.b):=h.hV _ (by have:=h.ord.2 hk;omega)
theorem DPre.sb{k:Nat}{z o:Int}{B:nD}{V S:List Int}{x:kI}(h:DPre k z o B V S x)(hk:1<xE x.op):IxB B (gI S x.b):=h.hS _ (by have:=h.ord.2 hk;omega)
theorem nd_k{n:Int}{t:List kI}(h0:dQ n t=0)(hq:∀ x∈t,gD x.n (xZ x.n) 1048576){k:Nat}(hk:k<t.length) :
  OrdAt (t.getD k tz) k/\((t.getD k tz).op=0->QL (xZ (t.getD k tz).n) 1048576/\(t.getD k tz).n=jP (xZ (t.getD k tz).n))/\0<=(t.getD k tz).op/\(t.getD k tz).op<=7:=by
 obtain ⟨h1,h2,h3,_⟩:=nd_0 ((tm_0 h0).2.2.2.2 k hk)
 rw[xT] at h2
 have hqk:gD (t.getD k tz).n (xZ (t.getD k tz).n) 1048576:=by
  rw[List.getD_eq_getElem?_getD,List.getElem?_eq_getElem hk];exact hq _ (List.getElem_mem _)
 generalize t.getD k tz=x at *
 unfold cC at h1
 unfold nP at h2
 refine ⟨⟨fun h=>by omega,fun h=>by omega⟩,fun h=>?_,?_⟩
 ·have hv:kL x.n=true:=by
   cases hh:kL x.n with
   |true=>rfl
   |false=>exact absurd (Or.inr (Or.inr (Or.inl ⟨h,Or.inr hh⟩))) h1
  exact ⟨hqk.ql,(ofQ_toQ hv).symm⟩
 ·rcases nC x.op with ⟨e,f⟩ | ⟨e,f⟩ | ⟨e,f⟩ | ⟨e,_⟩<;>omega
structure DInv (i:Int) (t:List kI) (k:Nat):Prop where
 hB:RBI (dU i t k).1
 hz:IxB (dU i t k).1 dZr.2
 ho:IxB (dU i t k).1 dOn.2
 lV:(dU i t k).2.1.length=k
 lS:(dU i t k).2.2.length=k
 hV:∀ j,j<k->IxB (dU i t k).1 ((dU i t k).2.1.getD j 0)
 hS:∀ j,j<k->IxB (dU i t k).1 ((dU i t k).2.2.getD j 0)
theorem DInv.pre{i n:Int}{t:List kI}{k:Nat}(h:DInv i t k)(h0:dQ n t=0)(hq:∀ x∈t,gD x.n (xZ x.n) 1048576)(hk:k<t.length):DPre k dZr.2 dOn.2 (dU i t k).1 (dU i t k).2.1 (dU i t k).2.2 (t.getD k tz):=by
 obtain ⟨h1,h2,h3,h4⟩:=nd_k h0 hq hk
 exact ⟨h.hB,h.hz,h.ho,h.hV,h.hS,h1,fun e=>(h2 e).1,h3,h4⟩
structure DLst (i:Int) (t:List kI) (k:Nat) (O Q:List Int):Prop where
 lO:O.length=t.length
 lQ:Q.length=t.length
 hO:O.take k=(dU i t k).2.1
 hQ:Q.take k=(dU i t k).2.2
theorem take_set1{O V:List Int}{k:Nat}{v:Int}(h:O.take k=V)(hk:k<O.length):(O.set k v).take (k+1)=V++[v]:=by
 rw[List.take_succ_eq_append_getElem (by rw[List.length_set];omega),List.getElem_set_self,List.take_set_of_le (Nat.le_refl k),h]
theorem DLst.put{i:Int}{t:List kI}{k:Nat}{O Q:List Int}(h:DLst i t k O Q)(hk:k<t.length){X:nD}{v s:Int}(e:dNd i dZr.2 dOn.2 (dU i t k).1 (dU i t k).2.1 (dU i t k).2.2 (t.getD k tz)=(X,v,s)):X=(dU i t (k+1)).1/\DLst i t (k+1) (O.set k v) (Q.set k s):=by
 have e1:dU i t (k+1)=(X,(dU i t k).2.1++[v],(dU i t k).2.2++[s]):=by
  rw[dU];rw[e]
 refine ⟨by rw[e1],by rw[List.length_set];exact h.lO,by rw[List.length_set];exact h.lQ,?_,?_⟩
 ·rw[e1];exact take_set1 h.hO (by rw[h.lO];exact hk)
 ·rw[e1];exact take_set1 h.hQ (by rw[h.lQ];exact hk)
end Go.Fid
namespace Go.Proofs.YtciingpdmjepgabGreatDoor
open Go.Fid
def RowOk(n:Nat)(l:List kP):Prop:=(∀ a∈l,gD a (xZ a) n)/\l.length<=140737488355328
def MatOk(n:Nat)(m:List (List kP)):Prop:=(∀ r∈m,RowOk n r)/\m.length<=140737488355328
def vRow(l:List kP):Bool:=l.all kL
theorem qok_at{l:List kP}{n j:Nat}{d:kP}(h:∀ a∈l,gD a (xZ a) n)(hj:j<l.length):gD (l.getD j d) (xZ (l.getD j d)) n:=by
 rw[List.getD_eq_getElem?_getD,List.getElem?_eq_getElem hj];exact h _ (List.getElem_mem hj)
theorem row_up{n k:Nat}{l:List kP}(h:RowOk n l)(hk:n<=k:=by decide):RowOk k l:=⟨fun a ha=>kE (h.1 a ha) hk,h.2⟩
theorem take_all{α:Type}{f:α->Bool}{l:List α}{i:Nat}{d:α}(h:i<l.length):(l.take (i+1)).all f=((l.take i).all f&&f (l.getD i d)):=by
 rw[List.getD_eq_getElem?_getD,List.getElem?_eq_getElem h,List.take_succ_eq_append_getElem h,List.all_append]
 simp
end Go.Proofs.YtciingpdmjepgabGreatDoor
