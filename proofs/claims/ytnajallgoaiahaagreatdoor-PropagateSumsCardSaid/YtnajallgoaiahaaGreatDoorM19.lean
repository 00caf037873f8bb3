/- Part 19 of a proof: rules, plain facts, and functions walked. -/
import Derived.Test.YtnajallgoaiahaaGreatDoorM11
import Derived.Test.YtnajallgoaiahaaGreatDoorM18
import Derived.Test.YtnajallgoaiahaaGreatDoorM12
set_option linter.all false
namespace Go.Fid
def vJ(o:Int):Int:=if o=0∨o=1 then 0 else if o=6∨o=7 then 1 else if o=2∨o=3∨o=4∨o=5 then 2 else -1
theorem eF(o:Int):(vJ o=0∧(o=0∨o=1))∨(vJ o=1∧(o=6∨o=7))∨(vJ o=2∧(o=2∨o=3∨o=4∨o=5))∨(vJ o=-1∧¬ (o=0∨o=1)∧¬ (o=6∨o=7)∧¬ (o=2∨o=3∨o=4∨o=5)):=by
 unfold vJ
 by_cases h1:o=0∨o=1
 ·exact .inl ⟨if_pos h1,h1⟩
 by_cases h2:o=6∨o=7
 ·exact .inr (.inl ⟨by rw[if_neg h1,if_pos h2],h2⟩)
 by_cases h3:o=2∨o=3∨o=4∨o=5
 ·exact .inr (.inr (.inl ⟨by rw[if_neg h1,if_neg h2,if_pos h3],h3⟩))
 ·exact .inr (.inr (.inr ⟨by rw[if_neg h1,if_neg h2,if_neg h3],h1,h2,h3⟩))
def unsB(x:jO):Bool:=((!x.num.neg&&!x.den.neg)&&(((x.num.gs.length:Nat):Int) == 0))&&(((x.den.gs.length:Nat):Int) == 0)
theorem uns_eq{x:jO}(h:unsB x=true):x=zr:=by
 obtain ⟨⟨n,g⟩,⟨m,d⟩⟩:=x
 unfold unsB at h
 simp only[Bool.and_eq_true,Bool.not_eq_true',beq_iff_eq] at h
 obtain ⟨⟨⟨h1,h2⟩,h3⟩,h4⟩:=h
 have e3:g=[]:=List.eq_nil_of_length_eq_zero (by omega)
 have e4:d=[]:=List.eq_nil_of_length_eq_zero (by omega)
 subst h1;subst h2;subst e3;subst e4
 rfl
def eI(x:kN):Prop:=vJ x.op<0∨(vJ x.op<2∧x.b≠0)∨(x.op=0∧(x.a≠0∨kM x.n=false))∨(x.op≠0∧unsB x.n=false)
instance (x:kN):Decidable (eI x):=by unfold eI;infer_instance
def eU(k:Int)(x:kN):Prop:=(0<vJ x.op∧(x.a<0∨k≤x.a))∨(1<vJ x.op∧(x.b<0∨k≤x.b))
instance (k:Int) (x:kN):Decidable (eU k x):=by unfold eU;infer_instance
def rngN(z:Int)(x:kN):Prop:=x.op=1∧(x.a<0∨z≤x.a)
instance (z:Int) (x:kN):Decidable (rngN z x):=by unfold rngN;infer_instance
def eM(ss:List Int)(x:kN):Int:=if vJ x.op=0 then 1 else if x.op=6 then ss.getD x.a.toNat 0 else if x.op=7 then 2*ss.getD x.a.toNat 0 else ss.getD x.a.toNat 0+ss.getD x.b.toNat 0
def ndC(z:Int)(ss:List Int)(x:kN):Nat:=if eI x then 1 else if eU ((ss.length:Nat):Int) x then 5 else if rngN z x then 2 else if 4096<eM ss x then 3 else 0
def yY(t:List kN):Nat→List Int
 |0=>[]
 |k+1=>yY t k++[eM (yY t k) (t.getD k tz)]
theorem uU(t:List kN):∀ k,(yY t k).length=k
 |0=>rfl
 |k+1=>by rw[yY,List.length_append,uU t k];rfl
def eN(z:Int)(t:List kN)(k:Nat):Prop:=∀ i,i<k→ndC z (yY t i) (t.getD i tz)=0
theorem szUp_0(z:Int)(t:List kN):eN z t 0:=fun i h=>by omega
theorem szUp_s{z:Int}{t:List kN}{k:Nat}(h:eN z t k)(hk:ndC z (yY t k) (t.getD k tz)=0):eN z t (k+1):=fun i hi=>by
 rcases Nat.lt_or_ge i k with h1 | h1
 ·exact h i h1
 ·obtain rfl:i=k:=by omega
  exact hk
def szE(z:Int)(t:List kN):Nat→Nat→Nat
 |0,_=>0
 |f+1,k=>if ndC z (yY t k) (t.getD k tz)=0 then szE z t f (k+1) else ndC z (yY t k) (t.getD k tz)
def mP(z:Int)(t:List kN):Nat:=if z<0∨64<z then 2 else if t.length=0 then 1 else if 400<t.length then 3 else szE z t t.length 0
def tmL(z:Int)(t:List kN):List Int:=if mP z t=0 then yY t t.length else []
theorem szE_0{z:Int}{t:List kN}:∀ {f k:Nat},szE z t f k=0↔∀ i,k≤i→i<k+f→ndC z (yY t i) (t.getD i tz)=0
 |0,k=>by simp only[szE,true_iff];intro i h1 h2;omega
 |f+1,k=>by
  unfold szE
  constructor
  ·intro h i h1 h2
   split at h
   ·rename_i h0
    rcases Nat.lt_or_ge k i with h3 | h3
    ·exact szE_0.1 h i (by omega) (by omega)
    ·obtain rfl:i=k:=by omega
     exact h0
   ·rename_i h0;exact absurd h h0
  ·intro h
   rw[if_pos (h k (Nat.le_refl _) (by omega))]
   exact szE_0.2 fun i h1 h2=>h i (by omega) (by omega)
theorem szE_at{z:Int}{t:List kN}{m:Nat}(hm:ndC z (yY t m) (t.getD m tz)≠0):∀ {f k:Nat},k≤m→m<k+f→(∀ i,k≤i→i<m→ndC z (yY t i) (t.getD i tz)=0)→szE z t f k=ndC z (yY t m) (t.getD m tz)
 |0,k,h1,h2,_=>by omega
 |f+1,k,h1,h2,h=>by
  unfold szE
  rcases Nat.lt_or_ge k m with h3 | h3
  ·rw[if_pos (h k (Nat.le_refl _) h3)]
   exact szE_at hm (by omega) (by omega) fun i a b=>h i (by omega) b
  ·obtain rfl:k=m:=by omega
   rw[if_neg hm]
theorem tm_1{z:Int}{t:List kN}(h:z<0∨64<z):mP z t=2:=if_pos h
theorem tm_2{z:Int}{t:List kN}(h:¬ (z<0∨64<z))(h1:t.length=0):mP z t=1:=by unfold mP;rw[if_neg h,if_pos h1]
theorem tm_3{z:Int}{t:List kN}(h:¬ (z<0∨64<z))(h1:t.length≠0)(h2:400<t.length):mP z t=3:=by unfold mP;rw[if_neg h,if_neg h1,if_pos h2]
theorem tm_e{z:Int}{t:List kN}(h:¬ (z<0∨64<z))(h1:t.length≠0)(h2:¬ 400<t.length):mP z t=szE z t t.length 0:=by unfold mP;rw[if_neg h,if_neg h1,if_neg h2]
theorem tm_no{z:Int}{t:List kN}{k:Nat}(h:¬ (z<0∨64<z))(h1:k<t.length)(h2:¬ 400<t.length)(hu:eN z t k)(hc:ndC z (yY t k) (t.getD k tz)≠0):mP z t=ndC z (yY t k) (t.getD k tz)∧tmL z t=[]:=by
 have e:mP z t=ndC z (yY t k) (t.getD k tz):=by
  rw[tm_e h (by omega) h2]
  exact szE_at hc (by omega) (by omega) fun i _ hi=>hu i hi
 exact ⟨e,if_neg (by rw[e];exact hc)⟩
theorem tm_yes{z:Int}{t:List kN}(h:¬ (z<0∨64<z))(h1:t.length≠0)(h2:¬ 400<t.length)(hu:eN z t t.length):mP z t=0∧tmL z t=yY t t.length:=by
 have e:mP z t=0:=by
  rw[tm_e h h1 h2]
  exact szE_0.2 fun i _ hi=>hu i (by omega)
 exact ⟨e,if_pos e⟩
theorem tm_n{z:Int}{t:List kN}(h:mP z t≠0):tmL z t=[]:=if_neg h
theorem fF{z:Int}{t:List kN}(h:mP z t=0):0≤z∧z≤64∧t.length≠0∧t.length≤400∧eN z t t.length:=by
 by_cases h0:z<0∨64<z
 ·rw[tm_1 h0] at h;cases h
 by_cases h1:t.length=0
 ·rw[tm_2 h0 h1] at h;cases h
 by_cases h2:400<t.length
 ·rw[tm_3 h0 h1 h2] at h;cases h
 rw[tm_e h0 h1 h2] at h
 exact ⟨by omega,by omega,h1,by omega,fun i hi=>szE_0.1 h i (by omega) (by omega)⟩
theorem nd_0{z:Int}{ss:List Int}{x:kN}(h:ndC z ss x=0):¬ eI x∧¬ eU ((ss.length:Nat):Int) x∧¬ rngN z x∧eM ss x≤4096:=by
 unfold ndC at h
 split at h
 ·cases h
 ·rename_i h1
  split at h
  ·cases h
  ·rename_i h2
   split at h
   ·cases h
   ·rename_i h3
    split at h
    ·cases h
    ·rename_i h4
     exact ⟨h1,h2,h3,by omega⟩
theorem nd_1{z:Int}{ss:List Int}{x:kN}(h:eI x):ndC z ss x=1:=if_pos h
theorem nd_5{z:Int}{ss:List Int}{x:kN}(h:¬ eI x)(h2:eU ((ss.length:Nat):Int) x):ndC z ss x=5:=by unfold ndC;rw[if_neg h,if_pos h2]
theorem nd_2{z:Int}{ss:List Int}{x:kN}(h:¬ eI x)(h2:¬ eU ((ss.length:Nat):Int) x)(h3:rngN z x):ndC z ss x=2:=by unfold ndC;rw[if_neg h,if_neg h2,if_pos h3]
theorem nd_3{z:Int}{ss:List Int}{x:kN}(h:¬ eI x)(h2:¬ eU ((ss.length:Nat):Int) x)(h3:¬ rngN z x)(h4:4096<eM ss x):ndC z ss x=3:=by unfold ndC;rw[if_neg h,if_neg h2,if_neg h3,if_pos h4]
theorem nd_y{z:Int}{ss:List Int}{x:kN}(h:¬ eI x)(h2:¬ eU ((ss.length:Nat):Int) x)(h3:¬ rngN z x)(h4:¬ 4096<eM ss x):ndC z ss x=0:=by unfold ndC;rw[if_neg h,if_neg h2,if_neg h3,if_neg h4]
theorem sz_rng{z:Int}{t:List kN}:∀ {k:Nat},eN z t k→∀ j,j<k→1≤(yY t k).getD j 0∧(yY t k).getD j 0≤4096
 |0,_,j,h=>by omega
 |k+1,hu,j,hj=>by
  have ih:=sz_rng (k:=k) (fun i hi=>hu i (by omega))
  have hl:=uU t k
  obtain ⟨h1,h2,h3,h4⟩:=nd_0 (hu k (by omega))
  rw[hl] at h2
  unfold yY
  rcases Nat.lt_or_ge j k with h | h
  ·rw[List.getD_eq_getElem?_getD,List.getElem?_append_left (by omega),← List.getD_eq_getElem?_getD]
   exact ih j h
  ·obtain rfl:j=k:=by omega
   rw[List.getD_eq_getElem?_getD,List.getElem?_append_right (by omega),hl,Nat.sub_self]
   show 1≤eM (yY t j) (t.getD j tz)∧eM (yY t j) (t.getD j tz)≤4096
   refine ⟨?_,h4⟩
   have hA:∀ a:Int,0≤a→a<j→1≤(yY t j).getD a.toNat 0:=fun a q1 q2=>(ih a.toNat (by omega)).1
   generalize t.getD j tz=x at *
   unfold eM eU eI at *
   rcases eF x.op with ⟨e,_⟩ | ⟨e,f⟩ | ⟨e,f⟩ | ⟨e,_⟩
   ·rw[if_pos e];exact Int.le_refl _
   ·have ha:=hA x.a (by omega) (by omega)
    rw[if_neg (by omega)]
    split
    ·exact ha
    ·split<;>omega
   ·have ha:=hA x.a (by omega) (by omega)
    have hb:=hA x.b (by omega) (by omega)
    rw[if_neg (by omega),if_neg (by omega),if_neg (by omega)]
    omega
   ·omega
def szI(t:List kN)(k:Nat)(o:List Int):Prop:=o.length=t.length∧o.take k=yY t k
theorem szI_0{t:List kN}:szI t 0 (List.replicate t.length 0):=⟨List.length_replicate,rfl⟩
theorem szI.at{t:List kN}{k:Nat}{o:List Int}(h:szI t k o){j:Nat}(hj:j<k)(hk:k≤t.length):o.getD j 0=(yY t k).getD j 0:=by
 rw[← h.2,List.getD_eq_getElem?_getD,List.getD_eq_getElem?_getD,List.getElem?_take_of_lt hj]
theorem szI.put{t:List kN}{k:Nat}{o:List Int}(h:szI t k o)(hk:k<t.length){v:Int}(hv:v=eM (yY t k) (t.getD k tz)):szI t (k+1) (o.set k v):=by
 refine ⟨by rw[List.length_set];exact h.1,?_⟩
 have hl:=h.1
 rw[List.take_succ_eq_append_getElem (by rw[List.length_set];omega),List.getElem_set_self,List.take_set_of_le (Nat.le_refl k),h.2,yY,hv]
theorem set_getD{o:List Int}{k:Nat}{v:Int}(h:k<o.length):(o.set k v).getD k 0=v:=by
 rw[List.getD_eq_getElem?_getD,List.getElem?_set_self h];rfl
theorem szI_end{t:List kN}{o:List Int}(h:szI t t.length o):o=yY t t.length:=by
 rw[← h.2,← h.1,List.take_length]
def badB(x:kN):Bool:=(((decide (vJ x.op<0)||(decide (vJ x.op<2)&&(x.b != 0)))||((x.op == 0)&&((x.a != 0)||!(kM x.n))))||((x.op != 0)&&!(unsB x.n)))
def ordB(k:Int)(x:kN):Bool:=((decide (0<vJ x.op)&&(decide (x.a<0)||decide (k≤x.a)))||(decide (1<vJ x.op)&&(decide (x.b<0)||decide (k≤x.b))))
def rngB(z:Int)(x:kN):Bool:=((x.op == 1)&&(decide (x.a<0)||decide (z≤x.a)))
theorem aU{x:kN}:badB x=true↔eI x:=by
 unfold badB eI
 simp only[Bool.or_eq_true,Bool.and_eq_true,decide_eq_true_eq,beq_iff_eq,bne_iff_ne,Bool.not_eq_true',ne_eq,or_assoc]
theorem ordB_iff{k:Int}{x:kN}:ordB k x=true↔eU k x:=by
 unfold ordB eU
 simp only[Bool.or_eq_true,Bool.and_eq_true,decide_eq_true_eq]
theorem rngB_iff{k:Int}{x:kN}:rngB k x=true↔rngN k x:=by
 unfold rngB rngN
 simp only[Bool.or_eq_true,Bool.and_eq_true,decide_eq_true_eq,beq_iff_eq]
theorem not_of{b:Bool}{p:Prop}(h:b=true↔p)(hb:b=false):¬ p:=fun q=>by rw[h.2 q] at hb;cases hb
structure TmR (z:Int) (t:List kN) (k:Nat):Prop where
 z0:¬ (z<0∨64<z)
 kl:k<t.length
 tl:¬ 400<t.length
 up:eN z t k
theorem tmr{z:Int}{t:List kN}{k:Nat}(h:(decide (z<0)||decide (64<z))=false)(h1:((k:Nat):Int)<((t.length:Nat):Int))(h2:¬ 400<((t.length:Nat):Int))(hu:eN z t k):TmR z t k:=by
 rw[Bool.or_eq_false_iff,decide_eq_false_iff_not,decide_eq_false_iff_not] at h
 exact ⟨by omega,by omega,by omega,hu⟩
theorem zb_t{z:Int}{t:List kN}(h:(decide (z<0)||decide (64<z))=true):mP z t=2∧tmL z t=[]:=by
 rw[Bool.or_eq_true,decide_eq_true_eq,decide_eq_true_eq] at h
 have e:=tm_1 (t:=t) h
 exact ⟨e,tm_n (by rw[e];decide)⟩
theorem zb_f{z:Int}(h:(decide (z<0)||decide (64<z))=false):¬ (z<0∨64<z):=by
 rw[Bool.or_eq_false_iff,decide_eq_false_iff_not,decide_eq_false_iff_not] at h
 omega
theorem tm_l0{z:Int}{t:List kN}(h:(decide (z<0)||decide (64<z))=false)(h1:t.length=0):mP z t=1∧tmL z t=[]:=by
 have e:=tm_2 (zb_f h) h1
 exact ⟨e,tm_n (by rw[e];decide)⟩
theorem tm_lb{z:Int}{t:List kN}(h:(decide (z<0)||decide (64<z))=false)(h1:400<t.length):mP z t=3∧tmL z t=[]:=by
 have e:=tm_3 (zb_f h) (by omega) h1
 exact ⟨e,tm_n (by rw[e];decide)⟩
theorem TmR.bad{z:Int}{t:List kN}{k:Nat}(h:TmR z t k)(hb:badB (t.getD k tz)=true):mP z t=1∧tmL z t=[]:=by
 have e:=nd_1 (z:=z) (ss:=yY t k) (aU.1 hb)
 have:=tm_no h.z0 h.kl h.tl h.up (by rw[e];decide)
 rwa [e] at this
theorem TmR.ord{z:Int}{t:List kN}{k:Nat}(h:TmR z t k)(hb:badB (t.getD k tz)=false)(ho:ordB ((k:Nat):Int) (t.getD k tz)=true):mP z t=5∧tmL z t=[]:=by
 have e:=nd_5 (z:=z) (ss:=yY t k) (not_of aU hb) (by rw[uU];exact ordB_iff.1 ho)
 have:=tm_no h.z0 h.kl h.tl h.up (by rw[e];decide)
 rwa [e] at this
theorem TmR.rng{z:Int}{t:List kN}{k:Nat}(h:TmR z t k)(hb:badB (t.getD k tz)=false)(ho:ordB ((k:Nat):Int) (t.getD k tz)=false)(hr:rngB z (t.getD k tz)=true):mP z t=2∧tmL z t=[]:=by
 have e:=nd_2 (z:=z) (ss:=yY t k) (not_of aU hb) (by rw[uU];exact not_of ordB_iff ho) (rngB_iff.1 hr)
 have:=tm_no h.z0 h.kl h.tl h.up (by rw[e];decide)
 rwa [e] at this
structure NdR (z:Int) (t:List kN) (k:Nat):Prop where
 tm:TmR z t k
 bad:¬ eI (t.getD k tz)
 ord:¬ eU ((k:Nat):Int) (t.getD k tz)
 rng:¬ rngN z (t.getD k tz)
theorem ndr{z:Int}{t:List kN}{k:Nat}(h:TmR z t k)(hb:badB (t.getD k tz)=false)(ho:ordB ((k:Nat):Int) (t.getD k tz)=false)(hr:rngB z (t.getD k tz)=false):NdR z t k:=⟨h,not_of aU hb,not_of ordB_iff ho,not_of rngB_iff hr⟩
theorem NdR.big{z:Int}{t:List kN}{k:Nat}(h:NdR z t k){v:Int}(hv:v=eM (yY t k) (t.getD k tz)){o:List Int}(ho:k<o.length)(hb:4096<(o.set k v).getD k 0):mP z t=3∧tmL z t=[]:=by
 rw[set_getD ho,hv] at hb
 have e:=nd_3 (z:=z) (ss:=yY t k) h.bad (by rw[uU];exact h.ord) h.rng hb
 have:=tm_no h.tm.z0 h.tm.kl h.tm.tl h.tm.up (by rw[e];decide)
 rwa [e] at this
theorem NdR.next{z:Int}{t:List kN}{k:Nat}(h:NdR z t k){v:Int}(hv:v=eM (yY t k) (t.getD k tz)){o:List Int}(ho:szI t k o)(hb:¬ 4096<(o.set k v).getD k 0):k+1≤t.length∧szI t (k+1) (o.set k v)∧eN z t (k+1):=by
 have hl:=ho.1
 have hk:=h.tm.kl
 rw[set_getD (by omega),hv] at hb
 exact ⟨hk,ho.put hk hv,szUp_s h.tm.up (nd_y h.bad (by rw[uU];exact h.ord) h.rng hb)⟩
theorem NdR.kd{z:Int}{t:List kN}{k:Nat}(h:NdR z t k):0≤vJ (t.getD k tz).op:=by
 have:=h.bad;unfold eI at this;omega
theorem NdR.a{z:Int}{t:List kN}{k:Nat}(h:NdR z t k){o:List Int}(ho:szI t k o)(h0:vJ (t.getD k tz).op≠0) :
  0≤(t.getD k tz).a∧(t.getD k tz).a.toNat<k∧o.getD (t.getD k tz).a.toNat 0=(yY t k).getD (t.getD k tz).a.toNat 0∧1≤o.getD (t.getD k tz).a.toNat 0∧o.getD (t.getD k tz).a.toNat 0≤4096:=by
 have h1:=h.kd
 have h2:=h.ord
 unfold eU at h2
 have ha:(t.getD k tz).a.toNat<k:=by omega
 have e:=ho.at ha (by have:=h.tm.kl;omega)
 have r:=sz_rng h.tm.up _ ha
 rw[← e] at r
 exact ⟨by omega,ha,e,r⟩
theorem NdR.b{z:Int}{t:List kN}{k:Nat}(h:NdR z t k){o:List Int}(ho:szI t k o)(h0:vJ (t.getD k tz).op≠0)(h6:(t.getD k tz).op≠6)(h7:(t.getD k tz).op≠7) :
  0≤(t.getD k tz).b∧(t.getD k tz).b.toNat<k∧o.getD (t.getD k tz).b.toNat 0=(yY t k).getD (t.getD k tz).b.toNat 0∧1≤o.getD (t.getD k tz).b.toNat 0∧o.getD (t.getD k tz).b.toNat 0≤4096:=by
 have h1:=h.kd
 have h2:=h.ord
 have h3:vJ (t.getD k tz).op=2:=by rcases eF (t.getD k tz).op with ⟨a,b⟩ | ⟨a,b⟩ | ⟨a,b⟩ | ⟨a,b⟩<;>omega
 unfold eU at h2
 have ha:(t.getD k tz).b.toNat<k:=by omega
 have e:=ho.at ha (by have:=h.tm.kl;omega)
 have r:=sz_rng h.tm.up _ ha
 rw[← e] at r
 exact ⟨by omega,ha,e,r⟩
theorem szN_c{ss:List Int}{x:kN}(h:vJ x.op=0):(1:Int)=eM ss x:=(if_pos h).symm
theorem szN_n{ss:List Int}{x:kN}{v:Int}(h:vJ x.op≠0)(h6:x.op=6)(hv:v=ss.getD x.a.toNat 0):v=eM ss x:=by
 unfold eM;rw[if_neg h,if_pos h6,hv]
theorem szN_q{ss:List Int}{x:kN}{v:Int}(h:vJ x.op≠0)(h7:x.op=7)(hv:v=ss.getD x.a.toNat 0):2*v=eM ss x:=by
 unfold eM;rw[if_neg h,if_neg (by omega),if_pos h7,hv]
theorem szN_b{ss:List Int}{x:kN}{v w:Int}(h:vJ x.op≠0)(h6:x.op≠6)(h7:x.op≠7)(hv:v=ss.getD x.a.toNat 0)(hw:w=ss.getD x.b.toNat 0):v+w=eM ss x:=by
 unfold eM;rw[if_neg h,if_neg h6,if_neg h7,hv,hw]
theorem tm_end{z:Int}{t:List kN}{k:Nat}{o:List Int}(h:(decide (z<0)||decide (64<z))=false)(h0:((t.length:Nat):Int)≠0)(h4:¬ 400<((t.length:Nat):Int))(hk:k≤t.length)(h5:¬ ((k:Nat):Int)<((t.length:Nat):Int))(ho:szI t k o)(hu:eN z t k):mP z t=0∧tmL z t=o:=by
 obtain rfl:k=t.length:=by omega
 obtain ⟨e1,e2⟩:=tm_yes (zb_f h) (by omega) (by omega) hu
 exact ⟨e1,by rw[e2,szI_end ho]⟩
inductive NdOk (n:Nat) (L:List JV):kN→Prop
 |c {p:Rat} (hp:QL p 1048576):NdOk n L ⟨0,0,0,jP p⟩
 |v {a:Nat} (ha:a<n):NdOk n L ⟨1,(a:Int),0,zr⟩
 |add {a b:Nat} (ha:a<L.length) (hb:b<L.length):NdOk n L ⟨2,(a:Int),(b:Int),zr⟩
 |sub {a b:Nat} (ha:a<L.length) (hb:b<L.length):NdOk n L ⟨3,(a:Int),(b:Int),zr⟩
 |mul {a b:Nat} (ha:a<L.length) (hb:b<L.length):NdOk n L ⟨4,(a:Int),(b:Int),zr⟩
 |div {a b:Nat} (ha:a<L.length) (hb:b<L.length) (hz:gP (L.getD b jz).v.1 (L.getD b jz).v.2=false):NdOk n L ⟨5,(a:Int),(b:Int),zr⟩
 |neg {a:Nat} (ha:a<L.length):NdOk n L ⟨6,(a:Int),0,zr⟩
 |sq {a:Nat} (ha:a<L.length):NdOk n L ⟨7,(a:Int),0,zr⟩
theorem nat_of{a:Int}(h:0≤a):∃ m:Nat,a=(m:Int):=⟨a.toNat,by omega⟩
theorem nd_ok{bx:List R2}{t:List kN}{k:Nat}{ss:List Int}(h:ndC ((bx.length:Nat):Int) ss (t.getD k tz)=0)(hs:ss.length=k)(hq:mN (t.getD k tz).n (qJ (t.getD k tz).n) 1048576)
  (hz:(t.getD k tz).op=5→gP (jA (jU bx t k) (t.getD k tz).b).v.1 (jA (jU bx t k) (t.getD k tz).b).v.2=false):NdOk bx.length (jU bx t k) (t.getD k tz):=by
 obtain ⟨h1,h2,h3,_⟩:=nd_0 h
 have hl:=nU bx t k
 rw[hs] at h2
 generalize t.getD k tz=x at *
 generalize jU bx t k=L at *
 obtain ⟨op,a,b,n⟩:=x
 unfold eI at h1
 unfold eU at h2
 unfold rngN at h3
 dsimp only at *
 have hu:op≠0→n=zr:=fun h=>uns_eq (by
  cases hh:unsB n with
  |true=>rfl
  |false=>exact absurd (Or.inr (Or.inr (Or.inr ⟨h,hh⟩))) h1)
 rcases eF op with ⟨e,f⟩ | ⟨e,f⟩ | ⟨e,f⟩ | ⟨e,f⟩
 ·have hb:b=0:=by omega
  subst hb
  rcases f with f | f
  ·subst f
   have ha:a=0:=by omega
   subst ha
   have hv:kM n=true:=by
    cases hh:kM n with
    |true=>rfl
    |false=>exact absurd (Or.inr (Or.inr (Or.inl ⟨rfl,Or.inr hh⟩))) h1
   rw[← ofQ_toQ hv] at hq ⊢
   rw[gU] at hq
   exact .c (hq.ql)
  ·subst f
   obtain ⟨m,hm⟩:=nat_of (a:=a) (by omega)
   subst hm
   rw[hu (by decide)]
   exact .v (by omega)
 ·have hb:b=0:=by omega
  subst hb
  obtain ⟨m,hm⟩:=nat_of (a:=a) (by omega)
  subst hm
  rw[hu (by omega)]
  rcases f with f | f<;>subst f
  ·exact .neg (by omega)
  ·exact .sq (by omega)
 ·obtain ⟨m,hm⟩:=nat_of (a:=a) (by omega)
  subst hm
  obtain ⟨l,hl'⟩:=nat_of (a:=b) (by omega)
  subst hl'
  rw[hu (by omega)]
  rcases f with f | f | f | f<;>subst f
  ·exact .add (by omega) (by omega)
  ·exact .sub (by omega) (by omega)
  ·exact .mul (by omega) (by omega)
  ·refine .div (by omega) (by omega) ?_
   have:=hz rfl
   unfold jA at this
   rwa [Int.toNat_natCast] at this
 ·omega
structure fH (bx:List R2) (t:List kN):Prop where
 c0:mP ((bx.length:Nat):Int) t=0
 ok:∀ k,k<t.length→nY 1048576 bx.length (nJ bx (jU bx t k) (t.getD k tz))
 dz:∀ k,k<t.length→(t.getD k tz).op=5→gP (jA (jU bx t k) (t.getD k tz).b).v.1 (jA (jU bx t k) (t.getD k tz).b).v.2=false
theorem fH.upto{bx:List R2}{t:List kN}(h:fH bx t):∀ {k},k≤t.length→∀ y∈jU bx t k,nY 1048576 bx.length y
 |0,_,y,hy=>by simp [jU] at hy
 |k+1,hk,y,hy=>by
  rw[jU,List.mem_append] at hy
  rcases hy with hy | hy
  ·exact h.upto (by omega) y hy
  ·rw[List.mem_singleton] at hy;subst hy
   exact h.ok k (by omega)
theorem fH.nd{bx:List R2}{t:List kN}(h:fH bx t)(hq:∀ x∈t,mN x.n (qJ x.n) 1048576){k:Nat}(hk:k<t.length):NdOk bx.length (jU bx t k) (t.getD k tz):=by
 have h0:=fF h.c0
 refine nd_ok (h0.2.2.2.2 k hk) (uU t k) ?_ (h.dz k hk)
 rw[List.getD_eq_getElem?_getD,List.getElem?_eq_getElem hk];exact hq _ (List.getElem_mem _)
def xQ(bx:List R2)(t:List kN):JV:=(jU bx t t.length).getD (t.length-1) jz
theorem fH.last{bx:List R2}{t:List kN}(h:fH bx t):nY 1048576 bx.length (xQ bx t):=by
 have h0:=fF h.c0
 have hl:=nU bx t t.length
 unfold xQ
 rw[List.getD_eq_getElem?_getD,List.getElem?_eq_getElem (by omega)]
 exact h.upto (Nat.le_refl _) _ (List.getElem_mem _)
end Go.Fid
namespace Go.Proofs.YtnajallgoaiahaaGreatDoor
open Go.Fid
def aX{α:Type}(f:α→Bool):List α→Nat→Int
 |[],_=>-1
 |x::r,i=>bif f x then ((i:Nat):Int) else aX f r (i+1)
theorem fst0_step{α:Type}(f:α→Bool)(d:α)(l:List α)(k:Nat)(h:k<l.length)(hf:f (l.getD k d)=false):aX f (l.drop k) k=aX f (l.drop (k+1)) (k+1):=by
 rw[List.drop_eq_getElem_cons h,aX,show f l[k]=false by rw[← hf,List.getD_eq_getElem?_getD,List.getElem?_eq_getElem h];rfl];rfl
theorem fst0_at{α:Type}(f:α→Bool)(d:α)(l:List α)(k:Nat)(h:k<l.length)(hf:f (l.getD k d)=true):aX f (l.drop k) k=((k:Nat):Int):=by
 rw[List.drop_eq_getElem_cons h,aX,show f l[k]=true by rw[← hf,List.getD_eq_getElem?_getD,List.getElem?_eq_getElem h];rfl];rfl
theorem fst0_end{α:Type}(f:α→Bool)(l:List α)(k:Nat)(h:l.length≤k):aX f (l.drop k) k=-1:=by rw[List.drop_eq_nil_of_le h];rfl
theorem fst0_any{α:Type}(f:α→Bool):∀ (l:List α) (i:Nat),decide (0≤aX f l i)=l.any f
 |[],i=>by simp [aX]
 |x::r,i=>by
  rw[aX,List.any_cons]
  cases f x
  ·rw[Bool.false_or,cond_false];exact fst0_any f r (i+1)
  ·rw[Bool.true_or,cond_true,decide_eq_true_eq];omega
theorem vRow_any(l:List jO):(!(l.any (fun x=>!(kM x))))=gY l:=by
 unfold gY
 rw[List.all_eq_not_any_not]
def gZ(m:List (List jO))(l:List jO):Bool:=(((l.length:Nat):Int) != (((m.getD 0 []).length:Nat):Int))||!(gY l)
def shpB(m:List (List jO)):Bool:=(((decide (((m.length:Nat):Int)<1)||decide (64<((m.length:Nat):Int)))||decide ((((m.getD 0 []).length:Nat):Int)<1))||decide (64<(((m.getD 0 []).length:Nat):Int)))
def nZ(m:List (List jO)):Nat:=bif shpB m||m.any (gZ m) then 1 else 0
theorem shp_0{m:List (List jO)}(h:shpB m=false):0<m.length:=by
 unfold shpB at h
 simp only[Bool.or_eq_false_iff,decide_eq_false_iff_not] at h
 omega
theorem mchk_1{m:List (List jO)}(h:shpB m=true):nZ m=1:=by unfold nZ;rw[h];rfl
theorem mchk_2{m:List (List jO)}(h:m.any (gZ m)=true):nZ m=1:=by unfold nZ;rw[h,Bool.or_true];rfl
theorem mchk_3{m:List (List jO)}(h1:shpB m=false)(h:m.any (gZ m)=false):nZ m=0:=by unfold nZ;rw[h,h1];rfl
structure gQ (m:List (List jO)) (r c:Nat):Prop where
 hr:m.length=r
 hc:∀ l∈m,l.length=c∧gY l=true
 r1:1≤r
 r64:r≤64
 c1:1≤c
 c64:c≤64
theorem mchk_rect{m:List (List jO)}(h:nZ m=0):gQ m m.length (m.getD 0 []).length:=by
 unfold nZ at h
 cases hb:shpB m||m.any (gZ m) with
 |true=>rw[hb] at h;cases h
 |false=>
  rw[Bool.or_eq_false_iff] at hb
  obtain ⟨h1,h2⟩:=hb
  unfold shpB at h1
  simp only[Bool.or_eq_false_iff,decide_eq_false_iff_not] at h1
  refine ⟨rfl,fun l hl=>?_,by omega,by omega,by omega,by omega⟩
  have h3:=List.any_eq_false.1 h2 l hl
  unfold gZ at h3
  rw[Bool.not_eq_true,Bool.or_eq_false_iff,Bool.not_eq_false',bne_eq_false_iff_eq] at h3
  exact ⟨by omega,h3.2⟩
theorem gQ.at{m:List (List jO)}{r c:Nat}(h:gQ m r c){i:Nat}(hi:i<r):(m.getD i []).length=c∧gY (m.getD i [])=true:=by
 have:=h.hr
 rw[List.getD_eq_getElem?_getD,List.getElem?_eq_getElem (by omega)];exact h.hc _ (List.getElem_mem _)
theorem toQ_zr:qJ zr=0:=by unfold qJ;rw[if_neg (by decide)]
def aO(l m:List jO):Nat→Rat
 |0=>0
 |i+1=>aO l m i+qJ (l.getD i zr)*qJ (m.getD i zr)
def dotR(l m:List jO):Rat:=aO l m l.length
theorem dotT_skip{l m:List jO}{i:Nat}(h:qJ (l.getD i zr)=0∨qJ (m.getD i zr)=0):aO l m i=aO l m (i+1):=by
 rw[aO]
 rcases h with h | h<;>rw[h]<;>grind
theorem row_ql{l:List jO}{n j:Nat}(h:uY n l)(hn:1≤n):QL (qJ (l.getD j zr)) n:=by
 rcases Nat.lt_or_ge j l.length with hj | hj
 ·exact (xO h.1 hj).ql
 ·rw[List.getD_eq_getElem?_getD,List.getElem?_eq_none (by omega)]
  show QL (qJ zr) n
  rw[toQ_zr]
  exact vR mJ hn
theorem dotT_ql{l m:List jO}{a b:Nat}(hl:uY a l)(hm:uY b m)(ha:1≤a)(hb:1≤b):∀ i,QL (aO l m i) (i*(a+b+1)+1)
 |0=>vR mJ (by omega)
 |i+1=>by
  rw[aO]
  exact zP (dotT_ql hl hm ha hb i) (qQ (row_ql hl ha) (row_ql hm hb) (Nat.le_refl _)) (by rw[Nat.add_mul];omega)
theorem dot_ql1{l m:List jO}{i:Nat}(hl:uY 1048576 l)(hm:uY 1048576 m)(hi:i≤64):QL (aO l m i) 134217800 :=
 vR (dotT_ql hl hm (by decide) (by decide) i) (Nat.le_trans (Nat.add_le_add_right (Nat.mul_le_mul_right _ hi) 1) (by decide))
theorem dot_ql2{l m:List jO}{i:Nat}(hl:uY 1048576 l)(hm:uY 134217800 m)(hi:i≤64):QL (aO l m i) 8800000000 :=
 vR (dotT_ql hl hm (by decide) (by decide) i) (Nat.le_trans (Nat.add_le_add_right (Nat.mul_le_mul_right _ hi) 1) (by decide))
def appR(m:List (List jO))(v:List jO):List jO:=m.map fun r=>jP (dotR r v)
theorem appR_len(m:List (List jO))(v:List jO):(appR m v).length=m.length:=List.length_map _
theorem appR_step{m:List (List jO)}{v:List jO}{i:Nat}(h:i<m.length):(m.take i).map (fun r=>jP (dotR r v))++[jP (dotR (m.getD i []) v)]=(m.take (i+1)).map (fun r=>jP (dotR r v)):=by
 rw[List.take_succ_eq_append_getElem h,List.map_append,List.getD_eq_getElem?_getD,List.getElem?_eq_getElem h];rfl
theorem appR_ok{m:List (List jO)}{v:List jO}(hm:xG 1048576 m)(hv:uY 1048576 v)(hr:∀ l∈m,l.length≤64):uY 134217800 (appR m v):=by
 refine ⟨fun a ha=>?_,by rw[appR_len];exact hm.2⟩
 obtain ⟨r,h1,rfl⟩:=List.mem_map.1 ha
 rw[gU]
 exact kC (dot_ql1 (hm.1 r h1) hv (hr r h1))
theorem gQ.le{m:List (List jO)}{r c:Nat}(h:gQ m r c):∀ l∈m,l.length≤64:=fun l hl=>by
 have h1:=(h.hc l hl).1
 have h2:=h.c64
 omega
def xU(q:List (List jO))(a b:List jO):Rat:=dotR a (appR q b)
def eqM(m:List (List jO))(i j:Nat):Bool:=decide (qJ ((m.getD i []).getD j zr)=qJ ((m.getD j []).getD i zr))
def symB(m:List (List jO)):Bool:=(List.range m.length).all fun i=>(List.range i).all fun j=>eqM m i j
def symI(m:List (List jO))(k:Nat):Prop:=∀ i,i<k→∀ j,j<i→eqM m i j=true
theorem symI_0(m:List (List jO)):symI m 0:=fun i h=>by omega
theorem symI_s{m:List (List jO)}{k:Nat}(h:symI m k)(h2:∀ j,j<k→eqM m k j=true):symI m (k+1):=fun i hi j hj=>by
 rcases Nat.lt_or_ge i k with h3 | h3
 ·exact h i h3 j hj
 ·obtain rfl:i=k:=by omega
  exact h2 j hj
theorem sym_no{m:List (List jO)}{i j:Nat}(hi:i<m.length)(hj:j<i)(h:eqM m i j=false):symB m=false:=by
 cases hb:symB m with
 |false=>rfl
 |true=>
  have:=List.all_eq_true.1 (List.all_eq_true.1 hb i (List.mem_range.2 hi)) j (List.mem_range.2 hj)
  rw[h] at this;cases this
theorem sym_yes{m:List (List jO)}(h:symI m m.length):symB m=true:=by
 unfold symB
 rw[List.all_eq_true];intro i hi
 rw[List.all_eq_true];intro j hj
 exact h i (List.mem_range.1 hi) j (List.mem_range.1 hj)
def mW(m:List (List jO))(n:Nat):Nat:=if m.length≠n∨(m.getD 0 []).length≠n then 4 else bif symB m then 0 else 11
theorem fit_1{m:List (List jO)}{n:Nat}(h:(((((m.length:Nat):Int) != ((n:Nat):Int))||((((m.getD 0 []).length:Nat):Int) != ((n:Nat):Int))))=true):mW m n=4:=by
 rw[Bool.or_eq_true,bne_iff_ne,bne_iff_ne] at h
 exact if_pos (by omega)
theorem fit_0{m:List (List jO)}{n:Nat}(h:(((((m.length:Nat):Int) != ((n:Nat):Int))||((((m.getD 0 []).length:Nat):Int) != ((n:Nat):Int))))=false):m.length=n∧(m.getD 0 []).length=n:=by
 rw[Bool.or_eq_false_iff,bne_eq_false_iff_eq,bne_eq_false_iff_eq] at h
 omega
theorem fit_11{m:List (List jO)}{n:Nat}(h:m.length=n∧(m.getD 0 []).length=n)(hs:symB m=false):mW m n=11:=by
 unfold mW;rw[if_neg (by omega),hs];rfl
theorem fit_ok{m:List (List jO)}{n:Nat}(h:m.length=n∧(m.getD 0 []).length=n)(hs:symB m=true):mW m n=0:=by
 unfold mW;rw[if_neg (by omega),hs];rfl
theorem fit_of{m:List (List jO)}{n:Nat}(h:mW m n=0):m.length=n∧(m.getD 0 []).length=n∧symB m=true:=by
 unfold mW at h
 split at h
 ·cases h
 ·rename_i h1
  cases hs:symB m with
  |false=>rw[hs] at h;cases h
  |true=>exact ⟨by omega,by omega,rfl⟩
def qW(xs:List Rat)(t:List kN):List jO:=(xQ (xs.map gD) t).g.map fun y=>jP y.1
def gF(q:List (List jO))(gs:List (List jO)):List (List jO):=gs.map fun a=>gs.map fun b=>jP (xU q a b)
theorem gr_step{G:List R2}{i:Nat}(h:i<G.length):(G.take i).map (fun y=>jP y.1)++[jP (G.getD i z2).1]=(G.take (i+1)).map (fun y=>jP y.1):=by
 rw[List.take_succ_eq_append_getElem h,List.map_append,List.getD_eq_getElem?_getD,List.getElem?_eq_getElem h];rfl
theorem qZ{xs:List Rat}{t:List kN}(h:fH (xs.map gD) t):(qW xs t).length=xs.length:=by
 unfold qW
 rw[List.length_map,h.last.2.2,List.length_map]
theorem yT{xs:List Rat}{t:List kN}(h:fH (xs.map gD) t):uY 1048576 (qW xs t):=by
 have hl:=h.last
 refine ⟨fun a ha=>?_,?_⟩
 ·unfold qW at ha
  obtain ⟨y,hy,rfl⟩:=List.mem_map.1 ha
  rw[gU]
  exact kC (hl.2.1 y hy).1
 ·rw[qZ h]
  have:=(fF h.c0).2.1
  rw[List.length_map] at this;omega
theorem grQ_v{xs:List Rat}{t:List kN}:gY (qW xs t)=true:=by
 unfold gY qW
 rw[List.all_eq_true]
 intro a ha
 obtain ⟨r,h1,rfl⟩:=List.mem_map.1 ha
 exact cF _
theorem dot_sk{a b:Rat}(h:((nI a != 0)&&(nI b != 0))=false):a=0∨b=0:=by
 rw[Bool.and_eq_false_iff,bne_eq_false_iff_eq,bne_eq_false_iff_eq] at h
 rcases h with h | h
 ·exact .inl (fG.1 h)
 ·exact .inr (fG.1 h)
theorem mcol_le{m:List (List jO)}{v:List jO}(h:∀ r∈m,r.length=v.length)(hv:v.length≤64):∀ r∈m,r.length≤64:=fun r hr=>by have:=h r hr;omega
theorem mcol_at{m:List (List jO)}{v:List jO}(h:∀ r∈m,r.length=v.length){i:Nat}(hi:i<m.length):(m.getD i []).length=v.length:=by
 rw[List.getD_eq_getElem?_getD,List.getElem?_eq_getElem hi];exact h _ (List.getElem_mem _)
theorem rect_chk{m:List (List jO)}{r c:Nat}(h:gQ m r c):nZ m=0:=by
 have h1:=h.hr;have h2:=h.r1;have h3:=h.r64;have h4:=h.c1;have h5:=h.c64
 have h0:=(h.at (i:=0) h2).1
 refine mchk_3 ?_ ?_
 ·unfold shpB
  simp only[Bool.or_eq_false_iff,decide_eq_false_iff_not]
  omega
 ·rw[List.any_eq_false]
  intro l hl
  obtain ⟨q1,q2⟩:=h.hc l hl
  unfold gZ
  rw[Bool.not_eq_true,Bool.or_eq_false_iff,Bool.not_eq_false',bne_eq_false_iff_eq]
  exact ⟨by omega,q2⟩
theorem ql_getD{xs:List Rat}{n:Nat}(h:∀ q∈xs,QL q n)(h1:1≤n)(j:Nat):QL (xs.getD j 0) n:=by
 rcases Nat.lt_or_ge j xs.length with hj | hj
 ·rw[List.getD_eq_getElem?_getD,List.getElem?_eq_getElem hj];exact h _ (List.getElem_mem _)
 ·rw[List.getD_eq_getElem?_getD,List.getElem?_eq_none (by omega)];exact vR mJ h1
theorem pts_row{xs:List Rat}{n:Nat}(h:∀ q∈xs,QL q n)(hl:xs.length≤1000000):uY n (List.map jP xs):=by
 refine ⟨fun a ha=>?_,by rw[List.length_map];omega⟩
 obtain ⟨q,hq,rfl⟩:=List.mem_map.1 ha
 rw[gU];exact kC (h q hq)
theorem pts_gl{xs:List Rat}{n:Nat}(h:∀ q∈xs,QL q n):∀ y∈List.map gD xs,GL n y:=fun y hy=>by
 obtain ⟨q,hq,rfl⟩:=List.mem_map.1 hy
 exact gl_pt (h q hq)
theorem dJ{α β:Type}{f:α→β}{l:List α}{d:α}{i:Nat}(h:i<l.length):(l.take i).map f++[f (l.getD i d)]=(l.take (i+1)).map f:=by
 rw[List.take_succ_eq_append_getElem h,List.map_append,List.getD_eq_getElem?_getD,List.getElem?_eq_getElem h];rfl
theorem cmpQ_zero{a b:Rat}:yW a b=0↔a=b:=by
 rw[← signQ_sub]
 show qY (a-b).num=0↔_
 rw[fG]
 constructor
 ·intro h;grind
 ·intro h;grind
theorem eqm_s{m:List (List jO)}{i j:Nat}(h:∀ b,b<j→eqM m i b=true)(hc:yW (qJ ((m.getD i []).getD j zr)) (qJ ((m.getD j []).getD i zr))=0):∀ b,b<j+1→eqM m i b=true:=fun b hb=>by
 rcases Nat.lt_or_ge b j with h1 | h1
 ·exact h b h1
 ·obtain rfl:b=j:=by omega
  exact decide_eq_true (cmpQ_zero.1 hc)
theorem eqm_f{m:List (List jO)}{i j:Nat}(hc:yW (qJ ((m.getD i []).getD j zr)) (qJ ((m.getD j []).getD i zr))≠0):eqM m i j=false:=decide_eq_false fun h=>hc (cmpQ_zero.2 h)
theorem tms_at{N:Nat}{ts:List (List kN)}(h:∀ t∈ts,∀ x∈t,mN x.n (qJ x.n) N)(i:Nat):∀ x∈ts.getD i [],mN x.n (qJ x.n) N:=by
 rcases Nat.lt_or_ge i ts.length with hj | hj
 ·rw[List.getD_eq_getElem?_getD,List.getElem?_eq_getElem hj];exact h _ (List.getElem_mem _)
 ·rw[List.getD_eq_getElem?_getD,List.getElem?_eq_none (by omega)];intro x hx;simp at hx
theorem tms_one{N:Nat}{t:List kN}(h:∀ x∈t,mN x.n (qJ x.n) N):∀ u∈[t],∀ x∈u,mN x.n (qJ x.n) N:=fun u hu=>by
 rw[List.mem_singleton] at hu;subst hu;exact h
theorem tms_jr{bx:List R2}{ts:List (List kN)}(h:∀ t∈ts,fH bx t){i:Nat}(hi:i<ts.length):fH bx (ts.getD i []):=by
 rw[List.getD_eq_getElem?_getD,List.getElem?_eq_getElem hi];exact h _ (List.getElem_mem _)
theorem tms_c0{xs:List Rat}{ts:List (List kN)}(h:∀ t∈ts,fH (List.map gD xs) t){i:Nat}(hi:i<ts.length):mP ((xs.length:Nat):Int) (ts.getD i [])=0:=by
 have:=(tms_jr h hi).c0
 rwa [List.length_map] at this
theorem grs_ok{xs:List Rat}{ts:List (List kN)}(h:∀ t∈ts,fH (List.map gD xs) t)(hl:ts.length≤64):xG 1048576 (List.map (qW xs) ts):=by
 refine ⟨fun r hr=>?_,by rw[List.length_map];omega⟩
 obtain ⟨t,ht,rfl⟩:=List.mem_map.1 hr
 exact yT (h t ht)
theorem rect_0{m:List (List jO)}{r c:Nat}(h:gQ m r c):gQ m m.length (m.getD 0 []).length:=by
 have h1:=h.hr
 have h0:=(h.at (i:=0) h.r1).1
 rw[h0]
 exact ⟨rfl,h.hc,by have:=h.r1;omega,by have:=h.r64;omega,h.c1,h.c64⟩
theorem grs_at{xs:List Rat}{ts:List (List kN)}(h:∀ t∈ts,fH (List.map gD xs) t){i:Nat}(hi:i<(List.map (qW xs) ts).length):((List.map (qW xs) ts).getD i []).length=xs.length∧gY ((List.map (qW xs) ts).getD i [])=true:=by
 rw[List.length_map] at hi
 rw[List.getD_eq_getElem?_getD,List.getElem?_map,List.getElem?_eq_getElem hi]
 exact ⟨qZ (h _ (List.getElem_mem _)),grQ_v⟩
theorem one_of{α:Type}{P:α→Prop}{x:α}(h:P x):∀ u∈[x],P u:=fun u hu=>by rw[List.mem_singleton] at hu;subst hu;exact h
theorem sq2_nn(a b:Rat):0≤a*a+b*b:=Rat.add_nonneg (rat_sq a) (rat_sq b)
theorem mem_at{α:Type}{P:List α→Prop}{ts:List (List α)}(h:∀ t∈ts,P t){i:Nat}(hi:i<ts.length):P (ts.getD i []):=by
 rw[List.getD_eq_getElem?_getD,List.getElem?_eq_getElem hi];exact h _ (List.getElem_mem _)
end Go.Proofs.YtnajallgoaiahaaGreatDoor
namespace Go.Fid
open Go.RowKit (Below)
section
variable {P:Program} {o:Oper} {S:Nat→SV}
theorem e_mkf{f:FuncId}{ks:List Nat}{caps:List Operand}(ho:o.op=.makeFunc (.func f) #[] caps.toArray)(hx:caps.map (ev S)=ks.map (fun k=>.ref k 0)):uN P o S [] (.clo f ks) :=
 uN.same fun a w D β hop _=>by
  refine ⟨.func (.func f) #[] (caps.map a.eval).toArray,?_,caps.map a.eval,rfl,?_,fun i k hk=>?_⟩
  ·simp only[execOp,ho,Instr.makeFunc,Array.map_empty,List.map_toArray,Sem.run_bind,Sem.run_pure,Result.andThen_ok]
   rfl
  ·simpa using congrArg List.length hx
  ·have hi:=congrArg (fun l:List SV=>l[i]?) hx
   simp only[List.getElem?_map,hk,Option.map_some,Option.map_eq_some_iff] at hi
   obtain ⟨c,hc,e⟩:=hi
   have hm:=hop c (by simp [ho,Op.operands,List.mem_of_getElem? hc])
   rw[e] at hm
   obtain ⟨b,h1,h2⟩:=hm
   exact ⟨b,h1,by rw[List.getElem?_map,hc,Option.map_some,h2]⟩
theorem e_clc{y:Operand}{xs:List Operand}{ats:Array TypeId}{f:FuncId}{ds:List jT}{r:jT}{ks:List Nat}{css:List (List jT)}{E:TypeId}{rd:List (Nat × List SV)}
  (hf:jQ P f (ds++css.map (fun cs=>.cptr E cs 0)) r) (ho:o.op=.call { callee:=.value y,args:=xs.toArray,argTypes:=ats }) (hy:ev S y=.clo f ks) (hx:xs.map (ev S)=ds.map .d)
  (hrk:rd=ks.zip (css.map (fun cs=>cs.map SV.d))) (qU:css.length=ks.length) (ha:yC E r):uN P o S rd (.d r) :=
 fun a w D β Q hop hrd hD=>by
  have hyv:=hop y (by simp [ho,Op.operands,Call.operands])
  rw[hy] at hyv
  obtain ⟨vs,hv1,hv2,hv3⟩:=hyv
  have hl:xs.length=ds.length:=by simpa using congrArg List.length hx
  have hargs0:Args w D (xs.map a.eval) ds:=by
   refine ⟨by simpa using hl,fun i v d hv hd=>?_⟩
   rw[List.getElem?_map,Option.map_eq_some_iff] at hv
   obtain ⟨x,hxi,rfl⟩:=hv
   have hm:=hop x (by simp [ho,Op.operands,Call.operands,List.mem_of_getElem? hxi])
   have hi:=congrArg (fun l:List SV=>l[i]?) hx
   simp only[List.getElem?_map,hxi,hd,Option.map_some,Option.some.injEq] at hi
   rw[hi] at hm
   exact hm
  have hrun:(execOp a.eval o).run P w=.ok (.enter f (xs.map a.eval++vs).toArray) w:=by
   simp only[execOp,ho,resolve,Deferred.ofValue,hv1,Sem.run_bind,Sem.run_pure,Result.andThen_ok,invoke,Array.empty_append]
   rw[vF hf.may]
   simp
  -- the private variables are published for the time of the call
  let X:TypeId→Nat→Nat→Prop:=fun t g _=>t=E∧∃ k∈ks,β k=some g
  have hblk:∀ (i:Nat) k cs,ks[i]?=some k→css[i]?=some cs→uO w D β k (cs.map SV.d):=fun i k cs hk hc=>by
   refine hrd (k,cs.map SV.d) ?_
   rw[hrk]
   refine List.mem_of_getElem? (i:=i) ?_
   rw[List.getElem?_zip_eq_some]
   exact ⟨hk,by rw[List.getElem?_map,hc];rfl⟩
  have hcap:∀ (i:Nat) k cs,ks[i]?=some k→css[i]?=some cs→∃ b us T',β k=some b∧vs[i]?=some (.pointer (some ⟨b,0,none⟩))∧w.heap[b]?=some (.cells us T' (0,0)) ∧
    (∀ (j:Nat) x,(cs.map SV.d)[j]?=some x→∃ u,us[j]?=some u∧u.oneCell'=true∧qC w D β u x)∧∀ t o,¬ D t b o:=fun i k cs hk hc=>by
   obtain ⟨b,h1,h2⟩:=hv3 i k hk
   rcases hblk i k cs hk hc with ⟨g1,_⟩ | ⟨b',us,T',g1,g2,g3,g4,g5⟩
   ·rw[h1] at g1;cases g1
   ·obtain rfl:b=b':=by rw[h1] at g1;injection g1
    exact ⟨b,us,T',h1,h2,g2,g4,g5⟩
  have hXb:∀ t g i,X t g i→(∀ t' i',¬ D t' g i')∧g<w.heap.size:=fun t g i ⟨_,k,hk,hb⟩=>by
   obtain ⟨i,hi⟩:=List.getElem?_of_mem hk
   have hlt:i<css.length:=by rw[qU];exact (List.getElem?_eq_some_iff.1 hi).1
   obtain ⟨b,us,T',h1,_,h3,_,h5⟩:=hcap i k _ hi (List.getElem?_eq_getElem hlt)
   obtain rfl:g=b:=by rw[hb] at h1;injection h1
   exact ⟨fun t' i'=>h5 t' i',uE h3⟩
  have hD':DOk (fun t g i=>D t g i∨X t g i) w:=fun t g i hd=>by
   rcases hd with hd | hd
   ·exact hD _ _ _ hd
   ·exact (hXb t g i hd).2
  have hmono:∀ t' g i,D t' g i→(D t' g i∨X t' g i)∧w.cell? ⟨g,i,none⟩=w.cell? ⟨g,i,none⟩:=fun t' g i hd=>⟨.inl hd,rfl⟩
  have hargs:Args w (fun t g i=>D t g i∨X t g i) (xs.map a.eval++vs) (ds++css.map (fun cs=>.cptr E cs 0)):=by
   refine ⟨by simp [hl,hv2,qU],fun i v d hv hd=>?_⟩
   by_cases hi:i<xs.length
   ·rw[List.getElem?_append_left (by simpa using hi)] at hv
    rw[List.getElem?_append_left (by omega)] at hd
    exact uW.mono hmono (hargs0.2 i v d hv hd)
   ·rw[List.getElem?_append_right (by simpa using hi),List.length_map] at hv
    rw[List.getElem?_append_right (by omega),← hl] at hd
    rw[List.getElem?_map,Option.map_eq_some_iff] at hd
    obtain ⟨cs,hcs,rfl⟩:=hd
    have hlt:i-xs.length<ks.length:=by rw[← qU];exact (List.getElem?_eq_some_iff.1 hcs).1
    obtain ⟨b,us,T',h1,h2,h3,h4,h5⟩:=hcap _ _ cs (List.getElem?_eq_getElem hlt) hcs
    rw[h2] at hv
    injection hv with hv
    subst hv
    have hcell:∀ j,w.cell? ⟨b,j,none⟩=us[j]?:=fun j=>cell_of_row w b j us T' (0,0) h3
    have hj:∀ j,j<cs.length→∃ u,us[j]?=some u∧u.oneCell'=true∧uW w D u (cs[j]?.getD (.tup [])):=fun j hj=>by
     obtain ⟨u,q1,q2,q3⟩:=h4 j (.d cs[j]) (by rw[List.getElem?_map,List.getElem?_eq_getElem hj];rfl)
     exact ⟨u,q1,q2,by rw[List.getElem?_eq_getElem hj];exact q3⟩
    refine uW.cptr (off:=0) b 0 (fun j=>us.getD j undef) (fun j _=>.inr ⟨rfl,_,List.getElem_mem hlt,h1⟩) (fun j hj'=>?_) (fun j hj'=>?_) (fun j d hd=>?_)
    ·obtain ⟨u,q1,_,_⟩:=hj j hj'
     rw[Nat.zero_add,hcell,Array.getD_eq_getD_getElem?,q1];rfl
    ·obtain ⟨u,q1,q2,_⟩:=hj j hj'
     rw[Array.getD_eq_getD_getElem?,q1];exact q2
    ·obtain ⟨u,q1,q2,q3⟩:=hj j (List.getElem?_eq_some_iff.1 hd).1
     rw[Array.getD_eq_getD_getElem?,q1]
     rw[hd] at q3
     exact uW.mono hmono q3
  refine nO hrun ((hf.run w _ _ hD' hargs).mono fun e w' h=>?_)
  obtain ⟨v,D2,he,h1,h2,h3⟩:=h
  refine ⟨v,he,v,fun t g i=>D2 t g i∧¬ X t g i,rfl,h1,⟨fun t g i hd=>⟨h2.up _ _ _ (.inl hd),fun hx'=>(hXb t g i hx').1 t i hd⟩,fun t g i hd=>?_⟩,?_⟩
  ·rcases h2.new t g i hd.1 with h | h
   ·rcases h with h | h
    ·exact .inl h
    ·exact absurd h hd.2
   ·exact .inr h
  ·exact ha.rep (fun t g i hne hd=>⟨hd,fun hx'=>hne hx'.1⟩) h3
theorem oMf{f:FuncId}{caps:List Operand}(ks:List Nat)(ho:o.op=.makeFunc (.func f) #[] caps.toArray:=by exact rfl)(hx:caps.map (ev S)=ks.map (fun k=>.ref k 0):=by kernel_rfl):uN P o S [] (.clo f ks):=e_mkf ho hx
end
def RKs(P:Program)(o:Oper)(S:SL)(B:BS)(ks:List Nat)(x:SV):Prop:=∃ rd:List (Nat × List SV),rd.map (·.1)=ks∧uN P o (kI S) rd x∧∀ p∈rd,kB B p.1=some p.2
theorem oCc{P:Program}{o:Oper}{S:SL}{B:BS}{y:Operand}{xs:List Operand}{ats:Array TypeId}{f:FuncId}{ds:List jT}{r:jT}(ks:List Nat)(css:List (List jT))
  (hf:jQ P f (ds++css.map (fun cs=>.cptr 1000000 cs 0)) r) (ha:yC 1000000 r) (ho:o.op=.call { callee:=.value y,args:=xs.toArray,argTypes:=ats }:=by exact rfl) (hy:ev (kI S) y=.clo f ks:=by kernel_rfl) (hx:xs.map (ev (kI S))=ds.map .d:=by kernel_rfl)
  (qU:Nat.beq css.length ks.length=true:=by kernel_rfl) (hb:ks.map (fun k=>kB B k)=css.map (fun cs=>some (cs.map SV.d)):=by kernel_rfl):RKs P o S B ks (.d r):=by
 have qU:=Nat.eq_of_beq_eq_true qU
 refine ⟨ks.zip (css.map (fun cs=>cs.map SV.d)),?_,e_clc hf ho hy hx rfl qU ha,fun p hp=>?_⟩
 ·rw[List.map_fst_zip];simp [qU]
 ·obtain ⟨i,hi⟩:=List.getElem?_of_mem hp
  rw[List.getElem?_zip_eq_some] at hi
  have h1:=congrArg (fun l:List (Option (List SV))=>l[i]?) hb
  simp only[List.getElem?_map,hi.1,Option.map_some] at h1
  have h2:=hi.2
  rw[List.getElem?_map,Option.map_eq_some_iff] at h2
  obtain ⟨cs,hc,e⟩:=h2
  rw[hc] at h1
  simp only[Option.map_some,Option.some.injEq] at h1
  rw[h1,e]
section
variable {P:Program} {n:Fr} {ops:Array Oper} {K:SL→BS→Prop} {S:SL} {B:BS} {l:List Oper} {o:Oper} {news:List Nat} {acc0:List (List Nat × List Nat)}
theorem zC{ks:List Nat}{x:SV}(h:RKs P o S B ks x)(r:SK P n ops K ((dO o,x)::S) B l)(g:goK n ops S o=true:=by kernel_rfl):SK P n ops K S B (o::l):=by
 obtain ⟨st1,r1,r2⟩:=r
 obtain ⟨rd,_,h,hbk⟩:=h
 obtain ⟨hd,hg,hb⟩:=yE g
 have hs:=Step.e (P:=P) (n:=n) (ops:=ops) (st:=⟨S,B⟩) (o:=o) h hg (by rw[hd];exact hb) hbk
 rw[hd] at hs
 exact ⟨st1,.cons hs r1,r2⟩
theorem wC{ks:List Nat}{x:SV}(h:RKs P o S B ks x)(r:DK P n ops K news (acc0++[(ks,[])]) ((dO o,x)::S) B l)(g:goK n ops S o=true:=by kernel_rfl)(hn:clearR ops S o news x=true:=by kernel_rfl):DK P n ops K news acc0 S B (o::l):=by
 obtain ⟨st1,acc,r1,r0,r2⟩:=r
 obtain ⟨rd,hk,h,hbk⟩:=h
 obtain ⟨hd,hg,hb⟩:=yE g
 have hs:=mD.e (P:=P) (n:=n) (ops:=ops) (news:=news) (st:=⟨S,B⟩) (o:=o) h hg (by rw[hd];exact hb) hbk hn
 rw[hd,hk] at hs
 exact ⟨st1,(ks,[])::acc,.cons hs r1,by simpa using r0,r2⟩
end
end Go.Fid
