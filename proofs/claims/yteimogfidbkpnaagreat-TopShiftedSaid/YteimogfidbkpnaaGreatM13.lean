/- Part 13 of a proof: rules, plain facts, and functions walked. -/
import Derived.Test.YteimogfidbkpnaaGreatM12
import Derived.Test.YteimogfidbkpnaaGreatM7
import Derived.Test.YteimogfidbkpnaaGreatM10
set_option linter.all false
namespace Go.Fid
theorem ownCell{S:SL}{B:BS}{j:Nat}{cs:List SV}(i k E s:Nat)(hj:kD B j=some cs)(hi:cs[i]?=some (.d (.val (.slice none 0 0))))(hf:yD k ⟨S,B⟩=true) :
  kB ⟨S,B⟩ ⟨S,(j,some (cs.set i (.own k E s 0)))::(k,some [])::B⟩:=fun C a w ⟨D,β,hs⟩=>by
 have hβ:∀ q,q≠k→(fun q=>if q=k then none else β q:qD) q=β q:=fun q hq=>by simp [hq]
 have hβ0:(fun q=>if q=k then none else β q:qD) k=none:=by simp
 generalize (fun q=>if q=k then none else β q:qD)=β' at hβ hβ0
 obtain ⟨hjk,hnm⟩:=eL hf hj
 have conv:∀ {q c},q≠k→kD ((j,some (cs.set i (SV.own k E s 0)))::(k,some [])::B) q=some c→∃ c',kD B q=some c':=fun {q c} hne hq=>by
  rw[jK] at hq
  split at hq
  ·rename_i e;subst e;exact ⟨_,hj⟩
  ·rw[jK,if_neg (fun e=>hne e.symm)] at hq;exact ⟨_,hq⟩
 refine ⟨D,β',hs.base,⟨fun q c hq=>?_,fun i1 i2 c1 c2 q1 q2 b e1 e2=>?_⟩,fun q c hq b e=>?_,fun t=>(hs.slots t).frame hβ (fE hf t)⟩
 ·rw[jK] at hq
  split at hq
  ·rename_i e;subst e
   injection hq with hq;subst hq
   rcases hs.mem.ok _ cs hj with ⟨h1,h2⟩ | ⟨b,vs,T,h1,h2,h3,h4,h5⟩
   ·rw[h2] at hi;simp at hi
   ·refine .inr ⟨b,vs,T,(hβ _ hjk).trans h1,h2,by simpa using h3,fun q x hx=>?_,h5⟩
    rw[List.getElem?_set] at hx
    split at hx
    ·rename_i e;subst e
     split at hx
     ·injection hx with hx;subst hx
      obtain ⟨u,e1,e2,e3⟩:=h4 i _ hi
      exact ⟨u,e1,e2,.inl ⟨hβ0,rfl,uF e3⟩⟩
     ·cases hx
    ·obtain ⟨u,e1,e2,e3⟩:=h4 q x hx
     exact ⟨u,e1,e2,e3.frame hβ (names_get hnm hx)⟩
  ·rw[jK] at hq
   split at hq
   ·rename_i e;subst e
    injection hq with hq;subst hq
    exact .inl ⟨hβ0,rfl⟩
   ·obtain ⟨g1,g2⟩:=eL hf hq
    exact (hs.mem.ok q c hq).frame hβ g1 g2
 ·have n1:i1≠k:=fun e=>by rw[e,hβ0] at e1;cases e1
  have n2:i2≠k:=fun e=>by rw[e,hβ0] at e2;cases e2
  obtain ⟨d1,g1⟩:=conv n1 q1
  obtain ⟨d2,g2⟩:=conv n2 q2
  exact hs.mem.inj i1 i2 d1 d2 g1 g2 b ((hβ _ n1).symm.trans e1) ((hβ _ n2).symm.trans e2)
 ·have n1:q≠k:=fun e'=>by rw[e',hβ0] at e;cases e
  obtain ⟨d,g⟩:=conv n1 hq
  exact hs.high q d g b ((hβ _ n1).symm.trans e)
theorem pwp_own{P:Program}{n:Fr}{c:Code}{Q:Exit→PS→Prop}{S:SL}{B:BS}(j i k E s:Nat){cs:List SV}(hj:kD B j=some cs:=by kernel_rfl)(hi:cs[i]?=some (.d (.val (.slice none 0 0))):=by kernel_rfl)(h1:(S.all fun p=>!p.2.names k)=true:=by kernel_rfl)
  (h2:FrB k B:=by repeat first | exact frb_nil _ | refine frb_map rfl ?_ | refine frb_d rfl ?_ | refine frb_cs rfl rfl ?_ | refine frb_none rfl ?_) (h:qS P n c Q ⟨S,(j,some (cs.set i (.own k E s 0)))::(k,some [])::B⟩):qS P n c Q ⟨S,B⟩ :=
 kE (ownCell i k E s hj hi (freshB_of h1 h2)) h
section
variable {P:Program} {n:Fr} {ops:Array Oper} {K:SL→BS→Prop} {S:SL} {B:BS} {l:List Oper} {o:Oper} {α:Type} {T E t':TypeId} {x y:Operand} {k s m bytes:Nat} {zv:List Value}
theorem oSx{k j E s N off:Nat}{old:List SV}(hs:kZ P T=some (false,1))(ho:o.op=.store T x y:=by exact rfl)(hx:ev (jW S) x=.ref k off:=by exact rfl)(hy:ev (jW S) y=.own j E s N:=by exact rfl)(hb:kD B k=some old:=by exact rfl)(hle:Nat.ble (off+1) old.length=true:=by kernel_rfl):TK P o S B k (patch old off [.own j E s N]) :=
 ⟨_,t_store ho hx hy hs (.inr ⟨⟨j,E,s,N,rfl⟩,rfl⟩) rfl (Nat.le_of_ble_eq_true hle),hb⟩
variable {news:List Nat} {acc0:List (List Nat × List Nat)}
theorem wA(k':Nat)(F:α→jQ)(L L':List α)(hL:L.length=m)(hT:uW P T=some (E,1))(hz:uL P E=some zv)(hby:xK P E=some bytes)(r:DK P n ops K (k'::news) (acc0++[([k],[k',k])]) ((dO o,.own k' E 1 (L++L').length)::S) ((k',some ((L++L').map (fun g=>SV.d (F g))))::(k,none)::B) l)
  (ho:o.op=.call { callee:=.builtin .append,args:=#[x,y],argTypes:=#[T,T] }:=by exact rfl) (g:goK n ops S o=true:=by kernel_rfl) (hx:ev (jW S) x=.own k E 1 m:=by exact rfl) (hb:kD B k=some (L.map (fun g=>SV.d (F g))):=by kernel_rfl) (hy:ev (jW S) y=.d (.sl t' 1 (L'.map F)):=by exact rfl) (hF:∀ g,(F g).cells=[F g]:=by intro g;kernel_rfl) (hzl:zv.length=1:=by kernel_rfl)
  (hpos:Nat.blt 0 L'.length=true:=by kernel_rfl) (hbig:m+L'.length≤maxLen:=by first | (simp only[List.length_cons,List.length_nil,maxLen];omega) | (simp [maxLen];omega)) (hbig':(m+L'.length)*bytes≤140737488355328:=by first | omega | (simp only[List.length_cons,List.length_nil];omega) | (simp;omega))
  (hne:Nat.beq k k'=false:=by kernel_rfl) (h1:(S.all fun p=>!p.2.names k')=true:=by kernel_rfl)
  (h2:FrB k' B:=by repeat first | exact frb_nil _ | refine frb_map rfl ?_ | refine frb_d rfl ?_ | refine frb_cs rfl rfl ?_ | refine frb_none rfl ?_) (hn:clear1 news (.own k' E 1 0)=true:=by kernel_rfl):DK P n ops K news acc0 S B (o::l):=by
 obtain ⟨st1,acc,r1,r0,r2⟩:=r
 obtain ⟨hd,hg,hdB⟩:=yW g
 have h:=app_local (P:=P) (o:=o) (S:=jW S) (k:=k) (k':=k') (cs:=L.map (fun g=>SV.d (F g))) (es':=L'.map F) ho hT hz hzl hby hx (yT k' F L) (by rw[List.length_map,hL,Nat.mul_one]) hy (by rw[List.length_map];exact Nat.le_of_ble_eq_true hpos) (by simpa using hbig) (by simpa using hbig')
 have e1:(L.map (fun g=>SV.d (F g)))++(qA (L'.map F)).map .d=(L++L').map (fun g=>SV.d (F g)):=by rw[flat_one F hF,List.map_map,List.map_append];rfl
 have e2:m+(L'.map F).length=(L++L').length:=by rw[List.length_map,List.length_append,hL]
 rw[e1,e2] at h
 have hs:=gY.a (P:=P) (n:=n) (ops:=ops) (news:=news) (st:=⟨S,B⟩) (o:=o) h hg (by rw[hd];exact hdB) hb (freshB_of h1 h2) (fP hne) hn (cT _ _ _)
 rw[hd] at hs
 exact ⟨st1,([k],[k',k])::acc,.cons hs r1,by simpa using r0,r2⟩
end
def swN(k k' j:Nat):Nat:=bif Nat.beq j k then k' else j
def SV.sw(k k':Nat):SV→SV
 |.ref j o=>.ref (swN k k' j) o
 |.own j t s n=>.own (swN k k' j) t s n
 |.view j o n=>.view (swN k k' j) o n
 |.clo f ks=>.clo f (ks.map (swN k k'))
 |.pr j t s n x=>.pr (swN k k' j) t s n x
 |.refx j o b=>.refx (swN k k' j) o b
 |.bnd f j o=>.bnd f (swN k k' j) o
 |.ownx j t s n u=>.ownx (swN k k' j) t s n u
 |x=>x
theorem swN_eq(k k':Nat):swN k k' k=k':=by simp [swN]
theorem swN_ne{k k' j:Nat}(h:j≠k):swN k k' j=j:=by
 have:Nat.beq j k=false:=by rw[← Bool.not_eq_true];exact fun e=>h (Nat.eq_of_beq_eq_true e)
 simp [swN,this]
theorem qG.sw{w:World}{D:qE}{β:qD}{k k':Nat}{v:Value}{x:SV}(h:qG w D β v (x.sw k k')):qG w D (fun j=>β (swN k k' j)) v x:=by
 cases x with
 |d x=>exact h
 |ref j o=>exact h
 |own j t s n=>exact h
 |clo f ks=>
  obtain ⟨vs,h1,h2,h3⟩:=h
  exact ⟨vs,h1,by simpa using h2,fun i j hj=>h3 i (swN k k' j) (by rw[List.getElem?_map,hj];rfl)⟩
 |emp=>exact h
 |view j o n=>exact h
 |hob u b ob=>exact h
 |pr j t s n x=>exact h
 |refx j o b=>exact h
 |bnd f j o=>exact h
 |ownx j t s n u=>exact h
 |junk=>trivial
theorem sw_of{k k':Nat}{x:SV}(h:x.names k=false):x.sw k k'=x:=by
 have key:∀ j,Nat.beq k j=false→swN k k' j=j:=fun j hj=>swN_ne (fun e=>by subst e;simp at hj)
 cases x with
 |ref j o=>simp only[SV.sw];rw[key j h]
 |own j t s n=>simp only[SV.sw];rw[key j h]
 |view j o n=>simp only[SV.sw];rw[key j h]
 |clo f ks=>
  simp only[SV.sw]
  simp only[SV.names,List.any_eq_false] at h
  have:ks.map (swN k k')=ks:=by
   conv=>rhs;rw[← List.map_id ks]
   exact List.map_congr_left fun j hj=>key j (by rw[← Bool.not_eq_true];exact h j hj)
  rw[this]
 |d x=>rfl
 |emp=>rfl
 |hob u b ob=>rfl
 |pr j t s n x=>simp only[SV.sw];rw[key j h]
 |refx j o b=>simp only[SV.sw];rw[key j h]
 |bnd f j o=>simp only[SV.sw];rw[key j h]
 |ownx j t s n u=>simp only[SV.sw];rw[key j h]
 |junk=>rfl
open Go.RowKit (Below)
section
variable {P:Program}
end
section
variable {P:Program} {o:Oper} {S:Nat→SV}
end
section
variable {P:Program}
end
section
variable {P:Program} {o:Oper} {S:Nat→SV}
end
inductive LOk (n:Nat):List kM→List Int→Prop
 |nil:LOk n [] []
 |cons {x:kM} {z:Int} {l:List kM} {zs:List Int} (h:gU x z n) (t:LOk n l zs):LOk n (x::l) (z::zs)
theorem iok_nilN(n:Nat):gU ⟨false,[]⟩ 0 n:=⟨by decide,Nat.zero_le _⟩
theorem LOk.len{n:Nat}{l:List kM}{zs:List Int}(h:LOk n l zs):l.length=zs.length:=by
 induction h with
 |nil=>rfl
 |cons h t ih=>simp [ih]
theorem LOk.get{n:Nat}{l:List kM}{zs:List Int}(h:LOk n l zs)(i:Nat):gU (l.getD i ⟨false,[]⟩) (zs.getD i 0) n:=by
 induction h generalizing i with
 |nil=>exact iok_nilN n
 |cons h t ih=>
  rcases i with _ | i
  ·exact h
  ·exact ih i
theorem LOk.all{n:Nat}{l:List kM}{zs:List Int}(h:LOk n l zs):∀ z∈zs,hZ z≤n:=by
 induction h with
 |nil=>simp
 |cons h t ih=>
  intro z hz
  rcases List.mem_cons.1 hz with rfl | hz
  ·exact h.ln
  ·exact ih z hz
theorem LOk.up{m n:Nat}{l:List kM}{zs:List Int}(h:LOk m l zs)(hm:m≤n):LOk n l zs:=by
 induction h with
 |nil=>exact .nil
 |cons h t ih=>exact .cons (nD h hm) ih
def gcdL(zs:List Int):Nat:=zs.foldl (fun d z=>Int.gcd d z) 0
def sgnL:List Int→Int
 |[]=>0
 |z::r=>if z=0 then sgnL r else qQ z
def dvL(zs:List Int):Int:=if sgnL zs<0 then -((gcdL zs:Nat):Int) else ((gcdL zs:Nat):Int)
theorem signI_ne{z:Int}(h:z≠0):qQ z≠0:=by
 unfold qQ;split<;>(try split)<;>omega
theorem LOk.map{n:Nat}{l:List kM}{zs:List Int}(h:LOk n l zs):l.map jO=zs:=by
 induction h with
 |nil=>rfl
 |cons h t ih=>rw[List.map_cons,ih,h.v]
theorem all_nil{l:List kM}(h:∀ x∈l,x=kM.mk false [])(i:Nat):l.getD i (kM.mk false [])=kM.mk false []:=by
 rw[List.getD]
 cases hj:l[i]? with
 |none=>rfl
 |some q=>exact h q (List.mem_of_getElem? hj)
def kS(a b c x y z:Rat):Rat:=a*x+b*y+c*z
theorem dot3_eq(a b c x y z:Rat):kS a b c x y z=(((0:Int):Rat)+a*x+b*y+c*z):=by
 unfold kS;rw[Rat.intCast_zero,Rat.zero_add]
theorem xJ{a b c x y z:Rat}{n k:Nat}(h1:QL a n)(h2:QL b n)(h3:QL c n)(h4:QL x n)(h5:QL y n)(h6:QL z n)(hk:6*n+2≤k):QL (kS a b c x y z) k:=by
 unfold kS
 exact fA (fA (kR h1 h4 (Nat.le_refl _)) (kR h2 h5 (Nat.le_refl _)) (Nat.le_refl _)) (kR h3 h6 (Nat.le_refl _)) (by omega)
def mN(a b c d:Int):Nat:=if a=0∧b=0∧c=0∧d=0 then 1 else if (-1048576≤a∧a≤1048576)∧(-1048576≤b∧b≤1048576)∧(-1048576≤c∧c≤1048576)∧(-1048576≤d∧d≤1048576) then 0 else 3
theorem rotC_z{a b c d:Int}(h:a=0∧b=0∧c=0∧d=0):mN a b c d=1:=if_pos h
theorem rotC_l{a b c d:Int}(h:¬ (a=0∧b=0∧c=0∧d=0))(h2:¬ ((-1048576≤a∧a≤1048576)∧(-1048576≤b∧b≤1048576)∧(-1048576≤c∧c≤1048576)∧(-1048576≤d∧d≤1048576))):mN a b c d=3:=by unfold mN;rw[if_neg h,if_neg h2]
theorem rotC_0{a b c d:Int}(h:¬ (a=0∧b=0∧c=0∧d=0))(h2:(-1048576≤a∧a≤1048576)∧(-1048576≤b∧b≤1048576)∧(-1048576≤c∧c≤1048576)∧(-1048576≤d∧d≤1048576)):mN a b c d=0:=by unfold mN;rw[if_neg h,if_pos h2]
def fL(x y z u v f:Int):Prop:=(-1048576≤x∧x≤1048576)∧(-1048576≤y∧y≤1048576)∧(-1048576≤z∧z≤1048576)∧(-1048576≤u∧u≤1048576)∧(-1048576≤v∧v≤1048576)∧(1≤f∧f≤1048576)
instance {x y z u v f:Int}:Decidable (fL x y z u v f):=by unfold fL;infer_instance
def nW(x y z u v f a b c d:Int):Nat:=if fL x y z u v f then mN a b c d else 2
theorem stnC_r{x y z u v f a b c d:Int}(h:¬ fL x y z u v f):nW x y z u v f a b c d=2:=if_neg h
theorem stnC_q{x y z u v f a b c d:Int}(h:fL x y z u v f):nW x y z u v f a b c d=mN a b c d:=if_pos h
theorem xA{a b:Int}(ha:-1048576≤a∧a≤1048576)(hb:-1048576≤b∧b≤1048576):-1099511627776≤a*b∧a*b≤1099511627776:=by
 have h1:(a*b).natAbs≤1048576*1048576:=by
  rw[Int.natAbs_mul];exact Nat.mul_le_mul (by omega) (by omega)
 omega
def nq(a b c d:Int):Int:=(((a*a)+(b*b))+(c*c))+(d*d)
def N4(a b c d:Int):Rat:=((nq a b c d:Int):Rat)
def r00(a b c d:Int):Int:=(((a*a)+(b*b))-(c*c))-(d*d)
def R00(a b c d:Int):Rat:=((r00 a b c d:Int):Rat)
def Q00(a b c d:Int):Rat:=Rat.divInt (r00 a b c d) (nq a b c d)
def r01(a b c d:Int):Int:=2*((b*c)-(a*d))
def R01(a b c d:Int):Rat:=((r01 a b c d:Int):Rat)
def Q01(a b c d:Int):Rat:=Rat.divInt (r01 a b c d) (nq a b c d)
def r02(a b c d:Int):Int:=2*((b*d)+(a*c))
def R02(a b c d:Int):Rat:=((r02 a b c d:Int):Rat)
def Q02(a b c d:Int):Rat:=Rat.divInt (r02 a b c d) (nq a b c d)
def r10(a b c d:Int):Int:=2*((b*c)+(a*d))
def R10(a b c d:Int):Rat:=((r10 a b c d:Int):Rat)
def Q10(a b c d:Int):Rat:=Rat.divInt (r10 a b c d) (nq a b c d)
def r11(a b c d:Int):Int:=(((a*a)-(b*b))+(c*c))-(d*d)
def R11(a b c d:Int):Rat:=((r11 a b c d:Int):Rat)
def Q11(a b c d:Int):Rat:=Rat.divInt (r11 a b c d) (nq a b c d)
def r12(a b c d:Int):Int:=2*((c*d)-(a*b))
def R12(a b c d:Int):Rat:=((r12 a b c d:Int):Rat)
def Q12(a b c d:Int):Rat:=Rat.divInt (r12 a b c d) (nq a b c d)
def r20(a b c d:Int):Int:=2*((b*d)-(a*c))
def R20(a b c d:Int):Rat:=((r20 a b c d:Int):Rat)
def Q20(a b c d:Int):Rat:=Rat.divInt (r20 a b c d) (nq a b c d)
def r21(a b c d:Int):Int:=2*((c*d)+(a*b))
def R21(a b c d:Int):Rat:=((r21 a b c d:Int):Rat)
def Q21(a b c d:Int):Rat:=Rat.divInt (r21 a b c d) (nq a b c d)
def r22(a b c d:Int):Int:=(((a*a)-(b*b))-(c*c))+(d*d)
def R22(a b c d:Int):Rat:=((r22 a b c d:Int):Rat)
def Q22(a b c d:Int):Rat:=Rat.divInt (r22 a b c d) (nq a b c d)
theorem rotC_ok{a b c d:Int}(h:mN a b c d=0):(-1048576≤a∧a≤1048576)∧(-1048576≤b∧b≤1048576)∧(-1048576≤c∧c≤1048576)∧(-1048576≤d∧d≤1048576)∧¬ (a=0∧b=0∧c=0∧d=0):=by
 unfold mN at h
 split at h
 ·cases h
 ·rename_i h0
  split at h
  ·rename_i h1;exact ⟨h1.1,h1.2.1,h1.2.2.1,h1.2.2.2,h0⟩
  ·cases h
theorem stnC_ok{x y z u v f a b c d:Int}(h:nW x y z u v f a b c d=0):(-1048576≤x∧x≤1048576)∧(-1048576≤y∧y≤1048576)∧(-1048576≤z∧z≤1048576)∧(-1048576≤u∧u≤1048576)∧(-1048576≤v∧v≤1048576)∧(1≤f∧f≤1048576)∧mN a b c d=0:=by
 unfold nW at h
 split at h
 ·rename_i hp;exact ⟨hp.1,hp.2.1,hp.2.2.1,hp.2.2.2.1,hp.2.2.2.2.1,hp.2.2.2.2.2,h⟩
 ·cases h
theorem sq_nn(a:Int):0≤a*a:=by
 rcases Int.le_total 0 a with h | h
 ·exact Int.mul_nonneg h h
 ·exact Int.mul_nonneg_of_nonpos_of_nonpos h h
theorem sq_pos{a:Int}(h:a≠0):0<a*a:=by
 rcases Int.lt_or_gt_of_ne h with h | h
 ·exact Int.mul_pos_of_neg_of_neg h h
 ·exact Int.mul_pos h h
theorem nq_pos{a b c d:Int}(h:mN a b c d=0):0<nq a b c d:=by
 have h0:=(rotC_ok h).2.2.2.2
 have ha:=sq_nn a;have hb:=sq_nn b;have hc:=sq_nn c;have hd:=sq_nn d
 unfold nq
 by_cases e1:a=0
 ·by_cases e2:b=0
  ·by_cases e3:c=0
   ·by_cases e4:d=0
    ·exact absurd ⟨e1,e2,e3,e4⟩ h0
    ·have:=sq_pos e4;omega
   ·have:=sq_pos e3;omega
  ·have:=sq_pos e2;omega
 ·have:=sq_pos e1;omega
theorem nq_ne{a b c d:Int}(h:mN a b c d=0):nq a b c d≠0:=by have:=nq_pos h;omega
theorem nq_b{a b c d:Int}(ha:(-1048576≤a∧a≤1048576))(hb:(-1048576≤b∧b≤1048576))(hc:(-1048576≤c∧c≤1048576))(hd:(-1048576≤d∧d≤1048576)):-9223372036854775808≤nq a b c d∧nq a b c d≤9223372036854775807:=by
 have h1:=xA ha ha;have h2:=xA hb hb;have h3:=xA hc hc;have h4:=xA hd hd
 unfold nq;omega
theorem xG{z n:Int}(hn:n≠0):Rat.divInt z n*(n:Rat)=(z:Rat):=by
 rw[Rat.divInt_eq_div]
 exact Rat.div_mul_cancel (fun h=>hn (Rat.intCast_eq_zero_iff.1 h))
theorem r00_b{a b c d:Int}(ha:(-1048576≤a∧a≤1048576))(hb:(-1048576≤b∧b≤1048576))(hc:(-1048576≤c∧c≤1048576))(hd:(-1048576≤d∧d≤1048576)):-9223372036854775808≤r00 a b c d∧r00 a b c d≤9223372036854775807:=by
 have h0:=xA ha ha;have h1:=xA hb hb;have h2:=xA hc hc;have h3:=xA hd hd
 unfold r00;omega
theorem ql_R00{a b c d:Int}(ha:(-1048576≤a∧a≤1048576))(hb:(-1048576≤b∧b≤1048576))(hc:(-1048576≤c∧c≤1048576))(hd:(-1048576≤d∧d≤1048576)):QL (R00 a b c d) 3:=by
 have h:=r00_b ha hb hc hd
 exact kN (jM h.1 h.2) (by decide)
theorem ql_Q00{a b c d:Int}(ha:(-1048576≤a∧a≤1048576))(hb:(-1048576≤b∧b≤1048576))(hc:(-1048576≤c∧c≤1048576))(hd:(-1048576≤d∧d≤1048576)):QL (Q00 a b c d) 3:=by
 have h:=r00_b ha hb hc hd;have h2:=nq_b ha hb hc hd
 exact qN (jM h.1 h.2) (jM h2.1 h2.2) (by decide)
theorem Q00_n{a b c d:Int}(h:nq a b c d≠0):Q00 a b c d*N4 a b c d=R00 a b c d:=xG h
theorem r01_b{a b c d:Int}(ha:(-1048576≤a∧a≤1048576))(hb:(-1048576≤b∧b≤1048576))(hc:(-1048576≤c∧c≤1048576))(hd:(-1048576≤d∧d≤1048576)):-9223372036854775808≤r01 a b c d∧r01 a b c d≤9223372036854775807:=by
 have h0:=xA hb hc;have h1:=xA ha hd
 unfold r01;omega
theorem ql_R01{a b c d:Int}(ha:(-1048576≤a∧a≤1048576))(hb:(-1048576≤b∧b≤1048576))(hc:(-1048576≤c∧c≤1048576))(hd:(-1048576≤d∧d≤1048576)):QL (R01 a b c d) 3:=by
 have h:=r01_b ha hb hc hd
 exact kN (jM h.1 h.2) (by decide)
theorem ql_Q01{a b c d:Int}(ha:(-1048576≤a∧a≤1048576))(hb:(-1048576≤b∧b≤1048576))(hc:(-1048576≤c∧c≤1048576))(hd:(-1048576≤d∧d≤1048576)):QL (Q01 a b c d) 3:=by
 have h:=r01_b ha hb hc hd;have h2:=nq_b ha hb hc hd
 exact qN (jM h.1 h.2) (jM h2.1 h2.2) (by decide)
theorem Q01_n{a b c d:Int}(h:nq a b c d≠0):Q01 a b c d*N4 a b c d=R01 a b c d:=xG h
theorem r02_b{a b c d:Int}(ha:(-1048576≤a∧a≤1048576))(hb:(-1048576≤b∧b≤1048576))(hc:(-1048576≤c∧c≤1048576))(hd:(-1048576≤d∧d≤1048576)):-9223372036854775808≤r02 a b c d∧r02 a b c d≤9223372036854775807:=by
 have h0:=xA hb hd;have h1:=xA ha hc
 unfold r02;omega
theorem ql_R02{a b c d:Int}(ha:(-1048576≤a∧a≤1048576))(hb:(-1048576≤b∧b≤1048576))(hc:(-1048576≤c∧c≤1048576))(hd:(-1048576≤d∧d≤1048576)):QL (R02 a b c d) 3:=by
 have h:=r02_b ha hb hc hd
 exact kN (jM h.1 h.2) (by decide)
theorem ql_Q02{a b c d:Int}(ha:(-1048576≤a∧a≤1048576))(hb:(-1048576≤b∧b≤1048576))(hc:(-1048576≤c∧c≤1048576))(hd:(-1048576≤d∧d≤1048576)):QL (Q02 a b c d) 3:=by
 have h:=r02_b ha hb hc hd;have h2:=nq_b ha hb hc hd
 exact qN (jM h.1 h.2) (jM h2.1 h2.2) (by decide)
theorem Q02_n{a b c d:Int}(h:nq a b c d≠0):Q02 a b c d*N4 a b c d=R02 a b c d:=xG h
theorem r10_b{a b c d:Int}(ha:(-1048576≤a∧a≤1048576))(hb:(-1048576≤b∧b≤1048576))(hc:(-1048576≤c∧c≤1048576))(hd:(-1048576≤d∧d≤1048576)):-9223372036854775808≤r10 a b c d∧r10 a b c d≤9223372036854775807:=by
 have h0:=xA hb hc;have h1:=xA ha hd
 unfold r10;omega
theorem ql_R10{a b c d:Int}(ha:(-1048576≤a∧a≤1048576))(hb:(-1048576≤b∧b≤1048576))(hc:(-1048576≤c∧c≤1048576))(hd:(-1048576≤d∧d≤1048576)):QL (R10 a b c d) 3:=by
 have h:=r10_b ha hb hc hd
 exact kN (jM h.1 h.2) (by decide)
theorem ql_Q10{a b c d:Int}(ha:(-1048576≤a∧a≤1048576))(hb:(-1048576≤b∧b≤1048576))(hc:(-1048576≤c∧c≤1048576))(hd:(-1048576≤d∧d≤1048576)):QL (Q10 a b c d) 3:=by
 have h:=r10_b ha hb hc hd;have h2:=nq_b ha hb hc hd
 exact qN (jM h.1 h.2) (jM h2.1 h2.2) (by decide)
theorem Q10_n{a b c d:Int}(h:nq a b c d≠0):Q10 a b c d*N4 a b c d=R10 a b c d:=xG h
theorem r11_b{a b c d:Int}(ha:(-1048576≤a∧a≤1048576))(hb:(-1048576≤b∧b≤1048576))(hc:(-1048576≤c∧c≤1048576))(hd:(-1048576≤d∧d≤1048576)):-9223372036854775808≤r11 a b c d∧r11 a b c d≤9223372036854775807:=by
 have h0:=xA ha ha;have h1:=xA hb hb;have h2:=xA hc hc;have h3:=xA hd hd
 unfold r11;omega
theorem ql_R11{a b c d:Int}(ha:(-1048576≤a∧a≤1048576))(hb:(-1048576≤b∧b≤1048576))(hc:(-1048576≤c∧c≤1048576))(hd:(-1048576≤d∧d≤1048576)):QL (R11 a b c d) 3:=by
 have h:=r11_b ha hb hc hd
 exact kN (jM h.1 h.2) (by decide)
theorem ql_Q11{a b c d:Int}(ha:(-1048576≤a∧a≤1048576))(hb:(-1048576≤b∧b≤1048576))(hc:(-1048576≤c∧c≤1048576))(hd:(-1048576≤d∧d≤1048576)):QL (Q11 a b c d) 3:=by
 have h:=r11_b ha hb hc hd;have h2:=nq_b ha hb hc hd
 exact qN (jM h.1 h.2) (jM h2.1 h2.2) (by decide)
theorem Q11_n{a b c d:Int}(h:nq a b c d≠0):Q11 a b c d*N4 a b c d=R11 a b c d:=xG h
theorem r12_b{a b c d:Int}(ha:(-1048576≤a∧a≤1048576))(hb:(-1048576≤b∧b≤1048576))(hc:(-1048576≤c∧c≤1048576))(hd:(-1048576≤d∧d≤1048576)):-9223372036854775808≤r12 a b c d∧r12 a b c d≤9223372036854775807:=by
 have h0:=xA hc hd;have h1:=xA ha hb
 unfold r12;omega
theorem ql_R12{a b c d:Int}(ha:(-1048576≤a∧a≤1048576))(hb:(-1048576≤b∧b≤1048576))(hc:(-1048576≤c∧c≤1048576))(hd:(-1048576≤d∧d≤1048576)):QL (R12 a b c d) 3:=by
 have h:=r12_b ha hb hc hd
 exact kN (jM h.1 h.2) (by decide)
theorem ql_Q12{a b c d:Int}(ha:(-1048576≤a∧a≤1048576))(hb:(-1048576≤b∧b≤1048576))(hc:(-1048576≤c∧c≤1048576))(hd:(-1048576≤d∧d≤1048576)):QL (Q12 a b c d) 3:=by
 have h:=r12_b ha hb hc hd;have h2:=nq_b ha hb hc hd
 exact qN (jM h.1 h.2) (jM h2.1 h2.2) (by decide)
theorem Q12_n{a b c d:Int}(h:nq a b c d≠0):Q12 a b c d*N4 a b c d=R12 a b c d:=xG h
theorem r20_b{a b c d:Int}(ha:(-1048576≤a∧a≤1048576))(hb:(-1048576≤b∧b≤1048576))(hc:(-1048576≤c∧c≤1048576))(hd:(-1048576≤d∧d≤1048576)):-9223372036854775808≤r20 a b c d∧r20 a b c d≤9223372036854775807:=by
 have h0:=xA hb hd;have h1:=xA ha hc
 unfold r20;omega
theorem ql_R20{a b c d:Int}(ha:(-1048576≤a∧a≤1048576))(hb:(-1048576≤b∧b≤1048576))(hc:(-1048576≤c∧c≤1048576))(hd:(-1048576≤d∧d≤1048576)):QL (R20 a b c d) 3:=by
 have h:=r20_b ha hb hc hd
 exact kN (jM h.1 h.2) (by decide)
theorem ql_Q20{a b c d:Int}(ha:(-1048576≤a∧a≤1048576))(hb:(-1048576≤b∧b≤1048576))(hc:(-1048576≤c∧c≤1048576))(hd:(-1048576≤d∧d≤1048576)):QL (Q20 a b c d) 3:=by
 have h:=r20_b ha hb hc hd;have h2:=nq_b ha hb hc hd
 exact qN (jM h.1 h.2) (jM h2.1 h2.2) (by decide)
theorem Q20_n{a b c d:Int}(h:nq a b c d≠0):Q20 a b c d*N4 a b c d=R20 a b c d:=xG h
theorem r21_b{a b c d:Int}(ha:(-1048576≤a∧a≤1048576))(hb:(-1048576≤b∧b≤1048576))(hc:(-1048576≤c∧c≤1048576))(hd:(-1048576≤d∧d≤1048576)):-9223372036854775808≤r21 a b c d∧r21 a b c d≤9223372036854775807:=by
 have h0:=xA hc hd;have h1:=xA ha hb
 unfold r21;omega
theorem ql_R21{a b c d:Int}(ha:(-1048576≤a∧a≤1048576))(hb:(-1048576≤b∧b≤1048576))(hc:(-1048576≤c∧c≤1048576))(hd:(-1048576≤d∧d≤1048576)):QL (R21 a b c d) 3:=by
 have h:=r21_b ha hb hc hd
 exact kN (jM h.1 h.2) (by decide)
theorem ql_Q21{a b c d:Int}(ha:(-1048576≤a∧a≤1048576))(hb:(-1048576≤b∧b≤1048576))(hc:(-1048576≤c∧c≤1048576))(hd:(-1048576≤d∧d≤1048576)):QL (Q21 a b c d) 3:=by
 have h:=r21_b ha hb hc hd;have h2:=nq_b ha hb hc hd
 exact qN (jM h.1 h.2) (jM h2.1 h2.2) (by decide)
theorem Q21_n{a b c d:Int}(h:nq a b c d≠0):Q21 a b c d*N4 a b c d=R21 a b c d:=xG h
theorem r22_b{a b c d:Int}(ha:(-1048576≤a∧a≤1048576))(hb:(-1048576≤b∧b≤1048576))(hc:(-1048576≤c∧c≤1048576))(hd:(-1048576≤d∧d≤1048576)):-9223372036854775808≤r22 a b c d∧r22 a b c d≤9223372036854775807:=by
 have h0:=xA ha ha;have h1:=xA hb hb;have h2:=xA hc hc;have h3:=xA hd hd
 unfold r22;omega
theorem ql_R22{a b c d:Int}(ha:(-1048576≤a∧a≤1048576))(hb:(-1048576≤b∧b≤1048576))(hc:(-1048576≤c∧c≤1048576))(hd:(-1048576≤d∧d≤1048576)):QL (R22 a b c d) 3:=by
 have h:=r22_b ha hb hc hd
 exact kN (jM h.1 h.2) (by decide)
theorem ql_Q22{a b c d:Int}(ha:(-1048576≤a∧a≤1048576))(hb:(-1048576≤b∧b≤1048576))(hc:(-1048576≤c∧c≤1048576))(hd:(-1048576≤d∧d≤1048576)):QL (Q22 a b c d) 3:=by
 have h:=r22_b ha hb hc hd;have h2:=nq_b ha hb hc hd
 exact qN (jM h.1 h.2) (jM h2.1 h2.2) (by decide)
theorem Q22_n{a b c d:Int}(h:nq a b c d≠0):Q22 a b c d*N4 a b c d=R22 a b c d:=xG h
theorem vS{x y:Rat}{n:Nat}(h:x=y)(hy:QL y n):QL x n:=h▸hy
def yF(a b c:Rat):Bool:=decide (a=0)&&(decide (b=0)&&decide (c=0))
theorem zeroV_no{a b c:Rat}(h:yF a b c=false):¬ (a=0∧b=0∧c=0):=by
 rintro ⟨rfl,rfl,rfl⟩;simp [yF] at h
theorem zeroV_yes{a b c:Rat}(h:yF a b c=true):a=0∧b=0∧c=0:=by
 simp [yF] at h;exact h
theorem zeroV_of{a b c:Rat}(h:a=0∧b=0∧c=0):yF a b c=true:=by
 simp [yF,h]
theorem zeroV_not{a b c:Rat}(h:¬ (a=0∧b=0∧c=0)):yF a b c=false:=by
 rcases e:yF a b c with _ | _
 ·rfl
 ·exact absurd (zeroV_yes e) h
theorem rsq_nn(a:Rat):0≤a*a:=by
 rcases Rat.le_total (a:=0) (b:=a) with h | h
 ·exact Rat.mul_nonneg h h
 ·have:0≤(-a)*(-a):=Rat.mul_nonneg (by grind) (by grind)
  grind
theorem rsq_zero{a:Rat}(h:a*a=0):a=0:=by
 rcases Rat.mul_eq_zero.1 h with h | h<;>exact h
theorem eH{a b c:Rat}:kS a b c a b c=0↔(a=0∧b=0∧c=0):=by
 unfold kS
 refine ⟨fun h=>?_,fun ⟨h1,h2,h3⟩=>by rw[h1,h2,h3];grind⟩
 have ha:=rsq_nn a;have hb:=rsq_nn b;have hc:=rsq_nn c
 exact ⟨rsq_zero (by grind),rsq_zero (by grind),rsq_zero (by grind)⟩
theorem zeroV_dot(a b c:Rat):(eN (kS a b c a b c) == 0)=yF a b c:=by
 rcases e:yF a b c with _ | _
 ·exact beq_eq_false_iff_ne.2 (fun h=>zeroV_no e (eH.1 (cP.1 h)))
 ·exact beq_iff_eq.2 (cP.2 (eH.2 (zeroV_yes e)))
def gcd3(a b c:Rat):Int:=((Int.gcd a.num ((Int.gcd b.num c.num:Nat):Int):Nat):Int)
theorem gcd3_ne{a b c:Rat}(h:yF a b c=false):gcd3 a b c≠0:=fun e=>by
 unfold gcd3 at e
 have e0:Int.gcd a.num ((Int.gcd b.num c.num:Nat):Int)=0:=by omega
 obtain ⟨e1,e2⟩:=Int.gcd_eq_zero_iff.1 e0
 obtain ⟨e3,e4⟩:=Int.gcd_eq_zero_iff.1 (show Int.gcd b.num c.num=0 by omega)
 exact zeroV_no h ⟨Rat.num_eq_zero.1 e1,Rat.num_eq_zero.1 e3,Rat.num_eq_zero.1 e4⟩
def cW(a b c:Rat):Rat:=Rat.divInt 1 (gcd3 a b c)
theorem lenZ_gcd0{a b:Int}{n:Nat}(ha:hZ a≤n)(hb:hZ b≤n):hZ ((Int.gcd a b:Nat):Int)≤n:=by
 by_cases h:b=0
 ·rw[h,Int.gcd_zero_right];exact Nat.le_trans (cL (by omega)) ha
 ·exact lenZ_gcd h hb
theorem mW{a b c:Rat}{n k:Nat}(ha:QL a n)(hb:QL b n)(hc:QL c n)(h:n≤k)(h1:1≤n):QL (cW a b c) k :=
 xO (qN (Nat.le_trans (uM (by decide)) h1) (lenZ_gcd0 ha.1 (lenZ_gcd0 hb.1 hc.1)) h1) h
theorem redK_ne{a b c:Rat}(h:yF a b c=false):cW a b c≠0:=by
 have h1:=gcd3_ne h
 unfold cW
 rw[Rat.divInt_eq_div]
 intro e
 have h2:((gcd3 a b c:Int):Rat)≠0:=fun q=>h1 (Rat.intCast_eq_zero_iff.1 q)
 have h3:=Rat.div_mul_cancel (a:=((1:Int):Rat)) h2
 rw[e,Rat.zero_mul] at h3
 exact absurd h3 (by decide)
def dq0(a b c d p q r s:Int):Rat:=(R02 a b c d*N4 p q r s)+(R02 p q r s*N4 a b c d)
theorem dq0_eq(a b c d p q r s:Int):(R02 a b c d*N4 p q r s)+(R02 p q r s*N4 a b c d)=dq0 a b c d p q r s:=rfl
def dq1(a b c d p q r s:Int):Rat:=(R12 a b c d*N4 p q r s)+(R12 p q r s*N4 a b c d)
theorem dq1_eq(a b c d p q r s:Int):(R12 a b c d*N4 p q r s)+(R12 p q r s*N4 a b c d)=dq1 a b c d p q r s:=rfl
def dq2(a b c d p q r s:Int):Rat:=(R22 a b c d*N4 p q r s)+(R22 p q r s*N4 a b c d)
theorem dq2_eq(a b c d p q r s:Int):(R22 a b c d*N4 p q r s)+(R22 p q r s*N4 a b c d)=dq2 a b c d p q r s:=rfl
def RFr(lx ly lz la lb lc ld rx ry rz ra rb rc rd:Int)(b0 b1 b2 e00 e01 e02 e10 e11 e12 e20 e21 e22:Rat):Prop :=
 (((rx-lx):Int):Rat)=b0 ∧
 (((ry-ly):Int):Rat)=b1 ∧
 (((rz-lz):Int):Rat)=b2 ∧
 b0*cW b0 b1 b2=e00 ∧
 b1*cW b0 b1 b2=e01 ∧
 b2*cW b0 b1 b2=e02 ∧
 (((dq1 la lb lc ld ra rb rc rd)*e02)-((dq2 la lb lc ld ra rb rc rd)*e01))*cW (((dq1 la lb lc ld ra rb rc rd)*e02)-((dq2 la lb lc ld ra rb rc rd)*e01)) (((dq2 la lb lc ld ra rb rc rd)*e00)-((dq0 la lb lc ld ra rb rc rd)*e02)) (((dq0 la lb lc ld ra rb rc rd)*e01)-((dq1 la lb lc ld ra rb rc rd)*e00))=e10 ∧
 (((dq2 la lb lc ld ra rb rc rd)*e00)-((dq0 la lb lc ld ra rb rc rd)*e02))*cW (((dq1 la lb lc ld ra rb rc rd)*e02)-((dq2 la lb lc ld ra rb rc rd)*e01)) (((dq2 la lb lc ld ra rb rc rd)*e00)-((dq0 la lb lc ld ra rb rc rd)*e02)) (((dq0 la lb lc ld ra rb rc rd)*e01)-((dq1 la lb lc ld ra rb rc rd)*e00))=e11 ∧
 (((dq0 la lb lc ld ra rb rc rd)*e01)-((dq1 la lb lc ld ra rb rc rd)*e00))*cW (((dq1 la lb lc ld ra rb rc rd)*e02)-((dq2 la lb lc ld ra rb rc rd)*e01)) (((dq2 la lb lc ld ra rb rc rd)*e00)-((dq0 la lb lc ld ra rb rc rd)*e02)) (((dq0 la lb lc ld ra rb rc rd)*e01)-((dq1 la lb lc ld ra rb rc rd)*e00))=e12 ∧
 ((e01*e12)-(e02*e11))*cW ((e01*e12)-(e02*e11)) ((e02*e10)-(e00*e12)) ((e00*e11)-(e01*e10))=e20 ∧
 ((e02*e10)-(e00*e12))*cW ((e01*e12)-(e02*e11)) ((e02*e10)-(e00*e12)) ((e00*e11)-(e01*e10))=e21 ∧
 ((e00*e11)-(e01*e10))*cW ((e01*e12)-(e02*e11)) ((e02*e10)-(e00*e12)) ((e00*e11)-(e01*e10))=e22
instance {lx ly lz la lb lc ld rx ry rz ra rb rc rd:Int} {b0 b1 b2 e00 e01 e02 e10 e11 e12 e20 e21 e22:Rat}:Decidable (RFr lx ly lz la lb lc ld rx ry rz ra rb rc rd b0 b1 b2 e00 e01 e02 e10 e11 e12 e20 e21 e22):=by unfold RFr;infer_instance
def upV(la lb lc ld ra rb rc rd:Int)(b0 b1 b2:Rat):Bool:=yF (((dq1 la lb lc ld ra rb rc rd)*b2)-((dq2 la lb lc ld ra rb rc rd)*b1)) (((dq2 la lb lc ld ra rb rc rd)*b0)-((dq0 la lb lc ld ra rb rc rd)*b2)) (((dq0 la lb lc ld ra rb rc rd)*b1)-((dq1 la lb lc ld ra rb rc rd)*b0))
theorem cross_k(d0 d1 d2 a b c k:Rat):(d1*(c*k))-(d2*(b*k))=(d1*c-d2*b)*k∧(d2*(a*k))-(d0*(c*k))=(d2*a-d0*c)*k∧(d0*(b*k))-(d1*(a*k))=(d0*b-d1*a)*k:=by
 refine ⟨?_,?_,?_⟩<;>grind
theorem zeroV_k{a b c k:Rat}(hk:k≠0):yF (a*k) (b*k) (c*k)=yF a b c:=by
 have h:∀ x:Rat,x*k=0↔x=0:=fun x=>⟨fun e=>(Rat.mul_eq_zero.1 e).resolve_right hk,fun e=>by rw[e,Rat.zero_mul]⟩
 unfold yF
 simp only[h]
theorem upV_base{la lb lc ld ra rb rc rd:Int}{b0 b1 b2:Rat}(h:upV la lb lc ld ra rb rc rd b0 b1 b2=false):yF b0 b1 b2=false:=by
 refine zeroV_not (fun ⟨h1,h2,h3⟩=>?_)
 subst h1;subst h2;subst h3
 have h9:=zeroV_no h
 exact h9 ⟨by grind,by grind,by grind⟩
theorem up_zs{la lb lc ld ra rb rc rd:Int}{b0 b1 b2:Rat}{v:Bool}(hz:yF b0 b1 b2=false)(h:upV la lb lc ld ra rb rc rd b0 b1 b2=v):yF (((dq1 la lb lc ld ra rb rc rd)*(b2*(cW b0 b1 b2)))-((dq2 la lb lc ld ra rb rc rd)*(b1*(cW b0 b1 b2)))) (((dq2 la lb lc ld ra rb rc rd)*(b0*(cW b0 b1 b2)))-((dq0 la lb lc ld ra rb rc rd)*(b2*(cW b0 b1 b2)))) (((dq0 la lb lc ld ra rb rc rd)*(b1*(cW b0 b1 b2)))-((dq1 la lb lc ld ra rb rc rd)*(b0*(cW b0 b1 b2))))=v:=by
 have hc:=cross_k (dq0 la lb lc ld ra rb rc rd) (dq1 la lb lc ld ra rb rc rd) (dq2 la lb lc ld ra rb rc rd) b0 b1 b2 (cW b0 b1 b2)
 rw[hc.1,hc.2.1,hc.2.2,zeroV_k (redK_ne hz)]
 exact h
section
variable {lx ly lz la lb lc ld rx ry rz ra rb rc rd:Int} {b0 b1 b2 e00 e01 e02 e10 e11 e12 e20 e21 e22:Rat}
theorem fr_zb(hF:RFr lx ly lz la lb lc ld rx ry rz ra rb rc rd b0 b1 b2 e00 e01 e02 e10 e11 e12 e20 e21 e22)(hup:upV la lb lc ld ra rb rc rd b0 b1 b2=false):yF b0 b1 b2=false:=upV_base hup
theorem fr_zs(hF:RFr lx ly lz la lb lc ld rx ry rz ra rb rc rd b0 b1 b2 e00 e01 e02 e10 e11 e12 e20 e21 e22)(hup:upV la lb lc ld ra rb rc rd b0 b1 b2=false):yF (((dq1 la lb lc ld ra rb rc rd)*e02)-((dq2 la lb lc ld ra rb rc rd)*e01)) (((dq2 la lb lc ld ra rb rc rd)*e00)-((dq0 la lb lc ld ra rb rc rd)*e02)) (((dq0 la lb lc ld ra rb rc rd)*e01)-((dq1 la lb lc ld ra rb rc rd)*e00))=false:=by
 have h:=up_zs (upV_base hup) hup
 obtain ⟨-,-,-,he0,he1,he2,-⟩:=hF
 rw[he0,he1,he2] at h
 exact h
theorem orth_cross(a b c d0 d1 d2:Rat):kS a b c ((d1*c)-(d2*b)) ((d2*a)-(d0*c)) ((d0*b)-(d1*a))=0:=by unfold kS;grind
theorem dot3_k(a b c x y z k:Rat):kS a b c (x*k) (y*k) (z*k)=kS a b c x y z*k:=by unfold kS;grind
theorem fr_01(hF:RFr lx ly lz la lb lc ld rx ry rz ra rb rc rd b0 b1 b2 e00 e01 e02 e10 e11 e12 e20 e21 e22):kS e00 e01 e02 e10 e11 e12=0:=by
 obtain ⟨-,-,-,-,-,-,he0,he1,he2,-⟩:=hF
 rw[← he0,← he1,← he2,dot3_k,orth_cross,Rat.zero_mul]
theorem lagr(a b c x y z:Rat):kS (b*z-c*y) (c*x-a*z) (a*y-b*x) (b*z-c*y) (c*x-a*z) (a*y-b*x)=kS a b c a b c*kS x y z x y z-kS a b c x y z*kS a b c x y z:=by
 unfold kS;grind
theorem fr_z0(hF:RFr lx ly lz la lb lc ld rx ry rz ra rb rc rd b0 b1 b2 e00 e01 e02 e10 e11 e12 e20 e21 e22)(hup:upV la lb lc ld ra rb rc rd b0 b1 b2=false):yF e00 e01 e02=false:=by
 have h:=upV_base hup
 obtain ⟨-,-,-,he0,he1,he2,-⟩:=hF
 rw[← zeroV_k (redK_ne h),he0,he1,he2] at h
 exact h
theorem fr_z1(hF:RFr lx ly lz la lb lc ld rx ry rz ra rb rc rd b0 b1 b2 e00 e01 e02 e10 e11 e12 e20 e21 e22)(hup:upV la lb lc ld ra rb rc rd b0 b1 b2=false):yF e10 e11 e12=false:=by
 have h:=fr_zs hF hup
 obtain ⟨-,-,-,-,-,-,he0,he1,he2,-⟩:=hF
 rw[← zeroV_k (redK_ne h),he0,he1,he2] at h
 exact h
theorem fr_zt(hF:RFr lx ly lz la lb lc ld rx ry rz ra rb rc rd b0 b1 b2 e00 e01 e02 e10 e11 e12 e20 e21 e22)(hup:upV la lb lc ld ra rb rc rd b0 b1 b2=false):yF ((e01*e12)-(e02*e11)) ((e02*e10)-(e00*e12)) ((e00*e11)-(e01*e10))=false:=by
 refine zeroV_not (fun hz=>?_)
 have h1:=eH.2 hz
 rw[lagr,fr_01 hF,Rat.zero_mul,Rat.sub_eq_add_neg,Rat.neg_zero,Rat.add_zero] at h1
 rcases Rat.mul_eq_zero.1 h1 with h2 | h2
 ·exact zeroV_no (fr_z0 hF hup) (eH.1 h2)
 ·exact zeroV_no (fr_z1 hF hup) (eH.1 h2)
theorem fr_z2(hF:RFr lx ly lz la lb lc ld rx ry rz ra rb rc rd b0 b1 b2 e00 e01 e02 e10 e11 e12 e20 e21 e22)(hup:upV la lb lc ld ra rb rc rd b0 b1 b2=false):yF e20 e21 e22=false:=by
 have h:=fr_zt hF hup
 obtain ⟨-,-,-,-,-,-,-,-,-,he0,he1,he2⟩:=hF
 rw[← zeroV_k (redK_ne h),he0,he1,he2] at h
 exact h
end
theorem zb_eq{lx ly lz rx ry rz:Int}{b0 b1 b2:Rat}(h0:((rx-lx:Int):Rat)=b0)(h1:((ry-ly:Int):Rat)=b1)(h2:((rz-lz:Int):Rat)=b2)(h:[lx,ly,lz]=[rx,ry,rz]):yF b0 b1 b2=true:=by
 simp only[List.cons.injEq,and_true] at h
 refine zeroV_of ⟨?_,?_,?_⟩
 ·rw[← h0];exact Rat.intCast_eq_zero_iff.2 (by omega)
 ·rw[← h1];exact Rat.intCast_eq_zero_iff.2 (by omega)
 ·rw[← h2];exact Rat.intCast_eq_zero_iff.2 (by omega)
section
variable {a b c d:Int} (ha:-1048576≤a∧a≤1048576:=by first | assumption | omega) (hb:-1048576≤b∧b≤1048576:=by first | assumption | omega) (hc:-1048576≤c∧c≤1048576:=by first | assumption | omega) (hd:-1048576≤d∧d≤1048576:=by first | assumption | omega)
include ha hb hc hd
theorem kR00:QL (R00 a b c d) 3:=ql_R00 ha hb hc hd
theorem kR01:QL (R01 a b c d) 3:=ql_R01 ha hb hc hd
theorem kR02:QL (R02 a b c d) 3:=ql_R02 ha hb hc hd
theorem kR10:QL (R10 a b c d) 3:=ql_R10 ha hb hc hd
theorem kR11:QL (R11 a b c d) 3:=ql_R11 ha hb hc hd
theorem kR12:QL (R12 a b c d) 3:=ql_R12 ha hb hc hd
theorem kR20:QL (R20 a b c d) 3:=ql_R20 ha hb hc hd
theorem kR21:QL (R21 a b c d) 3:=ql_R21 ha hb hc hd
theorem kR22:QL (R22 a b c d) 3:=ql_R22 ha hb hc hd
theorem kQ00:QL (Q00 a b c d) 3:=ql_Q00 ha hb hc hd
theorem kQ01:QL (Q01 a b c d) 3:=ql_Q01 ha hb hc hd
theorem kQ02:QL (Q02 a b c d) 3:=ql_Q02 ha hb hc hd
theorem kQ10:QL (Q10 a b c d) 3:=ql_Q10 ha hb hc hd
theorem kQ11:QL (Q11 a b c d) 3:=ql_Q11 ha hb hc hd
theorem kQ12:QL (Q12 a b c d) 3:=ql_Q12 ha hb hc hd
theorem kQ20:QL (Q20 a b c d) 3:=ql_Q20 ha hb hc hd
theorem kQ21:QL (Q21 a b c d) 3:=ql_Q21 ha hb hc hd
theorem kQ22:QL (Q22 a b c d) 3:=ql_Q22 ha hb hc hd
end
theorem sgn_ne{q:Rat}(h:¬ eN q≤0):q≠0:=fun e=>h (by rw[show eN q=0 from cP.2 e];decide)
section
variable {lx ly lz la lb lc ld rx ry rz ra rb rc rd:Int} {b0 b1 b2 e00 e01 e02 e10 e11 e12 e20 e21 e22:Rat}
end
section
variable {lx ly lz la lb lc ld rx ry rz ra rb rc rd:Int} {b0 b1 b2 e00 e01 e02 e10 e11 e12 e20 e21 e22:Rat}
end
def IsZ(q:Rat):Prop:=∃ z:Int,q=(z:Rat)
theorem IsZ.of(z:Int):IsZ (z:Rat):=⟨z,rfl⟩
theorem IsZ.mul{p q:Rat}(h:IsZ p)(h2:IsZ q):IsZ (p*q):=by
 obtain ⟨a,rfl⟩:=h;obtain ⟨b,rfl⟩:=h2;exact ⟨a*b,(Rat.intCast_mul a b).symm⟩
theorem IsZ.add{p q:Rat}(h:IsZ p)(h2:IsZ q):IsZ (p+q):=by
 obtain ⟨a,rfl⟩:=h;obtain ⟨b,rfl⟩:=h2;exact ⟨a+b,(Rat.intCast_add a b).symm⟩
theorem IsZ.sub{p q:Rat}(h:IsZ p)(h2:IsZ q):IsZ (p-q):=by
 obtain ⟨a,rfl⟩:=h;obtain ⟨b,rfl⟩:=h2;exact ⟨a-b,(Rat.intCast_sub a b).symm⟩
section
variable {lx ly lz la lb lc ld rx ry rz ra rb rc rd:Int} {b0 b1 b2 e00 e01 e02 e10 e11 e12 e20 e21 e22:Rat}
end
section
variable {lx ly lz la lb lc ld rx ry rz ra rb rc rd:Int} {b0 b1 b2 e00 e01 e02 e10 e11 e12 e20 e21 e22:Rat}
end
section
variable {b s a c d e o l:Bool}
end
structure kK where
 a:Int
 b:Int
 c:Int
 d:Int
deriving DecidableEq
def qL(q:kK):List Int:=[q.a,q.b,q.c,q.d]
def Qnz(q:kK):Prop:=sgnL (qL q)≠0
def qmul(p q:kK):kK:=⟨p.a*q.a-p.b*q.b-p.c*q.c-p.d*q.d,p.a*q.b+p.b*q.a+p.c*q.d-p.d*q.c,p.a*q.c-p.b*q.d+p.c*q.a+p.d*q.b,p.a*q.d+p.b*q.c-p.c*q.b+p.d*q.a⟩
def qcj(q:kK):kK:=⟨q.a,-q.b,-q.c,-q.d⟩
def qsc(k:Int)(q:kK):kK:=⟨k*q.a,k*q.b,k*q.c,k*q.d⟩
def q1:kK:=⟨1,0,0,0⟩
def q0:kK:=⟨0,0,0,0⟩
def qdv(q:kK)(k:Int):kK:=⟨q.a.fdiv k,q.b.fdiv k,q.c.fdiv k,q.d.fdiv k⟩
def qcan(q:kK):kK:=qdv q (dvL (qL q))
theorem qsc_mul_l(k:Int)(p q:kK):qmul (qsc k p) q=qsc k (qmul p q):=by
 unfold qmul qsc;simp only[kK.mk.injEq];refine ⟨?_,?_,?_,?_⟩<;>grind
theorem qsc_mul_r(k:Int)(p q:kK):qmul p (qsc k q)=qsc k (qmul p q):=by
 unfold qmul qsc;simp only[kK.mk.injEq];refine ⟨?_,?_,?_,?_⟩<;>grind
theorem qsc_sc(k l:Int)(q:kK):qsc k (qsc l q)=qsc (k*l) q:=by
 unfold qsc;simp only[kK.mk.injEq];refine ⟨?_,?_,?_,?_⟩<;>grind
theorem qsc_1(q:kK):qsc 1 q=q:=by unfold qsc;cases q;simp
def Qeq(p q:kK):Prop:=∃ k l:Int,k≠0∧l≠0∧qsc k p=qsc l q
theorem Qeq.refl(p:kK):Qeq p p:=⟨1,1,by decide,by decide,rfl⟩
theorem Qeq.symm{p q:kK}(h:Qeq p q):Qeq q p:=by
 obtain ⟨k,l,h1,h2,h3⟩:=h;exact ⟨l,k,h2,h1,h3.symm⟩
theorem Qeq.trans{p q r:kK}(h:Qeq p q)(g:Qeq q r):Qeq p r:=by
 obtain ⟨k,l,h1,h2,h3⟩:=h
 obtain ⟨k',l',g1,g2,g3⟩:=g
 refine ⟨k'*k,l*l',Int.mul_ne_zero g1 h1,Int.mul_ne_zero h2 g2,?_⟩
 rw[← qsc_sc,h3,qsc_sc,Int.mul_comm k' l,← qsc_sc,g3,qsc_sc]
theorem Qeq.sc{k:Int}(hk:k≠0)(p:kK):Qeq (qsc k p) p:=⟨1,k,by decide,hk,by rw[qsc_1]⟩
theorem Qeq.mul{p p' q q':kK}(h:Qeq p p')(g:Qeq q q'):Qeq (qmul p q) (qmul p' q'):=by
 obtain ⟨k,l,h1,h2,h3⟩:=h
 obtain ⟨k',l',g1,g2,g3⟩:=g
 refine ⟨k*k',l*l',Int.mul_ne_zero h1 g1,Int.mul_ne_zero h2 g2,?_⟩
 rw[← qsc_sc,← qsc_mul_r,← qsc_mul_l,h3,g3,qsc_mul_l,qsc_mul_r,qsc_sc]
def inQ(z:Int):Prop:=-1048576≤z∧z≤1048576
instance {z:Int}:Decidable (inQ z):=by unfold inQ;infer_instance
def Qfit(q:kK):Prop:=inQ q.a∧inQ q.b∧inQ q.c∧inQ q.d
instance {q:kK}:Decidable (Qfit q):=by unfold Qfit;infer_instance
def Qok(q:kK):Prop:=Qnz q∧Qfit q
end Go.Fid
namespace Go.Fid
end Go.Fid
namespace Go.Fid
structure REdge where
 fr:Int
 to_:Int
 turn:kK
deriving DecidableEq
def e0:REdge:=⟨0,0,⟨0,0,0,0⟩⟩
structure EOkE (n:Nat) (x:REdge):Prop where
 f0:0≤x.fr
 f1:x.fr<n
 t0:0≤x.to_
 t1:x.to_<n
 ne:x.fr≠x.to_
 q:Qok x.turn
def pA(p:List Int)(x:REdge):Int:=p.getD x.fr.toNat 0
def pB(p:List Int)(x:REdge):Int:=p.getD x.to_.toNat 0
def kp(g:Bool)(a b:Int):Int:=if g=true then min a b else a
def dp(g:Bool)(a b:Int):Int:=if g=true then max a b else b
def rl(k d q:Int):Int:=if q=d then k else q
def mrg(g:Bool)(a b:Int)(p:List Int):List Int:=p.map (rl (kp g a b) (dp g a b))
def tPar(g:Bool)(n:Nat)(es:List REdge):Nat→List Int
 |0=>(List.range n).map fun k=>((k:Nat):Int)
 |k+1=>if pA (tPar g n es k) (es.getD k e0)=pB (tPar g n es k) (es.getD k e0) then tPar g n es k else mrg g (pA (tPar g n es k) (es.getD k e0)) (pB (tPar g n es k) (es.getD k e0)) (tPar g n es k)
section
variable {n:Nat} {es:List REdge}
def tV(n:Nat)(es:List REdge):Nat→Nat→kK
 |0,_=>q1
 |k+1,j=>
  if pA (tPar true n es k) (es.getD k e0)=pB (tPar true n es k) (es.getD k e0) then tV n es k j
  else if pA (tPar true n es k) (es.getD k e0)<pB (tPar true n es k) (es.getD k e0) then
   (if (tPar true n es k).getD j 0=pB (tPar true n es k) (es.getD k e0) then qmul (qmul (qmul (tV n es k (es.getD k e0).fr.toNat) (qcj (es.getD k e0).turn)) (qcj (tV n es k (es.getD k e0).to_.toNat))) (tV n es k j) else tV n es k j)
  else
   (if (tPar true n es k).getD j 0=pA (tPar true n es k) (es.getD k e0) then qmul (qmul (qmul (tV n es k (es.getD k e0).to_.toNat) (es.getD k e0).turn) (qcj (tV n es k (es.getD k e0).fr.toNat))) (tV n es k j) else tV n es k j)
end
def aV(n:Nat)(es:List REdge)(j:Nat):kK:=tV n es es.length j
def aFit(n:Nat)(es:List REdge):Prop:=∀ j,j<n→Qfit (qcan (aV n es j))
instance {n:Nat} {es:List REdge}:Decidable (aFit n es):=by unfold aFit;infer_instance
end Go.Fid
