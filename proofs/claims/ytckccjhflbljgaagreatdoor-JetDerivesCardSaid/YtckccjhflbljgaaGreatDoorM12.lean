/- Part 12 of a proof: rules, plain facts, and functions walked. -/
import Derived.Test.YtckccjhflbljgaaGreatDoorM11
import Derived.Test.YtckccjhflbljgaaGreatDoorM7
set_option linter.all false
namespace Go.Fid
open List
section
variable {P:Program} {n:Fr} {S0:SL} {B0:BS}
theorem kr_cutm{id:Nat}{Q:Exit->PS->Prop}{l:List Oper}(i:Nat)(S1:SL)(B1:BS)(S2:SL)(B2:BS)(t t':Nat){k k':Nat}(h1:SK P n l.toArray (KI S1 B1) S0 B0 (l.take i))(ht:kD S1 t=.mp k)(ht':kD S1 t'=.mp k')
  (h2:∀ b b',SK P n l.toArray (KI S2 B2) ((t,.mpx k b)::(t',.mpx k' b')::S1) B1 (l.drop i)) (hq:Q .normal ⟨S2,B2⟩) (hp:l.all yZ=true:=by kernel_rfl):eM P n (.region id l.toArray false) Q ⟨S0,B0⟩:=λC a w N hn hs=>by
 obtain ⟨st1,g1,g2⟩:=h1
 subst hn
 have hp1:(l.take i).all yZ=true:=all_eq_true.2 λx hx=>all_eq_true.1 hp x (mem_of_mem_take hx)
 have hp2:(l.drop i).all yZ=true:=all_eq_true.2 λx hx=>all_eq_true.1 hp x (mem_of_mem_drop hx)
 refine wpIn_region_lit ?_
 have key:=steps_sound2 (C:=C) (l2:=l.drop i) (N:=N) (Q:=λe a' w'=>∃ st',dQ C a' w' st'/\Q e st') g1 hp1 rfl (λa' w' hs'=>?_) hs
 ·rw[take_append_drop] at key;exact key
 ·obtain ⟨D,β,hx⟩:=g2 C a' w' hs'
  have hr:=hx.slots t
  have hr':=hx.slots t'
  dsimp only at hr hr'
  rw[ht] at hr
  rw[ht'] at hr'
  obtain ⟨b,e1,e2⟩:=hr
  obtain ⟨b',e1',e2'⟩:=hr'
  obtain ⟨st2,k1,k2⟩:=h2 b b'
  refine steps_sound (C:=C) k1 hp2 rfl (λa'' w'' hs''=>⟨_,k2 C a'' w'' hs'',hq⟩) ⟨D,β,hx.base,hx.mem,hx.high,λu=>?_⟩
  show kZ w' D β _ (kD ((t,_)::(t',_)::S1) u)
  rw[qQ]
  split
  ·rename_i e;subst e;exact ⟨e1,e2⟩
  ·rw[qQ]
   split
   ·rename_i e;subst e;exact ⟨e1',e2'⟩
   ·exact hx.slots u
end
section
variable {P:Program} {S S':SL} {B B':BS} {o:Oper}
theorem oOm(t:Nat){k b:Nat}{x:SV}(h:uP P o (kD ((t,.d (.val (.map (some b))))::S)) [] x)(ht:kD S t=.mpx k b:=by kernel_rfl):uP P o (kD S) [] x:=λa w D β Q hop hr hD=>h a w D β Q (λy hy=>by
 have hy':=hop y hy
 cases y with
 |tmp q=>
  show kZ w D β _ (kD ((t,_)::S) q)
  rw[qQ]
  split
  ·rename_i e
   subst e
   have h2:kZ w D β _ (kD S t):=hy'
   rw[ht] at h2
   have e2:_=Value.map (some b):=h2.2
   rw[e2]
   exact uS.val _
  ·exact hy'
 |_=>exact hy') hr hD
theorem cell_mps(j:Nat){cs cs':List SV}{B0:BS}(hj:kC B j=some cs)(hl:cs'.length=cs.length)(hx:∀ (i:Nat) (x:SV),cs'[i]?=some x->cs[i]?=some x\/∃ t k b,kD S t=.mpx k b/\x=SV.mp k/\cs[i]?=some (SV.d (.val (.map (some b)))))(hm:yC cs=false)(hs1:S'.map (λp=>kD S p.1)=S'.map (·.2))(hB:∀ i c,kC B' i=some c->(i=j/\c=cs')\/kC B i=some c):xI ⟨S,B⟩ ⟨S',B'⟩:=λC a w ⟨D,β,hs⟩=>by
 have src:∀ {i c},kC B' i=some c->∃ c',kC B i=some c':=fun {i c} h=>by
  rcases hB i c h with ⟨e,_⟩ | h
  ·exact ⟨_,e▸hj⟩
  ·exact ⟨_,h⟩
 refine ⟨D,β,hs.base,⟨λi c hi=>?_,λi1 i2 c1 c2 q1 q2 b e1 e2=>?_⟩,λi c hi b e=>?_,λq=>?_⟩
 ·rcases hB i c hi with ⟨rfl,rfl⟩ | h
  ·rcases hs.mem.ok _ _ hj with hq0 | ⟨b,vs,T',g1,g2,g3,g4,g5⟩
   ·obtain ⟨h1,h2⟩:=hq0.cells hm
    subst h2
    exact .inl (.inl ⟨h1,eq_nil_of_length_eq_zero hl⟩)
   ·refine .inr ⟨b,vs,T',g1,g2,by rw[hl];exact g3,λq x hq=>?_,g5⟩
    rcases hx q x hq with h | ⟨t,k,b2,h1,rfl,h3⟩
    ·exact g4 q x h
    ·obtain ⟨u,e1,e2,e3⟩:=g4 q _ h3
     have ev:=vA e3
     have hr:=hs.slots t
     dsimp only at hr
     rw[h1] at hr
     exact ⟨u,e1,e2,b2,hr.1,ev⟩
  ·exact hs.mem.ok _ _ h
 ·obtain ⟨d1,h1⟩:=src q1
  obtain ⟨d2,h2⟩:=src q2
  exact hs.mem.inj _ _ _ _ h1 h2 b e1 e2
 ·obtain ⟨d,h⟩:=src hi
  exact hs.high _ _ h b e
 ·show kZ w D β _ (kD S' q)
  rcases fW hs1 q with h | h
  ·rw[h];trivial
  ·rw[h];exact hs.slots q
end
instance:DecidableEq ByteArray:=λa b=>if h:a.data=b.data then isTrue (by cases a;cases b;cases h;rfl) else isFalse (λe=>h (by rw[e]))
abbrev T3:=Int × Int × Int
def mS(a:T3):Value:=.agg (([a.1,a.2.1,a.2.2]).map (Value.int .i64)).toArray
def mY(s:ByteArray):Value:=.string s
def vZ(z:Int):Value:=.int .i64 z
theorem keyT3{P:Program}{K:TypeId}(h:eqaB P K=some 3):KeyOk P K mS :=
 keyOk_arr h .i64 (λa:T3=>[a.1,a.2.1,a.2.2]) (λ_=>rfl) (λa b e=>by
  obtain ⟨a1,a2,a3⟩:=a
  obtain ⟨b1,b2,b3⟩:=b
  simp only[List.cons.injEq,and_true] at e
  obtain ⟨rfl,rfl,rfl⟩:=e
  rfl)
theorem keySt{P:Program}{K:TypeId}(h:strKB P K=true):KeyOk P K mY:=keyOk_str h
theorem rep_vals{w:World}{D:kV}{v:Value}{l:List Value}(h:uS w D v (.agg (l.map .val))):v=.agg l.toArray:=by
 cases h with
 |agg vs hl h1 hr=>
  congr 1
  congr 1
  refine ext_getElem (by simpa using hl) λi h2 h3=>?_
  have:=hr i vs[i] (.val l[i]) (getElem?_eq_getElem h2) (by rw[getElem?_map,getElem?_eq_getElem h3];rfl)
  exact vA this
theorem rep_T3{w:World}{D:kV}{v:Value}{a b c:Int}(h:uS w D v (.agg [.val (.int .i64 a),.val (.int .i64 b),.val (.int .i64 c)])):v=mS (a,b,c):=rep_vals (l:=[.int .i64 a,.int .i64 b,.int .i64 c]) h
section
variable {P:Program} {S:SL} {B:BS} {o:Oper} {x y z:Operand} {k:Nat} {T K E:TypeId} {κ:Type} [DecidableEq κ] {ke:κ->Value} {l:List (κ × Int)}
theorem getI{a:κ}{l:List (κ × Int)}:((xR l a).map vZ).getD (.int .i64 0)=.int .i64 ((xR l a).getD 0):=by cases xR l a<;>rfl
theorem oGi(hT:mapKB P T=some (K,E))(hK:KeyOk P K ke)(hz:zeroVm P E=some (.int .i64 0))(a:κ){d:jY}(hd:∀ (w:World) (D:kV) (v:Value),uS w D v d->v=ke a)(ho:o.op=.lookup T x y true:=by exact rfl)(hx:ev (kD S) x=.mp k:=by exact rfl)(hy:ev (kD S) y=.d d:=by exact rfl)(hb:kC B k=some [.mo (vG ke vZ l)]:=by exact rfl) :
  ROk P o S B k (.d (.tup [.val (.int .i64 ((xR l a).getD 0)),.val (.bool (xR l a).isSome)])):=by
 have h:=oGm (S:=S) (B:=B) hT hK hz a hd ho hx hy hb
 rwa [getI] at h
theorem oIi(hT:mapKB P T=some (K,E))(hK:KeyOk P K ke)(a:κ)(v:Int){d:jY}(hd:∀ (w:World) (D:kV) (u:Value),uS w D u d->u=ke a)(hn:(xR l a).isSome=false)(ho:o.op=.mapUpdate T x y z:=by exact rfl)(hx:ev (kD S) x=.mp k:=by exact rfl)(hy:ev (kD S) y=.d d:=by exact rfl)(hz:ev (kD S) z=.d (.val (.int .i64 v)):=by exact rfl)(hb:kC B k=some [.mo (vG ke vZ l)]:=by exact rfl) :
  TK P o S B k [.mo (vG ke vZ (l++[(a,v)]))] :=
 oIm hT hK a v hd (λw D u h=>vA h) (Option.not_isSome_iff_eq_none.1 (by rw[hn];decide)) ho hx hy hz hb
end
theorem cell_mps5{S S':SL}{B:BS}(j t t':Nat){cs:List SV}{k k' b b':Nat}{x0 x3 x4:SV}(ht:kD S t=.mpx k b)(ht':kD S t'=.mpx k' b')(hc:cs=[x0,.d (.val (.map (some b))),.d (.val (.map (some b'))),x3,x4])
  (hm:yC cs=false) (hs1:S'.map (λp=>kD S p.1)=S'.map (·.2)):xI ⟨S,(j,some cs)::B⟩ ⟨S',(j,some [x0,.mp k,.mp k',x3,x4])::B⟩:=by
 subst hc
 refine cell_mps (B0:=B) (cs:=[x0,.d (.val (.map (some b))),.d (.val (.map (some b'))),x3,x4]) (cs':=[x0,.mp k,.mp k',x3,x4]) j (by rw[jI,if_pos rfl]) rfl (λi x h=>?_) hm hs1 (λi c h=>?_)
 ·match i,h with
  |0,h=>exact .inl h
  |1,h=>exact .inr ⟨t,k,b,ht,(Option.some.inj h).symm,rfl⟩
  |2,h=>exact .inr ⟨t',k',b',ht',(Option.some.inj h).symm,rfl⟩
  |3,h=>exact .inl h
  |4,h=>exact .inl h
  |i+5,h=>cases h
 ·rw[jI] at h
  split at h
  ·rename_i e;exact .inl ⟨e.symm,(Option.some.inj h).symm⟩
  ·rename_i e;exact .inr (by rw[jI,if_neg e];exact h)
def qB(o:Int):Int:=if o=0\/o=1 then 0 else if o=6\/o=7 then 1 else if o=2\/o=3\/o=4\/o=5 then 2 else -1
theorem vJ(o:Int):(qB o=0/\(o=0\/o=1))\/(qB o=1/\(o=6\/o=7))\/(qB o=2/\(o=2\/o=3\/o=4\/o=5))\/(qB o=-1/\¬ (o=0\/o=1)/\¬ (o=6\/o=7)/\¬ (o=2\/o=3\/o=4\/o=5)):=by
 unfold qB
 by_cases h1:o=0\/o=1
 ·exact .inl ⟨if_pos h1,h1⟩
 by_cases h2:o=6\/o=7
 ·exact .inr (.inl ⟨by rw[if_neg h1,if_pos h2],h2⟩)
 by_cases h3:o=2\/o=3\/o=4\/o=5
 ·exact .inr (.inr (.inl ⟨by rw[if_neg h1,if_neg h2,if_pos h3],h3⟩))
 ·exact .inr (.inr (.inr ⟨by rw[if_neg h1,if_neg h2,if_neg h3],h1,h2,h3⟩))
def unsB(x:kY):Bool:=((!x.num.neg&&!x.den.neg)&&(((x.num.gs.length:Nat):Int) == 0))&&(((x.den.gs.length:Nat):Int) == 0)
theorem uns_eq{x:kY}(h:unsB x=true):x=zr:=by
 obtain ⟨⟨n,g⟩,⟨m,d⟩⟩:=x
 unfold unsB at h
 simp only[Bool.and_eq_true,Bool.not_eq_true',beq_iff_eq] at h
 obtain ⟨⟨⟨h1,h2⟩,h3⟩,h4⟩:=h
 have e3:g=[]:=eq_nil_of_length_eq_zero (by omega)
 have e4:d=[]:=eq_nil_of_length_eq_zero (by omega)
 subst h1;subst h2;subst e3;subst e4
 rfl
def dI(x:jS):Prop:=qB x.op<0\/(qB x.op<2/\x.b≠0)\/(x.op=0/\(x.a≠0\/kT x.n=false))\/(x.op≠0/\unsB x.n=false)
instance (x:jS):Decidable (dI x):=by unfold dI;infer_instance
def eA(k:Int)(x:jS):Prop:=(0<qB x.op/\(x.a<0\/k<=x.a))\/(1<qB x.op/\(x.b<0\/k<=x.b))
instance (k:Int) (x:jS):Decidable (eA k x):=by unfold eA;infer_instance
def rngN(z:Int)(x:jS):Prop:=x.op=1/\(x.a<0\/z<=x.a)
instance (z:Int) (x:jS):Decidable (rngN z x):=by unfold rngN;infer_instance
def mP(ss:List Int)(x:jS):Int:=if qB x.op=0 then 1 else if x.op=6 then ss.getD x.a.toNat 0 else if x.op=7 then 2*ss.getD x.a.toNat 0 else ss.getD x.a.toNat 0+ss.getD x.b.toNat 0
def ndC(z:Int)(ss:List Int)(x:jS):Nat:=if dI x then 1 else if eA ((ss.length:Nat):Int) x then 5 else if rngN z x then 2 else if 4096<mP ss x then 3 else 0
def gM(t:List jS):Nat->List Int
 |0=>[]
 |k+1=>gM t k++[mP (gM t k) (t.getD k tz)]
theorem xE(t:List jS):∀ k,(gM t k).length=k
 |0=>rfl
 |k+1=>by rw[gM,length_append,xE t k];rfl
def bN(z:Int)(t:List jS)(k:Nat):Prop:=∀ i,i<k->ndC z (gM t i) (t.getD i tz)=0
theorem szUp_0(z:Int)(t:List jS):bN z t 0:=λi h=>by omega
theorem szUp_s{z:Int}{t:List jS}{k:Nat}(h:bN z t k)(hk:ndC z (gM t k) (t.getD k tz)=0):bN z t (k+1):=λi hi=>by
 rcases Nat.lt_or_ge i k with h1 | h1
 ·exact h i h1
 ·obtain rfl:i=k:=by omega
  exact hk
def szE(z:Int)(t:List jS):Nat->Nat->Nat
 |0,_=>0
 |f+1,k=>if ndC z (gM t k) (t.getD k tz)=0 then szE z t f (k+1) else ndC z (gM t k) (t.getD k tz)
def yT(z:Int)(t:List jS):Nat:=if z<0\/64<z then 2 else if t.length=0 then 1 else if 400<t.length then 3 else szE z t t.length 0
def tmL(z:Int)(t:List jS):List Int:=if yT z t=0 then gM t t.length else []
theorem szE_0{z:Int}{t:List jS}:∀ {f k:Nat},szE z t f k=0↔∀ i,k<=i->i<k+f->ndC z (gM t i) (t.getD i tz)=0
 |0,k=>by simp only[szE,true_iff];intro i h1 h2;omega
 |f+1,k=>by
  unfold szE
  constructor
  ·intro h i h1 h2
   split at h
   ·rename_i h0
    rcases Nat.lt_or_ge k i with h3 | h3
    ·exact szE_0.1 h i (by omega) (by omega)
    ·obtain rfl:i=k:=by omega
     exact h0
   ·rename_i h0;exact absurd h h0
  ·intro h
   rw[if_pos (h k (Nat.le_refl _) (by omega))]
   exact szE_0.2 λi h1 h2=>h i (by omega) (by omega)
theorem szE_at{z:Int}{t:List jS}{m:Nat}(hm:ndC z (gM t m) (t.getD m tz)≠0):∀ {f k:Nat},k<=m->m<k+f->(∀ i,k<=i->i<m->ndC z (gM t i) (t.getD i tz)=0)->szE z t f k=ndC z (gM t m) (t.getD m tz)
 |0,k,h1,h2,_=>by omega
 |f+1,k,h1,h2,h=>by
  unfold szE
  rcases Nat.lt_or_ge k m with h3 | h3
  ·rw[if_pos (h k (Nat.le_refl _) h3)]
   exact szE_at hm (by omega) (by omega) λi a b=>h i (by omega) b
  ·obtain rfl:k=m:=by omega
   rw[if_neg hm]
theorem tm_1{z:Int}{t:List jS}(h:z<0\/64<z):yT z t=2:=if_pos h
theorem tm_2{z:Int}{t:List jS}(h:¬ (z<0\/64<z))(h1:t.length=0):yT z t=1:=by unfold yT;rw[if_neg h,if_pos h1]
theorem tm_3{z:Int}{t:List jS}(h:¬ (z<0\/64<z))(h1:t.length≠0)(h2:400<t.length):yT z t=3:=by unfold yT;rw[if_neg h,if_neg h1,if_pos h2]
theorem tm_e{z:Int}{t:List jS}(h:¬ (z<0\/64<z))(h1:t.length≠0)(h2:¬ 400<t.length):yT z t=szE z t t.length 0:=by unfold yT;rw[if_neg h,if_neg h1,if_neg h2]
theorem tm_no{z:Int}{t:List jS}{k:Nat}(h:¬ (z<0\/64<z))(h1:k<t.length)(h2:¬ 400<t.length)(hu:bN z t k)(hc:ndC z (gM t k) (t.getD k tz)≠0):yT z t=ndC z (gM t k) (t.getD k tz)/\tmL z t=[]:=by
 have e:yT z t=ndC z (gM t k) (t.getD k tz):=by
  rw[tm_e h (by omega) h2]
  exact szE_at hc (by omega) (by omega) λi _ hi=>hu i hi
 exact ⟨e,if_neg (by rw[e];exact hc)⟩
theorem tm_yes{z:Int}{t:List jS}(h:¬ (z<0\/64<z))(h1:t.length≠0)(h2:¬ 400<t.length)(hu:bN z t t.length):yT z t=0/\tmL z t=gM t t.length:=by
 have e:yT z t=0:=by
  rw[tm_e h h1 h2]
  exact szE_0.2 λi _ hi=>hu i (by omega)
 exact ⟨e,if_pos e⟩
theorem tm_n{z:Int}{t:List jS}(h:yT z t≠0):tmL z t=[]:=if_neg h
theorem dF{z:Int}{t:List jS}(h:yT z t=0):0<=z/\z<=64/\t.length≠0/\t.length<=400/\bN z t t.length:=by
 by_cases h0:z<0\/64<z
 ·rw[tm_1 h0] at h;cases h
 by_cases h1:t.length=0
 ·rw[tm_2 h0 h1] at h;cases h
 by_cases h2:400<t.length
 ·rw[tm_3 h0 h1 h2] at h;cases h
 rw[tm_e h0 h1 h2] at h
 exact ⟨by omega,by omega,h1,by omega,λi hi=>szE_0.1 h i (by omega) (by omega)⟩
theorem nd_0{z:Int}{ss:List Int}{x:jS}(h:ndC z ss x=0):¬ dI x/\¬ eA ((ss.length:Nat):Int) x/\¬ rngN z x/\mP ss x<=4096:=by
 unfold ndC at h
 split at h
 ·cases h
 ·rename_i h1
  split at h
  ·cases h
  ·rename_i h2
   split at h
   ·cases h
   ·rename_i h3
    split at h
    ·cases h
    ·rename_i h4
     exact ⟨h1,h2,h3,by omega⟩
theorem nd_1{z:Int}{ss:List Int}{x:jS}(h:dI x):ndC z ss x=1:=if_pos h
theorem nd_5{z:Int}{ss:List Int}{x:jS}(h:¬ dI x)(h2:eA ((ss.length:Nat):Int) x):ndC z ss x=5:=by unfold ndC;rw[if_neg h,if_pos h2]
theorem nd_2{z:Int}{ss:List Int}{x:jS}(h:¬ dI x)(h2:¬ eA ((ss.length:Nat):Int) x)(h3:rngN z x):ndC z ss x=2:=by unfold ndC;rw[if_neg h,if_neg h2,if_pos h3]
theorem nd_3{z:Int}{ss:List Int}{x:jS}(h:¬ dI x)(h2:¬ eA ((ss.length:Nat):Int) x)(h3:¬ rngN z x)(h4:4096<mP ss x):ndC z ss x=3:=by unfold ndC;rw[if_neg h,if_neg h2,if_neg h3,if_pos h4]
theorem nd_y{z:Int}{ss:List Int}{x:jS}(h:¬ dI x)(h2:¬ eA ((ss.length:Nat):Int) x)(h3:¬ rngN z x)(h4:¬ 4096<mP ss x):ndC z ss x=0:=by unfold ndC;rw[if_neg h,if_neg h2,if_neg h3,if_neg h4]
theorem sz_rng{z:Int}{t:List jS}:∀ {k:Nat},bN z t k->∀ j,j<k->1<=(gM t k).getD j 0/\(gM t k).getD j 0<=4096
 |0,_,j,h=>by omega
 |k+1,hu,j,hj=>by
  have ih:=sz_rng (k:=k) (λi hi=>hu i (by omega))
  have hl:=xE t k
  obtain ⟨h1,h2,h3,h4⟩:=nd_0 (hu k (by omega))
  rw[hl] at h2
  unfold gM
  rcases Nat.lt_or_ge j k with h | h
  ·rw[getD_eq_getElem?_getD,getElem?_append_left (by omega),<- getD_eq_getElem?_getD]
   exact ih j h
  ·obtain rfl:j=k:=by omega
   rw[getD_eq_getElem?_getD,getElem?_append_right (by omega),hl,Nat.sub_self]
   show 1<=mP (gM t j) (t.getD j tz)/\mP (gM t j) (t.getD j tz)<=4096
   refine ⟨?_,h4⟩
   have hA:∀ a:Int,0<=a->a<j->1<=(gM t j).getD a.toNat 0:=λa q1 q2=>(ih a.toNat (by omega)).1
   generalize t.getD j tz=x at *
   unfold mP eA dI at *
   rcases vJ x.op with ⟨e,_⟩ | ⟨e,f⟩ | ⟨e,f⟩ | ⟨e,_⟩
   ·rw[if_pos e];exact Int.le_refl _
   ·have ha:=hA x.a (by omega) (by omega)
    rw[if_neg (by omega)]
    split
    ·exact ha
    ·split<;>omega
   ·have ha:=hA x.a (by omega) (by omega)
    have hb:=hA x.b (by omega) (by omega)
    rw[if_neg (by omega),if_neg (by omega),if_neg (by omega)]
    omega
   ·omega
def szI(t:List jS)(k:Nat)(o:List Int):Prop:=o.length=t.length/\o.take k=gM t k
theorem szI_0{t:List jS}:szI t 0 (replicate t.length 0):=⟨length_replicate,rfl⟩
theorem szI.at{t:List jS}{k:Nat}{o:List Int}(h:szI t k o){j:Nat}(hj:j<k)(hk:k<=t.length):o.getD j 0=(gM t k).getD j 0:=by
 rw[<- h.2,getD_eq_getElem?_getD,getD_eq_getElem?_getD,getElem?_take_of_lt hj]
theorem szI.put{t:List jS}{k:Nat}{o:List Int}(h:szI t k o)(hk:k<t.length){v:Int}(hv:v=mP (gM t k) (t.getD k tz)):szI t (k+1) (o.set k v):=by
 refine ⟨by rw[length_set];exact h.1,?_⟩
 have hl:=h.1
 rw[take_succ_eq_append_getElem (by rw[length_set];omega),getElem_set_self,take_set_of_le (Nat.le_refl k),h.2,gM,hv]
theorem set_getD{o:List Int}{k:Nat}{v:Int}(h:k<o.length):(o.set k v).getD k 0=v:=by
 rw[getD_eq_getElem?_getD,getElem?_set_self h];rfl
theorem szI_end{t:List jS}{o:List Int}(h:szI t t.length o):o=gM t t.length:=by
 rw[<- h.2,<- h.1,take_length]
def badB(x:jS):Bool:=(((decide (qB x.op<0)||(decide (qB x.op<2)&&(x.b != 0)))||((x.op == 0)&&((x.a != 0)||!(kT x.n))))||((x.op != 0)&&!(unsB x.n)))
def ordB(k:Int)(x:jS):Bool:=((decide (0<qB x.op)&&(decide (x.a<0)||decide (k<=x.a)))||(decide (1<qB x.op)&&(decide (x.b<0)||decide (k<=x.b))))
def rngB(z:Int)(x:jS):Bool:=((x.op == 1)&&(decide (x.a<0)||decide (z<=x.a)))
theorem iH{x:jS}:badB x=true↔dI x:=by
 unfold badB dI
 simp only[Bool.or_eq_true,Bool.and_eq_true,decide_eq_true_eq,beq_iff_eq,bne_iff_ne,Bool.not_eq_true',ne_eq,or_assoc]
theorem ordB_iff{k:Int}{x:jS}:ordB k x=true↔eA k x:=by
 unfold ordB eA
 simp only[Bool.or_eq_true,Bool.and_eq_true,decide_eq_true_eq]
theorem rngB_iff{k:Int}{x:jS}:rngB k x=true↔rngN k x:=by
 unfold rngB rngN
 simp only[Bool.or_eq_true,Bool.and_eq_true,decide_eq_true_eq,beq_iff_eq]
theorem not_of{b:Bool}{p:Prop}(h:b=true↔p)(hb:b=false):¬ p:=λq=>by rw[h.2 q] at hb;cases hb
structure TmR (z:Int) (t:List jS) (k:Nat):Prop where
 z0:¬ (z<0\/64<z)
 kl:k<t.length
 tl:¬ 400<t.length
 up:bN z t k
theorem tmr{z:Int}{t:List jS}{k:Nat}(h:(decide (z<0)||decide (64<z))=false)(h1:((k:Nat):Int)<((t.length:Nat):Int))(h2:¬ 400<((t.length:Nat):Int))(hu:bN z t k):TmR z t k:=by
 rw[Bool.or_eq_false_iff,decide_eq_false_iff_not,decide_eq_false_iff_not] at h
 exact ⟨by omega,by omega,by omega,hu⟩
theorem zb_t{z:Int}{t:List jS}(h:(decide (z<0)||decide (64<z))=true):yT z t=2/\tmL z t=[]:=by
 rw[Bool.or_eq_true,decide_eq_true_eq,decide_eq_true_eq] at h
 have e:=tm_1 (t:=t) h
 exact ⟨e,tm_n (by rw[e];decide)⟩
theorem zb_f{z:Int}(h:(decide (z<0)||decide (64<z))=false):¬ (z<0\/64<z):=by
 rw[Bool.or_eq_false_iff,decide_eq_false_iff_not,decide_eq_false_iff_not] at h
 omega
theorem tm_l0{z:Int}{t:List jS}(h:(decide (z<0)||decide (64<z))=false)(h1:t.length=0):yT z t=1/\tmL z t=[]:=by
 have e:=tm_2 (zb_f h) h1
 exact ⟨e,tm_n (by rw[e];decide)⟩
theorem tm_lb{z:Int}{t:List jS}(h:(decide (z<0)||decide (64<z))=false)(h1:400<t.length):yT z t=3/\tmL z t=[]:=by
 have e:=tm_3 (zb_f h) (by omega) h1
 exact ⟨e,tm_n (by rw[e];decide)⟩
theorem TmR.bad{z:Int}{t:List jS}{k:Nat}(h:TmR z t k)(hb:badB (t.getD k tz)=true):yT z t=1/\tmL z t=[]:=by
 have e:=nd_1 (z:=z) (ss:=gM t k) (iH.1 hb)
 have:=tm_no h.z0 h.kl h.tl h.up (by rw[e];decide)
 rwa [e] at this
theorem TmR.ord{z:Int}{t:List jS}{k:Nat}(h:TmR z t k)(hb:badB (t.getD k tz)=false)(ho:ordB ((k:Nat):Int) (t.getD k tz)=true):yT z t=5/\tmL z t=[]:=by
 have e:=nd_5 (z:=z) (ss:=gM t k) (not_of iH hb) (by rw[xE];exact ordB_iff.1 ho)
 have:=tm_no h.z0 h.kl h.tl h.up (by rw[e];decide)
 rwa [e] at this
theorem TmR.rng{z:Int}{t:List jS}{k:Nat}(h:TmR z t k)(hb:badB (t.getD k tz)=false)(ho:ordB ((k:Nat):Int) (t.getD k tz)=false)(hr:rngB z (t.getD k tz)=true):yT z t=2/\tmL z t=[]:=by
 have e:=nd_2 (z:=z) (ss:=gM t k) (not_of iH hb) (by rw[xE];exact not_of ordB_iff ho) (rngB_iff.1 hr)
 have:=tm_no h.z0 h.kl h.tl h.up (by rw[e];decide)
 rwa [e] at this
structure NdR (z:Int) (t:List jS) (k:Nat):Prop where
 tm:TmR z t k
 bad:¬ dI (t.getD k tz)
 ord:¬ eA ((k:Nat):Int) (t.getD k tz)
 rng:¬ rngN z (t.getD k tz)
theorem ndr{z:Int}{t:List jS}{k:Nat}(h:TmR z t k)(hb:badB (t.getD k tz)=false)(ho:ordB ((k:Nat):Int) (t.getD k tz)=false)(hr:rngB z (t.getD k tz)=false):NdR z t k:=⟨h,not_of iH hb,not_of ordB_iff ho,not_of rngB_iff hr⟩
theorem NdR.big{z:Int}{t:List jS}{k:Nat}(h:NdR z t k){v:Int}(hv:v=mP (gM t k) (t.getD k tz)){o:List Int}(ho:k<o.length)(hb:4096<(o.set k v).getD k 0):yT z t=3/\tmL z t=[]:=by
 rw[set_getD ho,hv] at hb
 have e:=nd_3 (z:=z) (ss:=gM t k) h.bad (by rw[xE];exact h.ord) h.rng hb
 have:=tm_no h.tm.z0 h.tm.kl h.tm.tl h.tm.up (by rw[e];decide)
 rwa [e] at this
theorem NdR.next{z:Int}{t:List jS}{k:Nat}(h:NdR z t k){v:Int}(hv:v=mP (gM t k) (t.getD k tz)){o:List Int}(ho:szI t k o)(hb:¬ 4096<(o.set k v).getD k 0):k+1<=t.length/\szI t (k+1) (o.set k v)/\bN z t (k+1):=by
 have hl:=ho.1
 have hk:=h.tm.kl
 rw[set_getD (by omega),hv] at hb
 exact ⟨hk,ho.put hk hv,szUp_s h.tm.up (nd_y h.bad (by rw[xE];exact h.ord) h.rng hb)⟩
theorem NdR.kd{z:Int}{t:List jS}{k:Nat}(h:NdR z t k):0<=qB (t.getD k tz).op:=by
 have:=h.bad;unfold dI at this;omega
theorem NdR.a{z:Int}{t:List jS}{k:Nat}(h:NdR z t k){o:List Int}(ho:szI t k o)(h0:qB (t.getD k tz).op≠0) :
  0<=(t.getD k tz).a/\(t.getD k tz).a.toNat<k/\o.getD (t.getD k tz).a.toNat 0=(gM t k).getD (t.getD k tz).a.toNat 0/\1<=o.getD (t.getD k tz).a.toNat 0/\o.getD (t.getD k tz).a.toNat 0<=4096:=by
 have h1:=h.kd
 have h2:=h.ord
 unfold eA at h2
 have ha:(t.getD k tz).a.toNat<k:=by omega
 have e:=ho.at ha (by have:=h.tm.kl;omega)
 have r:=sz_rng h.tm.up _ ha
 rw[<- e] at r
 exact ⟨by omega,ha,e,r⟩
theorem NdR.b{z:Int}{t:List jS}{k:Nat}(h:NdR z t k){o:List Int}(ho:szI t k o)(h0:qB (t.getD k tz).op≠0)(h6:(t.getD k tz).op≠6)(h7:(t.getD k tz).op≠7) :
  0<=(t.getD k tz).b/\(t.getD k tz).b.toNat<k/\o.getD (t.getD k tz).b.toNat 0=(gM t k).getD (t.getD k tz).b.toNat 0/\1<=o.getD (t.getD k tz).b.toNat 0/\o.getD (t.getD k tz).b.toNat 0<=4096:=by
 have h1:=h.kd
 have h2:=h.ord
 have h3:qB (t.getD k tz).op=2:=by rcases vJ (t.getD k tz).op with ⟨a,b⟩ | ⟨a,b⟩ | ⟨a,b⟩ | ⟨a,b⟩<;>omega
 unfold eA at h2
 have ha:(t.getD k tz).b.toNat<k:=by omega
 have e:=ho.at ha (by have:=h.tm.kl;omega)
 have r:=sz_rng h.tm.up _ ha
 rw[<- e] at r
 exact ⟨by omega,ha,e,r⟩
theorem szN_c{ss:List Int}{x:jS}(h:qB x.op=0):(1:Int)=mP ss x:=(if_pos h).symm
theorem szN_n{ss:List Int}{x:jS}{v:Int}(h:qB x.op≠0)(h6:x.op=6)(hv:v=ss.getD x.a.toNat 0):v=mP ss x:=by
 unfold mP;rw[if_neg h,if_pos h6,hv]
theorem szN_q{ss:List Int}{x:jS}{v:Int}(h:qB x.op≠0)(h7:x.op=7)(hv:v=ss.getD x.a.toNat 0):2*v=mP ss x:=by
 unfold mP;rw[if_neg h,if_neg (by omega),if_pos h7,hv]
theorem szN_b{ss:List Int}{x:jS}{v w:Int}(h:qB x.op≠0)(h6:x.op≠6)(h7:x.op≠7)(hv:v=ss.getD x.a.toNat 0)(hw:w=ss.getD x.b.toNat 0):v+w=mP ss x:=by
 unfold mP;rw[if_neg h,if_neg h6,if_neg h7,hv,hw]
theorem tm_end{z:Int}{t:List jS}{k:Nat}{o:List Int}(h:(decide (z<0)||decide (64<z))=false)(h0:((t.length:Nat):Int)≠0)(h4:¬ 400<((t.length:Nat):Int))(hk:k<=t.length)(h5:¬ ((k:Nat):Int)<((t.length:Nat):Int))(ho:szI t k o)(hu:bN z t k):yT z t=0/\tmL z t=o:=by
 obtain rfl:k=t.length:=by omega
 obtain ⟨e1,e2⟩:=tm_yes (zb_f h) (by omega) (by omega) hu
 exact ⟨e1,by rw[e2,szI_end ho]⟩
inductive eY (n:Nat) (L:List JV):jS->Prop
 |c {p:Rat} (hp:QL p 1048576):eY n L ⟨0,0,0,jM p⟩
 |v {a:Nat} (ha:a<n):eY n L ⟨1,(a:Int),0,zr⟩
 |add {a b:Nat} (ha:a<L.length) (hb:b<L.length):eY n L ⟨2,(a:Int),(b:Int),zr⟩
 |sub {a b:Nat} (ha:a<L.length) (hb:b<L.length):eY n L ⟨3,(a:Int),(b:Int),zr⟩
 |mul {a b:Nat} (ha:a<L.length) (hb:b<L.length):eY n L ⟨4,(a:Int),(b:Int),zr⟩
 |div {a b:Nat} (ha:a<L.length) (hb:b<L.length) (hz:mU (L.getD b jz).v.1 (L.getD b jz).v.2=false):eY n L ⟨5,(a:Int),(b:Int),zr⟩
 |neg {a:Nat} (ha:a<L.length):eY n L ⟨6,(a:Int),0,zr⟩
 |sq {a:Nat} (ha:a<L.length):eY n L ⟨7,(a:Int),0,zr⟩
theorem nat_of{a:Int}(h:0<=a):∃ m:Nat,a=(m:Int):=⟨a.toNat,by omega⟩
theorem nd_ok{bx:List R2}{t:List jS}{k:Nat}{ss:List Int}(h:ndC ((bx.length:Nat):Int) ss (t.getD k tz)=0)(hs:ss.length=k)(hq:yB (t.getD k tz).n (qS (t.getD k tz).n) 1048576)
  (hz:(t.getD k tz).op=5->mU (jA (jU bx t k) (t.getD k tz).b).v.1 (jA (jU bx t k) (t.getD k tz).b).v.2=false):eY bx.length (jU bx t k) (t.getD k tz):=by
 obtain ⟨h1,h2,h3,_⟩:=nd_0 h
 have hl:=gZ bx t k
 rw[hs] at h2
 generalize t.getD k tz=x at *
 generalize jU bx t k=L at *
 obtain ⟨op,a,b,n⟩:=x
 unfold dI at h1
 unfold eA at h2
 unfold rngN at h3
 dsimp only at *
 have hu:op≠0->n=zr:=λh=>uns_eq (by
  cases hh:unsB n with
  |true=>rfl
  |false=>exact absurd (Or.inr (Or.inr (Or.inr ⟨h,hh⟩))) h1)
 rcases vJ op with ⟨e,f⟩ | ⟨e,f⟩ | ⟨e,f⟩ | ⟨e,f⟩
 ·have hb:b=0:=by omega
  subst hb
  rcases f with f | f
  ·subst f
   have ha:a=0:=by omega
   subst ha
   have hv:kT n=true:=by
    cases hh:kT n with
    |true=>rfl
    |false=>exact absurd (Or.inr (Or.inr (Or.inl ⟨rfl,Or.inr hh⟩))) h1
   rw[<- ofQ_toQ hv] at hq ⊢
   rw[vY] at hq
   exact .c (hq.ql)
  ·subst f
   obtain ⟨m,hm⟩:=nat_of (a:=a) (by omega)
   subst hm
   rw[hu (by decide)]
   exact .v (by omega)
 ·have hb:b=0:=by omega
  subst hb
  obtain ⟨m,hm⟩:=nat_of (a:=a) (by omega)
  subst hm
  rw[hu (by omega)]
  rcases f with f | f<;>subst f
  ·exact .neg (by omega)
  ·exact .sq (by omega)
 ·obtain ⟨m,hm⟩:=nat_of (a:=a) (by omega)
  subst hm
  obtain ⟨l,hl'⟩:=nat_of (a:=b) (by omega)
  subst hl'
  rw[hu (by omega)]
  rcases f with f | f | f | f<;>subst f
  ·exact .add (by omega) (by omega)
  ·exact .sub (by omega) (by omega)
  ·exact .mul (by omega) (by omega)
  ·refine .div (by omega) (by omega) ?_
   have:=hz rfl
   unfold jA at this
   rwa [Int.toNat_natCast] at this
 ·omega
structure JRun (bx:List R2) (t:List jS):Prop where
 c0:yT ((bx.length:Nat):Int) t=0
 ok:∀ k,k<t.length->aW 1048576 bx.length (nJ bx (jU bx t k) (t.getD k tz))
 dz:∀ k,k<t.length->(t.getD k tz).op=5->mU (jA (jU bx t k) (t.getD k tz).b).v.1 (jA (jU bx t k) (t.getD k tz).b).v.2=false
theorem JRun.upto{bx:List R2}{t:List jS}(h:JRun bx t):∀ {k},k<=t.length->∀ y∈jU bx t k,aW 1048576 bx.length y
 |0,_,y,hy=>by simp [jU] at hy
 |k+1,hk,y,hy=>by
  rw[jU,mem_append] at hy
  rcases hy with hy | hy
  ·exact h.upto (by omega) y hy
  ·rw[mem_singleton] at hy;subst hy
   exact h.ok k (by omega)
theorem JRun.nd{bx:List R2}{t:List jS}(h:JRun bx t)(hq:∀ x∈t,yB x.n (qS x.n) 1048576){k:Nat}(hk:k<t.length):eY bx.length (jU bx t k) (t.getD k tz):=by
 have h0:=dF h.c0
 refine nd_ok (h0.2.2.2.2 k hk) (xE t k) ?_ (h.dz k hk)
 rw[getD_eq_getElem?_getD,getElem?_eq_getElem hk];exact hq _ (getElem_mem _)
def mI(bx:List R2)(t:List jS):JV:=(jU bx t t.length).getD (t.length-1) jz
theorem JRun.last{bx:List R2}{t:List jS}(h:JRun bx t):aW 1048576 bx.length (mI bx t):=by
 have h0:=dF h.c0
 have hl:=gZ bx t t.length
 unfold mI
 rw[getD_eq_getElem?_getD,getElem?_eq_getElem (by omega)]
 exact h.upto (Nat.le_refl _) _ (getElem_mem _)
def vV(xs L:List Rat)(x:jS):Rat :=
 if x.op=1 then xs.getD x.a.toNat 0
 else if x.op=2 then L.getD x.a.toNat 0+L.getD x.b.toNat 0
 else if x.op=3 then L.getD x.a.toNat 0-L.getD x.b.toNat 0
 else if x.op=4 then L.getD x.a.toNat 0*L.getD x.b.toNat 0
 else if x.op=6 then -(L.getD x.a.toNat 0)
 else if x.op=7 then L.getD x.a.toNat 0*L.getD x.a.toNat 0
 else if x.op=5 then L.getD x.a.toNat 0 / L.getD x.b.toNat 0
 else qS x.n
def vU(xs:List Rat)(t:List jS):Nat->List Rat
 |0=>[]
 |k+1=>vU xs t k++[vV xs (vU xs t k) (t.getD k tz)]
theorem aD(xs:List Rat)(t:List jS):∀ k,(vU xs t k).length=k
 |0=>rfl
 |k+1=>by rw[vU,length_append,aD xs t k];rfl
structure VUp (xs:List Rat) (t:List jS) (k:Nat):Prop where
 ok:∀ i,i<k->QL (vV xs (vU xs t i) (t.getD i tz)) 1048576
 dz:∀ i,i<k->(t.getD i tz).op=5->(vU xs t i).getD (t.getD i tz).b.toNat 0≠0
structure VRun (xs:List Rat) (t:List jS):Prop where
 c0:yT ((xs.length:Nat):Int) t=0
 up:VUp xs t t.length
structure VFail (xs:List Rat) (t:List jS) (k:Nat):Prop where
 c0:yT ((xs.length:Nat):Int) t=0
 hk:k<t.length
 up:VUp xs t k
 op:(t.getD k tz).op=5
 z:(vU xs t k).getD (t.getD k tz).b.toNat 0=0
theorem VUp.le{xs:List Rat}{t:List jS}{k j:Nat}(h:VUp xs t k)(hj:j<=k):VUp xs t j:=⟨λi hi=>h.ok i (by omega),λi hi=>h.dz i (by omega)⟩
theorem VUp.all{xs:List Rat}{t:List jS}:∀ {k},VUp xs t k->∀ q∈vU xs t k,QL q 1048576
 |0,_,q,hq=>by simp [vU] at hq
 |k+1,h,q,hq=>by
  rw[vU,mem_append] at hq
  rcases hq with hq | hq
  ·exact (h.le (Nat.le_succ k)).all q hq
  ·rw[mem_singleton] at hq;subst hq
   exact h.ok k (by omega)
def uJ(xs:List Rat)(t:List jS):Rat:=(vU xs t t.length).getD (t.length-1) 0
theorem qlg{l:List Rat}{n:Nat}(h:∀ q∈l,QL q n)(h1:1<=n)(j:Nat):QL (l.getD j 0) n:=by
 rcases Nat.lt_or_ge j l.length with hj | hj
 ·rw[getD_eq_getElem?_getD,getElem?_eq_getElem hj];exact h _ (getElem_mem _)
 ·rw[getD_eq_getElem?_getD,getElem?_eq_none (by omega)];exact uG cY h1
theorem VRun.last{xs:List Rat}{t:List jS}(h:VRun xs t):QL (uJ xs t) 1048576:=qlg h.up.all (by decide) _
def szs(t:List jS):List Int:=gM t t.length
def evs(xs:List Rat)(t:List jS):List Rat:=vU xs t t.length
theorem szU_app(t:List jS)(x:jS):∀ k,k<=t.length->gM (t++[x]) k=gM t k
 |0,_=>rfl
 |k+1,h=>by
  rw[gM,gM,szU_app t x k (by omega)]
  rw[show (t++[x]).getD k tz=t.getD k tz by rw[getD_eq_getElem?_getD,getElem?_append_left (by omega),<- getD_eq_getElem?_getD]]
theorem vU_app(xs:List Rat)(t:List jS)(x:jS):∀ k,k<=t.length->vU xs (t++[x]) k=vU xs t k
 |0,_=>rfl
 |k+1,h=>by
  rw[vU,vU,vU_app xs t x k (by omega)]
  rw[show (t++[x]).getD k tz=t.getD k tz by rw[getD_eq_getElem?_getD,getElem?_append_left (by omega),<- getD_eq_getElem?_getD]]
theorem snoc_get(t:List jS)(x:jS):(t++[x]).getD t.length tz=x:=by
 rw[getD_eq_getElem?_getD,getElem?_append_right (Nat.le_refl _),Nat.sub_self];rfl
theorem snoc_old(t:List jS)(x:jS){k:Nat}(h:k<t.length):(t++[x]).getD k tz=t.getD k tz:=by
 rw[getD_eq_getElem?_getD,getElem?_append_left h,<- getD_eq_getElem?_getD]
theorem szs_snoc(t:List jS)(x:jS):szs (t++[x])=szs t++[mP (szs t) x]:=by
 unfold szs
 rw[length_append,length_singleton,gM,szU_app t x _ (Nat.le_refl _),snoc_get]
theorem evs_snoc(xs:List Rat)(t:List jS)(x:jS):evs xs (t++[x])=evs xs t++[vV xs (evs xs t) x]:=by
 unfold evs
 rw[length_append,length_singleton,vU,vU_app xs t x _ (Nat.le_refl _),snoc_get]
theorem szs_len(t:List jS):(szs t).length=t.length:=xE _ _
theorem evs_len(xs:List Rat)(t:List jS):(evs xs t).length=t.length:=aD _ _ _
structure GT (xs:List Rat) (z:Int) (t:List jS):Prop where
 nd:bN z t t.length
 up:VUp xs t t.length
theorem GT.nil(xs:List Rat)(z:Int):GT xs z []:=⟨λi h=>absurd h (Nat.not_lt_zero i),⟨λi h=>absurd h (Nat.not_lt_zero i),λi h=>absurd h (Nat.not_lt_zero i)⟩⟩
theorem nd_snoc{z:Int}{t:List jS}{x:jS}(h:bN z t t.length)(hn:ndC z (szs t) x=0):bN z (t++[x]) (t++[x]).length:=λi hi=>by
 rw[length_append,length_singleton] at hi
 rw[szU_app t x i (by omega)]
 rcases Nat.lt_or_ge i t.length with h1 | h1
 ·rw[snoc_old t x h1];exact h i h1
 ·obtain rfl:i=t.length:=by omega
  rw[snoc_get];exact hn
theorem up_snoc{xs:List Rat}{t:List jS}{x:jS}(h:VUp xs t t.length):VUp xs (t++[x]) t.length:=⟨λi hi=>by
  rw[vU_app xs t x i (by omega),snoc_old t x hi];exact h.ok i hi,λi hi=>by
  rw[vU_app xs t x i (by omega),snoc_old t x hi];exact h.dz i hi⟩
theorem GT.snoc{xs:List Rat}{z:Int}{t:List jS}{x:jS}(h:GT xs z t)(hn:ndC z (szs t) x=0)(hq:QL (vV xs (evs xs t) x) 1048576)(hz:x.op=5->(evs xs t).getD x.b.toNat 0≠0):GT xs z (t++[x]) :=
 ⟨nd_snoc h.nd hn,⟨λi hi=>by
  rw[length_append,length_singleton] at hi
  rcases Nat.lt_or_ge i t.length with h1 | h1
  ·exact (up_snoc h.up).ok i h1
  ·obtain rfl:i=t.length:=by omega
   rw[snoc_get,vU_app xs t x _ (Nat.le_refl _)];exact hq,λi hi=>by
  rw[length_append,length_singleton] at hi
  rcases Nat.lt_or_ge i t.length with h1 | h1
  ·exact (up_snoc h.up).dz i h1
  ·obtain rfl:i=t.length:=by omega
   rw[snoc_get,vU_app xs t x _ (Nat.le_refl _)];exact hz⟩⟩
structure NdV (xs:List Rat) (t:List jS) (i:Int) (v:Rat) (s:Int) (n:Nat):Prop where
 lo:0<=i
 hi:i<t.length
 vl:(evs xs t).getD i.toNat 0=v
 s1:1<=(szs t).getD i.toNat 0
 sb:(szs t).getD i.toNat 0<=s
 qb:QL v n
theorem NdV.snoc{xs:List Rat}{t:List jS}{i:Int}{v:Rat}{s:Int}{n:Nat}(h:NdV xs t i v s n)(x:jS):NdV xs (t++[x]) i v s n:=by
 have h1:=h.lo;have h2:=h.hi
 refine ⟨h1,by rw[length_append];omega,?_,?_,?_,h.qb⟩
 ·rw[evs_snoc,getD_eq_getElem?_getD,getElem?_append_left (by rw[evs_len];omega),<- getD_eq_getElem?_getD];exact h.vl
 ·rw[szs_snoc,getD_eq_getElem?_getD,getElem?_append_left (by rw[szs_len];omega),<- getD_eq_getElem?_getD];exact h.s1
 ·rw[szs_snoc,getD_eq_getElem?_getD,getElem?_append_left (by rw[szs_len];omega),<- getD_eq_getElem?_getD];exact h.sb
theorem NdV.up{xs:List Rat}{t:List jS}{i:Int}{v:Rat}{s s':Int}{n n':Nat}(h:NdV xs t i v s n)(hs:s<=s')(hn:n<=n'):NdV xs t i v s' n':=⟨h.lo,h.hi,h.vl,h.s1,Int.le_trans h.sb hs,uG h.qb hn⟩
abbrev tn1 (o a b:Int):jS:=⟨o,a,b,zr⟩
def opT(o:Int)(L:List jS)(a b:Nat->Int):Nat->List jS
 |0=>L
 |i+1=>opT o L a b i++[tn1 o (a i) (b i)]
def opI(m n:Nat):List Int:=(range n).map λi=>((m+i:Nat):Int)
def smI(m:Nat)(f:Int)(i:Nat):Int:=if i=0 then f else ((m+i-1:Nat):Int)
def smT(L:List jS)(f:Int)(r:List Int)(n:Nat):List jS:=opT 2 L (smI L.length f) (λi=>r.getD i 0) n
def sqT(L:List jS)(l:List Int):List jS:=opT 7 L (λi=>l.getD i 0) (λ_=>0) l.length
def pdT(L:List jS)(a b:List Int):List jS:=opT 4 L (λi=>a.getD i 0) (λi=>b.getD i 0) a.length
def ssT(L:List jS)(l:List Int):List jS:=smT (sqT L l) ((opI L.length l.length).getD 0 0) ((opI L.length l.length).drop 1) (l.length-1)
def spT(L:List jS)(a b:List Int):List jS:=smT (pdT L a b) ((opI L.length a.length).getD 0 0) ((opI L.length a.length).drop 1) (a.length-1)
theorem NdV.op{xs:List Rat}{t:List jS}{j:Int}{v:Rat}{s:Int}{n:Nat}(h:NdV xs t j v s n)(o:Int)(a b:Nat->Int):∀ i,NdV xs (opT o t a b i) j v s n
 |0=>h
 |i+1=>(h.op o a b i).snoc _
theorem NdV.ss{xs:List Rat}{t:List jS}{j:Int}{v:Rat}{s:Int}{n:Nat}(h:NdV xs t j v s n)(l:List Int):NdV xs (ssT t l) j v s n:=(h.op _ _ _ _).op _ _ _ _
theorem NdV.sp{xs:List Rat}{t:List jS}{j:Int}{v:Rat}{s:Int}{n:Nat}(h:NdV xs t j v s n)(a b:List Int):NdV xs (spT t a b) j v s n:=(h.op _ _ _ _).op _ _ _ _
theorem GT.c0{xs:List Rat}{z:Int}{t:List jS}(h:GT xs z t)(hz:0<=z/\z<=64)(h1:t.length≠0)(h4:t.length<=400):yT z t=0:=(tm_yes (by omega) h1 (by omega) h.nd).1
theorem GT.run{xs:List Rat}{t:List jS}(h:GT xs ((xs.length:Nat):Int) t)(hz:xs.length<=64)(h1:t.length≠0)(h4:t.length<=400):VRun xs t:=⟨h.c0 (by omega) h1 h4,h.up⟩
def okL(z:Int)(n:Nat)(a:List Int):Prop:=a.length=n/\∀ j,j<n->0<=a.getD j 0/\a.getD j 0<z
def crK(k:Int):Bool:=decide (k<0)||decide (64<=k)
theorem crK_of{a:List Int}(h:a.any crK=false){j:Nat}(hj:j<a.length):0<=a.getD j 0/\a.getD j 0<64:=by
 have:=any_eq_false.1 h (a.getD j 0) (by rw[getD_eq_getElem?_getD,getElem?_eq_getElem hj];exact getElem_mem _)
 unfold crK at this
 rw[Bool.not_eq_true,Bool.or_eq_false_iff,decide_eq_false_iff_not,decide_eq_false_iff_not] at this
 omega
structure CrOk (ls:List (List Int)) (n:Nat):Prop where
 n1:1<=n
 n3:n<=3
 all:∀ a∈ls,a.length=n/\a.any crK=false
theorem CrOk.le{ls:List (List Int)}{n:Nat}(h:CrOk ls n){a:List Int}(ha:a∈ls){z:Int}(hb:∀ k∈a,¬ (8<k/\k<64))(hz:z=9):okL z n a:=by
 obtain ⟨h1,h2⟩:=h.all a ha
 refine ⟨h1,λj hj=>?_⟩
 have:=crK_of h2 (j:=j) (by omega)
 have:=hb (a.getD j 0) (by rw[getD_eq_getElem?_getD,getElem?_eq_getElem (by omega)];exact getElem_mem _)
 omega
end Go.Fid
