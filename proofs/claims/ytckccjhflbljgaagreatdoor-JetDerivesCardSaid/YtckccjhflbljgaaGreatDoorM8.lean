/- Part 8 of a proof: rules, plain facts, and functions walked. -/
import Derived.Test.YtckccjhflbljgaaGreatDoorM7
import Derived.Test.YtckccjhflbljgaaGreatDoorM5
set_option linter.all false
set_option maxRecDepth 4000
namespace Go.Fid
open List
def up:SL->SL->SL
 |[],S=>S
 |p::D,S=>p::up D S
def upB:BS->BS->BS
 |[],S=>S
 |p::D,S=>p::upB D S
def inS(D:SL)(t:Nat):Bool:=D.any λp=>Nat.beq p.1 t
def inB(D:BS)(t:Nat):Bool:=D.any λp=>Nat.beq p.1 t
def isJ:SV->Bool
 |.junk=>true
 |_=>false
theorem isJ_eq{x:SV}(h:isJ x=true):x=.junk:=by cases x<;>first | rfl | cases h
theorem sget_up(D S:SL)(t:Nat):kD (up D S) t=bif inS D t then kD D t else kD S t:=by
 induction D with
 |nil=>rfl
 |cons p D ih=>
  obtain ⟨j,x⟩:=p
  show kD ((j,x)::up D S) t=bif (Nat.beq j t||inS D t) then _ else _
  rw[qQ,qQ,ih]
  by_cases h:j=t
  ·subst h;simp
  ·have:Nat.beq j t=false:=by rw[<- Bool.not_eq_true];exact λe=>h (Nat.eq_of_beq_eq_true e)
   rw[if_neg h,if_neg h,this,Bool.false_or]
theorem bget_up(D S:BS)(t:Nat):kC (upB D S) t=bif inB D t then kC D t else kC S t:=by
 induction D with
 |nil=>rfl
 |cons p D ih=>
  obtain ⟨j,x⟩:=p
  show kC ((j,x)::upB D S) t=bif (Nat.beq j t||inB D t) then _ else _
  rw[jI,jI,ih]
  by_cases h:j=t
  ·subst h;simp
  ·have:Nat.beq j t=false:=by rw[<- Bool.not_eq_true];exact λe=>h (Nat.eq_of_beq_eq_true e)
   rw[if_neg h,if_neg h,this,Bool.false_or]
theorem sget_out{D:SL}{t:Nat}(h:inS D t=false):kD D t=.junk:=by
 induction D with
 |nil=>rfl
 |cons p D ih=>
  obtain ⟨j,x⟩:=p
  simp only[inS,any_cons,Bool.or_eq_false_iff] at h
  rw[qQ,if_neg (λe=>by subst e;simp at h),ih h.2]
theorem up_app(W S:SL):up W S=W++S:=by
 induction W with
 |nil=>rfl
 |cons p W ih=>show p::up W S=p::(W++S);rw[ih]
theorem upB_app(W S:BS):upB W S=W++S:=by
 induction W with
 |nil=>rfl
 |cons p W ih=>show p::upB W S=p::(W++S);rw[ih]
structure FinS (S0 D Sf:SL):Prop where
 d:D.map (λp=>kD Sf p.1)=D.map (·.2)
 k:Sf.drop (Sf.length-S0.length)=S0
 j:((Sf.take (Sf.length-S0.length)).all λp=>inS D p.1||isJ (kD S0 p.1))=true
structure FinB (B0 E Bf:BS):Prop where
 d:(E.filter λp=>p.2.isSome).map (λp=>kC Bf p.1)=(E.filter λp=>p.2.isSome).map (·.2)
 k:Bf.drop (Bf.length-B0.length)=B0
 j:((Bf.take (Bf.length-B0.length)).all λp=>inB E p.1)=true
structure FinF (S0 D Sf:SL):Prop where
 d:D.map (λp=>kD Sf p.1)=D.map (·.2)
 j:((S0.filter λp=>!inS D p.1).map λp=>kD S0 p.1)=((S0.filter λp=>!inS D p.1).map λp=>kD Sf p.1)
theorem FinS.get{S0 D Sf:SL}(h:FinS S0 D Sf)(t:Nat):kD (up D S0) t=.junk\/kD (up D S0) t=kD Sf t:=by
 rw[sget_up]
 cases hD:inS D t with
 |true=>exact fW h.d t
 |false=>
  rw[cond_false]
  have e:Sf=up (Sf.take (Sf.length-S0.length)) S0:=by rw[up_app];conv=>lhs;rw[<- take_append_drop (Sf.length-S0.length) Sf,h.k]
  cases hW:inS (Sf.take (Sf.length-S0.length)) t with
  |false=>right;conv=>rhs;rw[e,sget_up,hW,cond_false]
  |true=>
   left
   simp only[inS,any_eq_true] at hW
   obtain ⟨p,hp,hpt⟩:=hW
   have:=all_eq_true.1 h.j p hp
   rw[Nat.eq_of_beq_eq_true hpt,hD,Bool.false_or] at this
   exact isJ_eq this
theorem FinF.get{S0 D Sf:SL}(h:FinF S0 D Sf)(t:Nat):kD (up D S0) t=.junk\/kD (up D S0) t=kD Sf t:=by
 rw[sget_up]
 cases hD:inS D t with
 |true=>exact fW h.d t
 |false=>
  rw[cond_false]
  cases hS:inS S0 t with
  |false=>left;exact sget_out hS
  |true=>
   right
   simp only[inS,any_eq_true] at hS
   obtain ⟨p,hp,hpt⟩:=hS
   have hpt:=Nat.eq_of_beq_eq_true hpt
   subst hpt
   exact map_inj_left.1 h.j p (mem_filter.2 ⟨hp,by rw[hD];rfl⟩)
theorem FinB.get{B0 E Bf:BS}(h:FinB B0 E Bf){k:Nat}{c:List SV}(hc:kC (upB E B0) k=some c):kC Bf k=some c:=by
 rw[bget_up] at hc
 cases hD:inB E k with
 |true=>
  rw[hD,cond_true] at hc
  exact map_inj_left.1 h.d (k,some c) (mem_filter.2 ⟨aA hc,rfl⟩)
 |false=>
  rw[hD,cond_false] at hc
  have e:Bf=upB (Bf.take (Bf.length-B0.length)) B0:=by rw[upB_app];conv=>lhs;rw[<- take_append_drop (Bf.length-B0.length) Bf,h.k]
  cases hW:inB (Bf.take (Bf.length-B0.length)) k with
  |false=>rw[e,bget_up,hW,cond_false];exact hc
  |true=>
   simp only[inB,any_eq_true] at hW
   obtain ⟨p,hp,hpt⟩:=hW
   have:=all_eq_true.1 h.j p hp
   rw[Nat.eq_of_beq_eq_true hpt,hD] at this
   cases this
theorem sim_get{S B S' B'}(h1:∀ t,kD S' t=.junk\/kD S' t=kD S t)(h2:∀ k c,kC B' k=some c->kC B k=some c):xI ⟨S,B⟩ ⟨S',B'⟩:=λC a w ⟨D,β,hs⟩=>
 ⟨D,β,hs.base,⟨λk cs hk=>hs.mem.ok k cs (h2 _ _ hk),λk1 k2 c1 c2 q1 q2=>hs.mem.inj k1 k2 c1 c2 (h2 _ _ q1) (h2 _ _ q2)⟩,λk c hk=>hs.high k c (h2 _ _ hk),λt=>by
  rcases h1 t with h | h
  ·show kZ w D β _ (kD S' t)
   rw[h];trivial
  ·show kZ w D β _ (kD S' t)
   rw[h];exact hs.slots t⟩
theorem wk{st:PS}{l:SL}{b:BS}(h1:l.map (λp=>kD st.sl p.1)=l.map (·.2):=by kernel_rfl)(h2:b.map (λp=>kC st.bs p.1)=b.map (·.2):=by kernel_rfl):xI st ⟨l,b⟩:=weak h1 h2
def SK(P:Program)(n:Fr)(ops:Array Oper)(K:SL->BS->Prop)(S:SL)(B:BS)(l:List Oper):Prop:=∃ st1,Steps P n ops ⟨S,B⟩ l st1/\K st1.sl st1.bs
def DK(P:Program)(n:Fr)(ops:Array Oper)(K:SL->BS->Prop)(news:List Nat)(acc0:List (List Nat × List Nat))(S:SL)(B:BS)(l:List Oper):Prop :=
 ∃ st1 acc,DSteps P n ops news ⟨S,B⟩ l acc st1/\orderB ops (acc0++acc)=true/\K st1.sl st1.bs
def KS(S0:SL)(B0:BS)(D:SL)(E:BS)(Sf:SL)(Bf:BS):Prop:=FinS S0 D Sf/\FinB B0 E Bf
def KF(S0:SL)(B0:BS)(D:SL)(E:BS)(Sf:SL)(Bf:BS):Prop:=FinF S0 D Sf/\FinB B0 E Bf
def dO(o:Oper):Tmp:=o.dst.getD 0
def goK(n:Fr)(ops:Array Oper)(S:SL)(o:Oper):Bool:=match o.dst with
 |some d=>match zL ops S o with
  |some true=>nE n (some d)
  |_=>false
 |none=>false
theorem yV{n:Fr}{ops:Array Oper}{S:SL}{o:Oper}(h:goK n ops S o=true):o.dst=some (dO o)/\zL ops S o=some true/\nE n (some (dO o))=true:=by
 unfold goK at h
 unfold dO
 split at h
 ·rename_i d hd
  split at h
  ·rename_i hg;rw[hd];exact ⟨rfl,hg,h⟩
  ·cases h
 ·cases h
def goF(n:Fr)(ops:Array Oper)(S:SL)(o:Oper):Bool:=match o.dst with
 |some d=>match zL ops S o with
  |some false=>nE n (some d)
  |_=>false
 |none=>false
theorem goF_spec{n:Fr}{ops:Array Oper}{S:SL}{o:Oper}(h:goF n ops S o=true):o.dst=some (dO o)/\zL ops S o=some false/\nE n (some (dO o))=true:=by
 unfold goF at h
 unfold dO
 split at h
 ·rename_i d hd
  split at h
  ·rename_i hg;rw[hd];exact ⟨rfl,hg,h⟩
  ·cases h
 ·cases h
def goT(ops:Array Oper)(S:SL)(o:Oper):Bool:=match o.dst with
 |some _=>false
 |none=>match zL ops S o with
  |some true=>true
  |_=>false
theorem goT_spec{ops:Array Oper}{S:SL}{o:Oper}(h:goT ops S o=true):o.dst=none/\zL ops S o=some true:=by
 unfold goT at h
 split at h
 ·cases h
 ·rename_i hd
  split at h
  ·rename_i hg;exact ⟨hd,hg⟩
  ·cases h
def mvV(S:SL)(o:Oper):SV:=match o.op with
 |.move x=>ev (kD S) x
 |.assign x=>ev (kD S) x
 |_=>.junk
def mvK(o:Oper):Bool:=match o.op with
 |.move _=>true
 |.assign _=>true
 |_=>false
def ROk(P:Program)(o:Oper)(S:SL)(B:BS)(k:Nat)(x:SV):Prop:=∃ cs,uP P o (kD S) [(k,cs)] x/\kC B k=some cs
def TK(P:Program)(o:Oper)(S:SL)(B:BS)(k:Nat)(cs:List SV):Prop:=∃ old,TOk P o (kD S) k old cs/\kC B k=some old
section
variable {P:Program} {n:Fr} {ops:Array Oper} {K:SL->BS->Prop} {S:SL} {B:BS} {l:List Oper} {o:Oper} {news:List Nat} {acc0:List (List Nat × List Nat)}
theorem qA(h:mvK o=true):uP P o (kD S) [] (mvV S o):=by
 unfold mvK at h
 unfold mvV
 split at h
 ·rename_i x hx;exact e_move (.inl hx)
 ·rename_i x hx;exact e_move (.inr hx)
 ·cases h
theorem zE{x:SV}(h:uP P o (kD S) [] x)(r:SK P n ops K ((dO o,x)::S) B l)(g:goK n ops S o=true:=by kernel_rfl):SK P n ops K S B (o::l):=by
 obtain ⟨st1,r1,r2⟩:=r
 obtain ⟨hd,hg,hb⟩:=yV g
 have hs:=Step.e (P:=P) (n:=n) (ops:=ops) (st:=⟨S,B⟩) (o:=o) h hg (by rw[hd];exact hb) (by simp)
 rw[hd] at hs
 exact ⟨st1,.cons hs r1,r2⟩
theorem zM(r:SK P n ops K ((dO o,mvV S o)::S) B l)(h:mvK o=true:=by kernel_rfl)(g:goK n ops S o=true:=by kernel_rfl):SK P n ops K S B (o::l):=zE (qA h) r g
theorem zR{k:Nat}{x:SV}(h:ROk P o S B k x)(r:SK P n ops K ((dO o,x)::S) B l)(g:goK n ops S o=true:=by kernel_rfl):SK P n ops K S B (o::l):=by
 obtain ⟨st1,r1,r2⟩:=r
 obtain ⟨cs,h,hbk⟩:=h
 obtain ⟨hd,hg,hb⟩:=yV g
 have hs:=Step.e (P:=P) (n:=n) (ops:=ops) (st:=⟨S,B⟩) (o:=o) h hg (by rw[hd];exact hb) (by simpa using hbk)
 rw[hd] at hs
 exact ⟨st1,.cons hs r1,r2⟩
theorem zN{k:Nat}{cs:List SV}{x:SV}(h:NOk P o (kD S) k cs x)(r:SK P n ops K ((dO o,x)::S) ((k,some cs)::B) l)(g:goK n ops S o=true:=by kernel_rfl)(hf:gN k ⟨S,B⟩=true:=by kernel_rfl):SK P n ops K S B (o::l):=by
 obtain ⟨st1,r1,r2⟩:=r
 obtain ⟨hd,hg,hb⟩:=yV g
 have hs:=Step.n (P:=P) (n:=n) (ops:=ops) (st:=⟨S,B⟩) (o:=o) h hg (by rw[hd];exact hb) hf
 rw[hd] at hs
 exact ⟨st1,.cons hs r1,r2⟩
theorem zH{k:Nat}{cs:List SV}{x:SV}(h:NOk P o (kD S) k cs x)(r:SK P n ops K ((dO o,x)::S) ((k,some cs)::B) l)(g:goK n ops S o=true:=by kernel_rfl)(h1:(S.all λp=>!p.2.names k)=true:=by kernel_rfl)
  (h2:FrB k B:=by repeat first | exact frb_nil _ | refine frb_map rfl ?_ | refine frb_d rfl ?_ | refine frb_cs rfl rfl ?_ | refine frb_none rfl ?_):SK P n ops K S B (o::l):=zN h r g (bO h1 h2)
theorem zT{k:Nat}{cs:List SV}(h:TK P o S B k cs)(r:SK P n ops K S ((k,some cs)::B) l)(g:goT ops S o=true:=by kernel_rfl):SK P n ops K S B (o::l):=by
 obtain ⟨st1,r1,r2⟩:=r
 obtain ⟨old,h,hb⟩:=h
 obtain ⟨hd,hg⟩:=goT_spec g
 have hs:=Step.t (P:=P) (n:=n) (ops:=ops) (st:=⟨S,B⟩) (o:=o) h hg (by rw[hd];rfl) hb
 rw[hd] at hs
 exact ⟨st1,.cons hs r1,r2⟩
theorem zK(r:SK P n ops K ((dO o,.d (.tup []))::S) B l)(g:goF n ops S o=true:=by kernel_rfl):SK P n ops K S B (o::l):=by
 obtain ⟨st1,r1,r2⟩:=r
 obtain ⟨hd,hg,hb⟩:=goF_spec g
 have hs:=Step.skip (P:=P) (n:=n) (ops:=ops) (st:=⟨S,B⟩) (o:=o) hg (by rw[hd];exact hb)
 rw[hd] at hs
 exact ⟨st1,.cons hs r1,r2⟩
theorem zX{S1:SL}{B1:BS}(h:∀ (C:Ctx) (a:Act) (w:World) (Q:Exit->Act->World->Prop),C.n=n->dQ C a w ⟨S,B⟩->o.wp P a w (λa' w'=>dQ C a' w' ⟨S1,B1⟩) Q)(hg:zL ops S o=some true)(r:SK P n ops K S1 B1 l):SK P n ops K S B (o::l):=by
 obtain ⟨st1,r1,r2⟩:=r
 exact ⟨st1,.cons (.sem h hg) r1,r2⟩
section
variable {S0:SL} {B0:BS} {D:SL} {E:BS}
theorem zZ(h1:D.map (λp=>kD S p.1)=D.map (·.2):=by kernel_rfl)(h2:S.drop (S.length-S0.length)=S0:=by kernel_rfl)(h3:((S.take (S.length-S0.length)).all λp=>inS D p.1||isJ (kD S0 p.1))=true:=by kernel_rfl)
  (h4:(E.filter λp=>p.2.isSome).map (λp=>kC B p.1)=(E.filter λp=>p.2.isSome).map (·.2):=by kernel_rfl) (h5:B.drop (B.length-B0.length)=B0:=by kernel_rfl) (h6:((B.take (B.length-B0.length)).all λp=>inB E p.1)=true:=by kernel_rfl):SK P n ops (KS S0 B0 D E) S B [] :=
 ⟨⟨S,B⟩,.nil,⟨h1,h2,h3⟩,⟨h4,h5,h6⟩⟩
theorem zF(h1:D.map (λp=>kD S p.1)=D.map (·.2):=by kernel_rfl)(h2:((S0.filter λp=>!inS D p.1).map λp=>kD S0 p.1)=((S0.filter λp=>!inS D p.1).map λp=>kD S p.1):=by kernel_rfl)
  (h4:(E.filter λp=>p.2.isSome).map (λp=>kC B p.1)=(E.filter λp=>p.2.isSome).map (·.2):=by kernel_rfl) (h5:B.drop (B.length-B0.length)=B0:=by kernel_rfl) (h6:((B.take (B.length-B0.length)).all λp=>inB E p.1)=true:=by kernel_rfl):SK P n ops (KF S0 B0 D E) S B [] :=
 ⟨⟨S,B⟩,.nil,⟨h1,h2⟩,⟨h4,h5,h6⟩⟩
theorem wZ(h1:D.map (λp=>kD S p.1)=D.map (·.2):=by kernel_rfl)(h2:S.drop (S.length-S0.length)=S0:=by kernel_rfl)(h3:((S.take (S.length-S0.length)).all λp=>inS D p.1||isJ (kD S0 p.1))=true:=by kernel_rfl)
  (h4:(E.filter λp=>p.2.isSome).map (λp=>kC B p.1)=(E.filter λp=>p.2.isSome).map (·.2):=by kernel_rfl) (h5:B.drop (B.length-B0.length)=B0:=by kernel_rfl) (h6:((B.take (B.length-B0.length)).all λp=>inB E p.1)=true:=by kernel_rfl) (h7:orderB ops acc0=true:=by kernel_rfl):DK P n ops (KS S0 B0 D E) news acc0 S B [] :=
 ⟨⟨S,B⟩,[],.nil,by simpa using h7,⟨h1,h2,h3⟩,⟨h4,h5,h6⟩⟩
theorem kx{id:Nat}{Q:Exit->PS->Prop}(D:SL)(E:BS)(h:SK P n l.toArray (KS S0 B0 D E) S0 B0 l)(hq:Q .normal ⟨up D S0,upB E B0⟩)(hp:l.all yZ=true:=by kernel_rfl):eM P n (.region id l.toArray false) Q ⟨S0,B0⟩:=λC a w N hn hs=>by
 obtain ⟨st1,h1,h2,h3⟩:=h
 subst hn
 exact wpIn_region_lit (steps_sound (C:=C) h1 hp rfl (λa' w' hs'=>⟨_,sim_get h2.get (λk c=>h3.get) C a' w' hs',hq⟩) hs)
theorem kf{id:Nat}{Q:Exit->PS->Prop}(D:SL)(E:BS)(h:SK P n l.toArray (KF S0 B0 D E) S0 B0 l)(hq:Q .normal ⟨up D S0,upB E B0⟩)(hp:l.all yZ=true:=by kernel_rfl):eM P n (.region id l.toArray false) Q ⟨S0,B0⟩:=λC a w N hn hs=>by
 obtain ⟨st1,h1,h2,h3⟩:=h
 subst hn
 exact wpIn_region_lit (steps_sound (C:=C) h1 hp rfl (λa' w' hs'=>⟨_,sim_get h2.get (λk c=>h3.get) C a' w' hs',hq⟩) hs)
theorem kd{id:Nat}{Q:Exit->PS->Prop}(D:SL)(E:BS)(hm:P.follows .mixedOrders=true)(h:DK P n l.toArray (KS S0 B0 D E) [] [] S0 B0 l)(hq:Q .normal ⟨up D S0,upB E B0⟩)(hb:backB l.toArray=true:=by kernel_rfl)(hp:l.all yZ=true:=by kernel_rfl):eM P n (.region id l.toArray true) Q ⟨S0,B0⟩:=λC a w N hn hs=>by
 obtain ⟨st1,acc,h1,h0,h2,h3⟩:=h
 subst hn
 exact wpIn_region_any hm (draw_sound (C:=C) rfl (by simpa using h1) (by simpa using h0) hb (by simpa using hp) (λa' w' hs'=>⟨_,sim_get h2.get (λk c=>h3.get) C a' w' hs',hq⟩) hs)
end
theorem wE{x:SV}(h:uP P o (kD S) [] x)(r:DK P n ops K news (acc0++[([],[])]) ((dO o,x)::S) B l)(g:goK n ops S o=true:=by kernel_rfl)(hn:clearR ops S o news x=true:=by kernel_rfl):DK P n ops K news acc0 S B (o::l):=by
 obtain ⟨st1,acc,r1,r0,r2⟩:=r
 obtain ⟨hd,hg,hb⟩:=yV g
 have hs:=mV.e (P:=P) (n:=n) (ops:=ops) (news:=news) (st:=⟨S,B⟩) (o:=o) h hg (by rw[hd];exact hb) (by simp) hn
 rw[hd] at hs
 exact ⟨st1,([],[])::acc,.cons hs r1,by simpa using r0,r2⟩
theorem wM(r:DK P n ops K news (acc0++[([],[])]) ((dO o,mvV S o)::S) B l)(h:mvK o=true:=by kernel_rfl)(g:goK n ops S o=true:=by kernel_rfl)(hn:clearR ops S o news (mvV S o)=true:=by kernel_rfl):DK P n ops K news acc0 S B (o::l):=wE (qA h) r g hn
theorem wR{k:Nat}{x:SV}(h:ROk P o S B k x)(r:DK P n ops K news (acc0++[([k],[])]) ((dO o,x)::S) B l)(g:goK n ops S o=true:=by kernel_rfl)(hn:clearR ops S o news x=true:=by kernel_rfl):DK P n ops K news acc0 S B (o::l):=by
 obtain ⟨st1,acc,r1,r0,r2⟩:=r
 obtain ⟨cs,h,hbk⟩:=h
 obtain ⟨hd,hg,hb⟩:=yV g
 have hs:=mV.e (P:=P) (n:=n) (ops:=ops) (news:=news) (st:=⟨S,B⟩) (o:=o) h hg (by rw[hd];exact hb) (by simpa using hbk) hn
 rw[hd] at hs
 exact ⟨st1,([k],[])::acc,.cons hs r1,by simpa using r0,r2⟩
theorem wN{k:Nat}{cs:List SV}{x:SV}(h:NOk P o (kD S) k cs x)(r:DK P n ops K (k::news) (acc0++[([],[k])]) ((dO o,x)::S) ((k,some cs)::B) l)(g:goK n ops S o=true:=by kernel_rfl)(hf:gN k ⟨S,B⟩=true:=by kernel_rfl)(hn:clear1 news x=true:=by kernel_rfl)(hc:bF news cs=true:=by kernel_rfl):DK P n ops K news acc0 S B (o::l):=by
 obtain ⟨st1,acc,r1,r0,r2⟩:=r
 obtain ⟨hd,hg,hb⟩:=yV g
 have hs:=mV.n (P:=P) (n:=n) (ops:=ops) (news:=news) (st:=⟨S,B⟩) (o:=o) h hg (by rw[hd];exact hb) hf hn hc
 rw[hd] at hs
 exact ⟨st1,([],[k])::acc,.cons hs r1,by simpa using r0,r2⟩
theorem wH{k:Nat}{cs:List SV}{x:SV}(h:NOk P o (kD S) k cs x)(r:DK P n ops K (k::news) (acc0++[([],[k])]) ((dO o,x)::S) ((k,some cs)::B) l)(hc:bF news cs=true)(g:goK n ops S o=true:=by kernel_rfl)(h1:(S.all λp=>!p.2.names k)=true:=by kernel_rfl)
  (h2:FrB k B:=by repeat first | exact frb_nil _ | refine frb_map rfl ?_ | refine frb_d rfl ?_ | refine frb_cs rfl rfl ?_ | refine frb_none rfl ?_) (hn:clear1 news x=true:=by kernel_rfl):DK P n ops K news acc0 S B (o::l):=wN h r g (bO h1 h2) hn hc
theorem wT{k:Nat}{cs:List SV}(h:TK P o S B k cs)(r:DK P n ops K news (acc0++[([k],[k])]) S ((k,some cs)::B) l)(g:goT ops S o=true:=by kernel_rfl)(hc:clearLR ops S o news cs=true:=by kernel_rfl):DK P n ops K news acc0 S B (o::l):=by
 obtain ⟨st1,acc,r1,r0,r2⟩:=r
 obtain ⟨old,h,hb⟩:=h
 obtain ⟨hd,hg⟩:=goT_spec g
 have hs:=mV.t (P:=P) (n:=n) (ops:=ops) (news:=news) (st:=⟨S,B⟩) (o:=o) h hg (by rw[hd];rfl) hb hc
 rw[hd] at hs
 exact ⟨st1,([k],[k])::acc,.cons hs r1,by simpa using r0,r2⟩
theorem wK(r:DK P n ops K news (acc0++[([],[])]) ((dO o,.d (.tup []))::S) B l)(g:goF n ops S o=true:=by kernel_rfl):DK P n ops K news acc0 S B (o::l):=by
 obtain ⟨st1,acc,r1,r0,r2⟩:=r
 obtain ⟨hd,hg,hb⟩:=goF_spec g
 have hs:=mV.skip (P:=P) (n:=n) (ops:=ops) (news:=news) (st:=⟨S,B⟩) (o:=o) hg (by rw[hd];exact hb)
 rw[hd] at hs
 exact ⟨st1,([],[])::acc,.cons hs r1,by simpa using r0,r2⟩
end
def gK:SV->jY
 |.d x=>x
 |_=>.tup []
def isD:SV->Bool
 |.d _=>true
 |_=>false
def kLo:IntKind->Int
 |.i64=>-9223372036854775808
 |.u64=>0
 |.u32=>0
 |.u8=>0
 |_=>1
def kHi:IntKind->Int
 |.i64=>9223372036854775807
 |.u64=>18446744073709551615
 |.u32=>4294967295
 |.u8=>255
 |_=>0
theorem wAny{k:IntKind}{m r:Int}(h:m=r)(h1:kLo k<=r)(h2:r<=kHi k):k.wrap m=r:=by
 cases k<;>simp only[kLo,kHi] at h1 h2<;>first | exact wi64 h h1 h2 | exact wu64 h h1 h2 | exact wu32 h h1 h2 | exact wu8 h h1 h2 | (exfalso;omega)
def kHiN:IntKind->Nat
 |.i64=>9223372036854775807
 |.u64=>18446744073709551615
 |.u32=>4294967295
 |.u8=>255
 |_=>0
theorem wNat{k:IntKind}{m:Int}{r:Nat}(h:m=((r:Nat):Int))(h2:r<=kHiN k)(h1:kLo k<=0):k.wrap m=((r:Nat):Int):=by
 refine wAny h (Int.le_trans h1 (Int.natCast_nonneg _)) ?_
 cases k<;>simp only[kHi,kHiN] at h2 ⊢<;>first | omega | (exfalso;revert h1;decide)
theorem qAny{k:IntKind}(a b:Nat)(h:a<=kHiN k)(h1:kLo k<=0):k.wrap (Int.tdiv (a:Int) (b:Int))=((a / b:Nat):Int) :=
 wNat rfl (Nat.le_trans (Nat.div_le_self a b) h) h1
theorem isD_eq{x:SV}(h:isD x=true):x=.d (gK x):=by cases x<;>first | rfl | cases h
section
variable {P:Program} {o:Oper} {S:Nat->SV} {T T':TypeId} {x y c:Operand} {k l:IntKind} {m n:Int}
theorem xO(r:Nat)(ho:o.op=.binOp .add T x y T':=by exact rfl)(hx:ev S x=.d (.val (.int k m)):=by exact rfl)(hy:ev S y=.d (.val (.int k n)):=by exact rfl)(hr:k.wrap (m+n)=((r:Nat):Int):=by exact wNat (by first | rfl | omega | (dsimp only;omega)) (by simp only[kHiN];omega) (by decide)):uP P o S [] (.d (.val (.int k ((r:Nat):Int)))):=e_add ho hx hy hr
theorem oSb(r:Nat)(ho:o.op=.binOp .sub T x y T':=by exact rfl)(hx:ev S x=.d (.val (.int k m)):=by exact rfl)(hy:ev S y=.d (.val (.int k n)):=by exact rfl)(hr:k.wrap (m-n)=((r:Nat):Int):=by exact wNat (by first | rfl | omega | (dsimp only;omega)) (by simp only[kHiN];omega) (by decide)):uP P o S [] (.d (.val (.int k ((r:Nat):Int)))):=e_sub ho hx hy hr
theorem oMl(r:Nat)(ho:o.op=.binOp .mul T x y T':=by exact rfl)(hx:ev S x=.d (.val (.int k m)):=by exact rfl)(hy:ev S y=.d (.val (.int k n)):=by exact rfl)(hr:k.wrap (m*n)=((r:Nat):Int):=by exact wNat (by first | rfl | omega | (dsimp only;omega)) (by simp only[kHiN];omega) (by decide)):uP P o S [] (.d (.val (.int k ((r:Nat):Int)))):=e_mul ho hx hy hr
theorem zAd(r:Int)(ho:o.op=.binOp .add T x y T':=by exact rfl)(hx:ev S x=.d (.val (.int k m)):=by exact rfl)(hy:ev S y=.d (.val (.int k n)):=by exact rfl)(hr:k.wrap (m+n)=r:=by exact wAny (by first | omega | (dsimp only;omega)) (by simp only[kLo];omega) (by simp only[kHi];omega)):uP P o S [] (.d (.val (.int k r))):=e_add ho hx hy hr
theorem zSb(r:Int)(ho:o.op=.binOp .sub T x y T':=by exact rfl)(hx:ev S x=.d (.val (.int k m)):=by exact rfl)(hy:ev S y=.d (.val (.int k n)):=by exact rfl)(hr:k.wrap (m-n)=r:=by exact wAny (by first | omega | (dsimp only;omega)) (by simp only[kLo];omega) (by simp only[kHi];omega)):uP P o S [] (.d (.val (.int k r))):=e_sub ho hx hy hr
theorem zMl(r:Int)(ho:o.op=.binOp .mul T x y T':=by exact rfl)(hx:ev S x=.d (.val (.int k m)):=by exact rfl)(hy:ev S y=.d (.val (.int k n)):=by exact rfl)(hr:k.wrap (m*n)=r:=by exact wAny (by first | omega | (dsimp only;omega)) (by simp only[kLo];omega) (by simp only[kHi];omega)):uP P o S [] (.d (.val (.int k r))):=e_mul ho hx hy hr
theorem oQu(r:Nat)(ho:o.op=.binOp .quo T x y T':=by exact rfl)(hx:ev S x=.d (.val (.int k m)):=by exact rfl)(hy:ev S y=.d (.val (.int k n)):=by exact rfl)(h0:n≠0:=by first | decide | omega)(hr:k.wrap (m.tdiv n)=((r:Nat):Int):=by exact qAny _ _ (by simp only[kHiN];omega) (by decide)):uP P o S [] (.d (.val (.int k ((r:Nat):Int)))):=e_quo ho hx hy h0 hr
theorem oRe(r:Nat)(ho:o.op=.binOp .rem T x y T':=by exact rfl)(hx:ev S x=.d (.val (.int k m)):=by exact rfl)(hy:ev S y=.d (.val (.int k n)):=by exact rfl)(h0:n≠0:=by first | decide | omega)(hr:m.tmod n=((r:Nat):Int):=by exact tmod_nat _ _):uP P o S [] (.d (.val (.int k ((r:Nat):Int)))):=e_rem ho hx hy h0 hr
theorem xL(ho:o.op=.binOp .eql T x y T':=by exact rfl)(hx:ev S x=.d (.val (.int k m)):=by exact rfl)(hy:ev S y=.d (.val (.int k n)):=by exact rfl):uP P o S [] (.d (.val (.bool (m == n)))):=e_eql ho hx hy
theorem aZ(ho:o.op=.binOp .neq T x y T':=by exact rfl)(hx:ev S x=.d (.val (.int k m)):=by exact rfl)(hy:ev S y=.d (.val (.int k n)):=by exact rfl):uP P o S [] (.d (.val (.bool (m != n)))):=e_neq ho hx hy
theorem gX(ho:o.op=.binOp .lss T x y T':=by exact rfl)(hx:ev S x=.d (.val (.int k m)):=by exact rfl)(hy:ev S y=.d (.val (.int k n)):=by exact rfl):uP P o S [] (.d (.val (.bool (decide (m<n))))):=e_lss ho hx hy
theorem oLe(ho:o.op=.binOp .leq T x y T':=by exact rfl)(hx:ev S x=.d (.val (.int k m)):=by exact rfl)(hy:ev S y=.d (.val (.int k n)):=by exact rfl):uP P o S [] (.d (.val (.bool (decide (m<=n))))):=e_leq ho hx hy
theorem eR(ho:o.op=.binOp .gtr T x y T':=by exact rfl)(hx:ev S x=.d (.val (.int k m)):=by exact rfl)(hy:ev S y=.d (.val (.int k n)):=by exact rfl):uP P o S [] (.d (.val (.bool (decide (n<m))))):=e_gtr ho hx hy
theorem oGe(ho:o.op=.binOp .geq T x y T':=by exact rfl)(hx:ev S x=.d (.val (.int k m)):=by exact rfl)(hy:ev S y=.d (.val (.int k n)):=by exact rfl):uP P o S [] (.d (.val (.bool (decide (n<=m))))):=e_geq ho hx hy
theorem oEb(hT:boolB P T=true){p q:Bool}(ho:o.op=.binOp .eql T x y T':=by exact rfl)(hx:ev S x=.d (.val (.bool p)):=by exact rfl)(hy:ev S y=.d (.val (.bool q)):=by exact rfl):uP P o S [] (.d (.val (.bool (p == q)))):=e_eqlb ho hT hx hy
theorem oNb(hT:boolB P T=true){p q:Bool}(ho:o.op=.binOp .neq T x y T':=by exact rfl)(hx:ev S x=.d (.val (.bool p)):=by exact rfl)(hy:ev S y=.d (.val (.bool q)):=by exact rfl):uP P o S [] (.d (.val (.bool (!(p == q))))):=e_neqb ho hT hx hy
theorem cU{b:Bool}(ho:o.op=.unOp .not T x:=by exact rfl)(hx:ev S x=.d (.val (.bool b)):=by exact rfl):uP P o S [] (.d (.val (.bool !b))):=e_not ho hx
theorem oNg(r:Int)(ho:o.op=.unOp .neg T x:=by exact rfl)(hx:ev S x=.d (.val (.int k n)):=by exact rfl)(hr:k.wrap (0-n)=r:=by exact wAny (by first | omega | (dsimp only;omega)) (by simp only[kLo];omega) (by simp only[kHi];omega)):uP P o S [] (.d (.val (.int k r))):=e_neg ho hx hr
theorem cA{src dst:TypeId}(hs:(P.underlying src).isSome=true)(hd:intB P dst=some l)(r:Nat)(ho:o.op=.convert src dst x:=by exact rfl)(hx:ev S x=.d (.val (.int k n)):=by exact rfl)(hr:l.wrap n=((r:Nat):Int):=by exact wNat (by first | rfl | omega | (dsimp only;omega)) (by simp only[kHiN];omega) (by decide)):uP P o S [] (.d (.val (.int l ((r:Nat):Int)))):=e_conv ho hs hd hx hr
theorem oMx(r:Nat)(ho:o.op=.call { callee:=.builtin .max,args:=#[x,y],argTypes:=#[T,T'] }:=by exact rfl)(hx:ev S x=.d (.val (.int k m)):=by exact rfl)(hy:ev S y=.d (.val (.int k n)):=by exact rfl)(hr:(if m<n then n else m)=((r:Nat):Int):=by omega):uP P o S [] (.d (.val (.int k ((r:Nat):Int)))):=e_maxn ho hx hy hr
theorem oMn(r:Nat)(ho:o.op=.call { callee:=.builtin .min,args:=#[x,y],argTypes:=#[T,T'] }:=by exact rfl)(hx:ev S x=.d (.val (.int k m)):=by exact rfl)(hy:ev S y=.d (.val (.int k n)):=by exact rfl)(hr:(if n<m then n else m)=((r:Nat):Int):=by omega):uP P o S [] (.d (.val (.int k ((r:Nat):Int)))):=e_minn ho hx hy hr
theorem nA(c:Bool){b:Bool}(h:uP P o S [] (.d (.val (.bool b))))(e:b=c:=by decide):uP P o S [] (.d (.val (.bool c))):=e▸h
theorem oV{z:SV}(w:SV)(h:uP P o S [] z)(e:z=w:=by kernel_rfl):uP P o S [] w:=e▸h
theorem nO(ho:o.op=.pick c x y:=by exact rfl)(hc:ev S c=.d (.val (.bool true)):=by kernel_rfl):uP P o S [] (ev S x):=e_pkt ho hc rfl
theorem yD(ho:o.op=.pick c x y:=by exact rfl)(hc:ev S c=.d (.val (.bool false)):=by kernel_rfl):uP P o S [] (ev S y):=e_pkf ho hc rfl
theorem fL{q:Bool}(ho:o.op=.pick c x y:=by exact rfl)(hc:ev S c=.d (.val (.bool true)):=by kernel_rfl)(hx:ev S x=.d (.val (.bool q)):=by exact rfl):uP P o S [] (.d (.val (.bool (true&&q)))):=e_pkta ho hc hx
theorem aK{q:Bool}(ho:o.op=.pick c x y:=by exact rfl)(hc:ev S c=.d (.val (.bool false)):=by kernel_rfl)(hy:ev S y=.d (.val (.bool q)):=by exact rfl):uP P o S [] (.d (.val (.bool (false||q)))):=e_pkfo ho hc hy
def nilK(o:Oper):Bool:=match o.op with
 |.move (.const (.slice none 0 0))=>true
 |.assign (.const (.slice none 0 0))=>true
 |_=>false
theorem nilK_eq(h:nilK o=true):o.op=.move (.const (.slice none 0 0))\/o.op=.assign (.const (.slice none 0 0)):=by
 unfold nilK at h
 split at h
 ·exact .inl (by assumption)
 ·exact .inr (by assumption)
 ·cases h
theorem aN(t s:Nat)(h:nilK o=true:=by kernel_rfl):uP P o S [] (.d (.sl t s [])):=e_nil t s (nilK_eq h)
theorem oNc{k q:Nat}(ho:o.op=.nilCheck x:=by exact rfl)(hx:ev S x=.ref k q:=by exact rfl):uP P o S [] (.ref k q):=e_nckr ho hx
theorem kK{f off b p:Nat}(hf:uX P T f=some off)(ho:o.op=.fieldAddr T x f:=by exact rfl)(hx:ev S x=.ref b p:=by exact rfl):uP P o S [] (.ref b (p+off)):=e_fieldAddr_ref ho hx hf
theorem oFc{t:TypeId}{f off p:Nat}{cs:List jY}(hf:uX P T f=some off)(ho:o.op=.fieldAddr T x f:=by exact rfl)(hx:ev S x=.d (.cptr t cs p):=by exact rfl):uP P o S [] (.d (.cptr t cs (p+off))):=e_fieldAddr_cptr ho hx hf
theorem oXr{E:TypeId}{N s b p:Nat}(hT:arrB P T=some (N,E,s))(j:Nat)(ho:o.op=.indexAddr T x y:=by exact rfl)(hx:ev S x=.ref b p:=by exact rfl)(hi:ev S y=.d (.val (.int k ((j:Nat):Int))):=by exact rfl)(h1:Nat.blt j N=true:=by kernel_rfl):uP P o S [] (.ref b (p+j*s)):=e_ixar ho hT hx hi rfl (Nat.le_of_ble_eq_true h1) rfl
theorem yF{E t:TypeId}{N b:Nat}(hT:uU P T=some (E,1))(j:Nat)(ho:o.op=.indexAddr T x y:=by exact rfl)(hx:ev S x=.own b t 1 N:=by exact rfl)(hi:ev S y=.d (.val (.int k n)):=by exact rfl)(hj:n=((j:Nat):Int):=by first|omega|(dsimp only;omega)|(simp only[length_set,length_replicate,length_map];omega))(h1:j<N:=by first|omega|(dsimp only;omega)|(simp only[length_set,length_replicate,length_map];omega)):uP P o S [] (.ref b j):=e_ixo ho hT hx hi hj h1 (Nat.mul_one j)
theorem oXO{E t:TypeId}{N b s:Nat}(hT:uU P T=some (E,s))(j:Nat)(ho:o.op=.indexAddr T x y:=by exact rfl)(hx:ev S x=.own b t s N:=by exact rfl)(hi:ev S y=.d (.val (.int k n)):=by exact rfl)(hj:n=((j:Nat):Int):=by first|omega|(dsimp only;omega)|(simp only[length_set,length_replicate,length_map];omega))(h1:j<N:=by first|omega|(dsimp only;omega)|(simp only[length_set,length_replicate,length_map];omega)):uP P o S [] (.ref b (j*s)):=e_ixo ho hT hx hi hj h1 rfl
theorem cB{α:Type}{E t:TypeId}{s:Nat}{F:α->jY}{L:List α}(hT:uU P T=some (E,s))(j:Nat)(d:α)(ho:o.op=.indexAddr T x y:=by exact rfl)(hx:ev S x=.d (.sl t s (L.map F)):=by exact rfl)(hi:ev S y=.d (.val (.int k n)):=by exact rfl)(hj:n=((j:Nat):Int):=by first|omega|(dsimp only;omega)|(simp only[length_set,length_replicate,length_map];omega))(h1:j<L.length:=by first|omega|(dsimp only;omega)|(simp only[length_set,length_replicate,length_map];omega)):uP P o S [] (.d (.cptr t (F (L.getD j d)).cells 0)) :=
 e_ixs ho hT hx hi hj (ixm F L j d h1)
theorem iO{α γ:Type}{E t:TypeId}{s:Nat}{F:α->jY}{L:List γ}(hT:uU P T=some (E,s))(G:γ->α)(j:Nat)(d:γ)(ho:o.op=.indexAddr T x y:=by exact rfl)(hx:ev S x=.d (.sl t s ((L.map G).map F)):=by exact rfl)(hi:ev S y=.d (.val (.int k n)):=by exact rfl)(hj:n=((j:Nat):Int):=by first|omega|(dsimp only;omega)|(simp only[length_set,length_replicate,length_map];omega))(h1:j<L.length:=by first|omega|(dsimp only;omega)|(simp only[length_set,length_replicate,length_map];omega)):uP P o S [] (.d (.cptr t (F (G (L.getD j d))).cells 0)) :=
 e_ixs ho hT hx hi hj (by simp [List.getD,getElem?_eq_getElem h1])
theorem dK{t:TypeId}{off:Nat}{cs:List jY}(hs:qD P T=some (false,1))(ho:o.op=.load T x:=by exact rfl)(hx:ev S x=.d (.cptr t cs off):=by exact rfl)(hl:Nat.blt off cs.length=true:=by kernel_rfl):uP P o S [] (.d (cs.getD off (.tup []))) :=
 e_lc1 ho hx hs (by
  have hl:=Nat.le_of_ble_eq_true hl
  simp [getElem?_eq_getElem hl,List.getD])
theorem mR{t:TypeId}{off sz:Nat}{cs:List jY}(hs:qD P T=some (true,sz))(ho:o.op=.load T x:=by exact rfl)(hx:ev S x=.d (.cptr t cs off):=by exact rfl)(hl:Nat.ble (off+sz) cs.length=true:=by kernel_rfl):uP P o S [] (gF true (((cs.drop off).take sz).map .d)):=e_lca ho hx hs hl rfl
theorem zP{i:Nat}{ds:List jY}(ho:o.op=.extract x i:=by exact rfl)(hx:ev S x=.d (.tup ds):=by exact rfl)(hi:Nat.blt i ds.length=true:=by kernel_rfl):uP P o S [] (.d (ds.getD i (.tup []))) :=
 e_exD ho hx (by
  have hi:=Nat.le_of_ble_eq_true hi
  simp [getElem?_eq_getElem hi,List.getD])
theorem oFv{t:TypeId}{f off sz:Nat}{cs:List jY}(hf:lM P T f=some (off,t))(hs:qD P t=some (true,sz))(ho:o.op=.field T x f:=by exact rfl)(hx:ev S x=.d (.agg cs):=by exact rfl)(hle:Nat.ble (off+sz) cs.length=true:=by kernel_rfl):uP P o S [] (gF true (((cs.drop off).take sz).map .d)):=e_fldv ho hx hf hs hle rfl
theorem oF1{t:TypeId}{f off:Nat}{cs:List jY}(hf:lM P T f=some (off,t))(hs:qD P t=some (false,1))(ho:o.op=.field T x f:=by exact rfl)(hx:ev S x=.d (.agg cs):=by exact rfl)(hle:Nat.ble (off+1) cs.length=true:=by kernel_rfl):uP P o S [] (gF false (((cs.drop off).take 1).map .d)):=e_fld1 ho hx hf hs hle rfl
theorem yA{α:Type}{E t:TypeId}{s:Nat}{F:α->jY}{L:List α}(hT:uU P T=some (E,s))(ho:o.op=.call { callee:=.builtin .len,args:=#[x],argTypes:=#[T] }:=by exact rfl)(hx:ev S x=.d (.sl t s (L.map F)):=by exact rfl):uP P o S [] (.d (.val (.int .i64 ((L.length:Nat):Int)))):=e_ln ho hT hx (by simp)
theorem oLn{E t:TypeId}{s:Nat}{es:List jY}(hT:uU P T=some (E,s))(r:Nat)(ho:o.op=.call { callee:=.builtin .len,args:=#[x],argTypes:=#[T] }:=by exact rfl)(hx:ev S x=.d (.sl t s es):=by exact rfl)(hr:(es.length:Int)=((r:Nat):Int):=by simp):uP P o S [] (.d (.val (.int .i64 ((r:Nat):Int)))):=e_ln ho hT hx hr
theorem oLo{E t:TypeId}{s b N:Nat}(hT:uU P T=some (E,s))(ho:o.op=.call { callee:=.builtin .len,args:=#[x],argTypes:=#[T] }:=by exact rfl)(hx:ev S x=.own b t s N:=by exact rfl):uP P o S [] (.d (.val (.int .i64 ((N:Nat):Int)))):=e_len_own ho hT hx
theorem iS{ps:List (Nat × Operand)}{pl:List (Nat × Nat)}{zv:List Value}{zd:List jY}(hT:eL P T=some pl)(hz:xH P T=some zv)(hzd:eO zv zd)(ho:o.op=.build T ps.toArray:=by exact rfl)
  (hps:(ps.all λp=>isD (ev S p.2)&&(gK (ev S p.2)).ok1)=true:=by kernel_rfl) (hr:(aO (λi=>pl[i]?) zd (ps.map λp=>(p.1,(gK (ev S p.2)).cells))).isSome=true:=by kernel_rfl) :
  uP P o S [] (.d (.agg ((aO (λi=>pl[i]?) zd (ps.map λp=>(p.1,(gK (ev S p.2)).cells))).getD []))):=by
 rw[all_eq_true] at hps
 obtain ⟨r,hr⟩:=Option.isSome_iff_exists.1 hr
 have h:=e_build (P:=P) (o:=o) (S:=S) (pd:=ps.map λp=>(p.1,gK (ev S p.2))) ho hT hz hzd (by
  rw[map_map]
  refine map_congr_left λp hp=>?_
  have:=hps p hp
  rw[Bool.and_eq_true] at this
  show (p.1,ev S p.2)=(p.1,SV.d (gK (ev S p.2)))
  rw[<- isD_eq this.1]) (by
  rw[all_eq_true]
  intro q hq
  obtain ⟨p,hp,rfl⟩:=mem_map.1 hq
  have:=hps p hp
  rw[Bool.and_eq_true] at this
  exact this.2) (by rw[map_map];exact hr)
 rw[hr];exact h
theorem oBf{E:TypeId}{N s:Nat}{ps:List (Nat × Operand)}{zv:List Value}{zd:List jY}(hT:arrB P T=some (N,E,s))(hz:xH P T=some zv)(hzd:eO zv zd)(ho:o.op=.build T ps.toArray:=by exact rfl)
  (hps:ps.map (λp=>(p.1,ev S p.2))=(ps.map λp=>gK (ev S p.2)).zipIdx.map (λp=>(p.2,.d p.1)):=by kernel_rfl) (hok:(ps.all λp=>(gK (ev S p.2)).ok1&&Nat.beq (gK (ev S p.2)).cells.length s)=true:=by kernel_rfl) (hl:Nat.beq zd.length (ps.length*s)=true:=by kernel_rfl) :
  uP P o S [] (.d (.agg (qK (ps.map λp=>gK (ev S p.2))))):=by
 rw[all_eq_true] at hok
 refine e_bldF (ds:=ps.map λp=>gK (ev S p.2)) ho hT hz hzd hps ?_ ?_ (by rw[length_map];exact hl) rfl
 ·rw[all_eq_true]
  intro d hd
  obtain ⟨p,hp,rfl⟩:=mem_map.1 hd
  have:=hok p hp
  rw[Bool.and_eq_true] at this
  exact this.1
 ·rw[all_eq_true]
  intro d hd
  obtain ⟨p,hp,rfl⟩:=mem_map.1 hd
  have:=hok p hp
  rw[Bool.and_eq_true] at this
  exact this.2
theorem bs_fill{s len:Nat}{ps:List (Nat × Operand)}{zd:List jY}(hzl:Nat.beq zd.length s=true)(hps:ps.map (λp=>(p.1,ev S p.2))=(ps.map λp=>gK (ev S p.2)).zipIdx.map (λp=>(p.2,.d p.1)))
  (hok:(ps.all λp=>(gK (ev S p.2)).ok1&&Nat.beq (gK (ev S p.2)).cells.length s)=true) (hl:Nat.beq ps.length len=true) :
  (∀ e∈ps.map (λp=>gK (ev S p.2)),e.cells.length=s)/\aO (λi=>some (i*s,s)) (replicate len zd).flatten (((ps.map λp=>gK (ev S p.2)).zipIdx.map λp=>(p.2,p.1)).map λp=>(p.1,p.2.cells))=some (qK (ps.map λp=>gK (ev S p.2))):=by
 have hzl:=Nat.eq_of_beq_eq_true hzl
 have hl:=Nat.eq_of_beq_eq_true hl
 have hs:∀ e∈ps.map (λp=>gK (ev S p.2)),e.cells.length=s:=λd hd=>by
  obtain ⟨p,hp,rfl⟩:=mem_map.1 hd
  have:=all_eq_true.1 hok p hp
  rw[Bool.and_eq_true] at this
  exact Nat.eq_of_beq_eq_true this.2
 refine ⟨hs,?_⟩
 have h:=fillL_all (ps.map λp=>gK (ev S p.2)) 0 [] (replicate len zd).flatten (by simp) (by
  rw[length_map,hl,length_flatten,map_replicate,hzl];simp) hs
 rw[nil_append,nil_append] at h
 rw[map_map]
 exact h
theorem fC{E:TypeId}{s len:Nat}{ps:List (Nat × Operand)}{zv:List Value}{zd:List jY}(hT:uU P T=some (E,s))(hz:xH P E=some zv)(hzd:eO zv zd)(ho:o.op=.buildSlice T len ps.toArray:=by exact rfl)
  (hzl:Nat.beq zd.length s=true:=by kernel_rfl) (hps:ps.map (λp=>(p.1,ev S p.2))=(ps.map λp=>gK (ev S p.2)).zipIdx.map (λp=>(p.2,.d p.1)):=by kernel_rfl) (hok:(ps.all λp=>(gK (ev S p.2)).ok1&&Nat.beq (gK (ev S p.2)).cells.length s)=true:=by kernel_rfl) (hl:Nat.beq ps.length len=true:=by kernel_rfl)
  (hbig:Nat.ble (len*s) 16777216=true:=by kernel_rfl) (hbig':Nat.ble len 16777216=true:=by kernel_rfl):uP P o S [] (.d (.sl E s (ps.map λp=>gK (ev S p.2)))):=by
 obtain ⟨h1,h2⟩:=bs_fill hzl hps hok hl
 refine e_buildSlice (pd:=(ps.map λp=>gK (ev S p.2)).zipIdx.map λp=>(p.2,p.1)) ho hT hz hzd (Nat.eq_of_beq_eq_true hzl) (by rw[hps,map_map];rfl) ?_ (Nat.le_of_ble_eq_true hbig) (Nat.le_of_ble_eq_true hbig') (by rw[length_map];exact Nat.eq_of_beq_eq_true hl) h1 h2
 rw[all_eq_true]
 intro q hq
 obtain ⟨p,hp,rfl⟩:=mem_map.1 hq
 obtain ⟨p',hp',he⟩:=mem_map.1 (fst_mem_of_mem_zipIdx hp)
 have:=all_eq_true.1 hok p' hp'
 rw[Bool.and_eq_true] at this
 rw[<- he]
 exact this.1
theorem oBe{E:TypeId}{s:Nat}(hT:uU P T=some (E,s))(ho:o.op=.buildSlice T 0 #[]:=by exact rfl):uP P o S [] .emp:=e_bse ho hT
theorem oBo{E:TypeId}{s len:Nat}{ps:List (Nat × Operand)}{zv:List Value}{zd:List jY}(b:Nat)(hT:uU P T=some (E,s))(hz:xH P E=some zv)(hzd:eO zv zd)(ho:o.op=.buildSlice T len ps.toArray:=by exact rfl)
  (hzl:Nat.beq zd.length s=true:=by kernel_rfl) (hps:ps.map (λp=>(p.1,ev S p.2))=(ps.map λp=>gK (ev S p.2)).zipIdx.map (λp=>(p.2,.d p.1)):=by kernel_rfl) (hok:(ps.all λp=>(gK (ev S p.2)).ok1&&Nat.beq (gK (ev S p.2)).cells.length s)=true:=by kernel_rfl) (hl:Nat.beq ps.length len=true:=by kernel_rfl)
  (hbig:Nat.ble (len*s) 16777216=true:=by kernel_rfl) (hbig':Nat.ble len 16777216=true:=by kernel_rfl):NOk P o S b ((qK (ps.map λp=>gK (ev S p.2))).map .d) (.own b E s len):=by
 obtain ⟨h1,h2⟩:=bs_fill hzl hps hok hl
 refine n_bso (pd:=(ps.map λp=>gK (ev S p.2)).zipIdx.map λp=>(p.2,p.1)) b ho hT hz hzd (Nat.eq_of_beq_eq_true hzl) (by rw[hps,map_map];rfl) ?_ hbig hbig' (by rw[length_map];exact Nat.eq_of_beq_eq_true hl) ?_ h2 rfl
 ·rw[all_eq_true]
  intro q hq
  obtain ⟨p,hp,rfl⟩:=mem_map.1 hq
  obtain ⟨p',hp',he⟩:=mem_map.1 (fst_mem_of_mem_zipIdx hp)
  have:=all_eq_true.1 hok p' hp'
  rw[Bool.and_eq_true] at this
  rw[<- he]
  exact this.1
 ·refine eq_replicate_iff.2 ⟨by rw[length_map,length_map];exact Nat.eq_of_beq_eq_true hl,λz hz=>?_⟩
  obtain ⟨e,he,rfl⟩:=mem_map.1 hz
  exact h1 e he
theorem xD{d:jY}(b:Nat)(ho:o.op=.box T x:=by exact rfl)(hx:ev S x=.d d:=by exact rfl)(h1:d.ok1=true:=by kernel_rfl):NOk P o S b (bx d) (.ref b 0):=n_box b ho hx h1
theorem vB{zv:List Value}{zd:List jY}(b:Nat)(hz:xH P T=some zv)(hzd:eO zv zd)(ho:o.op=.alloc T:=by exact rfl):NOk P o S b (zd.map .d) (.ref b 0):=n_alloc b ho hz hzd
theorem oMk{α:Type}{E:TypeId}{s bytes:Nat}{kl kc:IntKind}{zv:List Value}{zd:List jY}{x y:Operand}(b:Nat)(F:α->jY)(z:α)(N M:Nat)(hT:uU P T=some (E,s))(hz:xH P E=some zv)(hzd:eO zv zd)(hby:zJ P E=some bytes)(ho:o.op=.makeSlice T x y:=by exact rfl)
  (hl:ev S x=.d (.val (.int kl m)):=by exact rfl) (hc:ev S y=.d (.val (.int kc n)):=by exact rfl) (hlN:m=((N:Nat):Int):=by first|omega|(dsimp only;omega)|(simp only[length_set,length_replicate,length_map];omega)) (hcM:n=((M:Nat):Int):=by first|omega|(dsimp only;omega)|(simp only[length_set,length_replicate,length_map];omega)) (hzl:Nat.beq zd.length s=true:=by kernel_rfl) (hnm:N<=M:=by first|omega|(dsimp only;omega)|(simp only[length_set,length_replicate,length_map];omega)) (hb:bytes*M<=281474976710656:=by first|omega|(dsimp only;omega)|(simp only[length_set,length_replicate,length_map];omega)) (hm:M<=maxLen:=by unfold maxLen;omega) (hzF:zd=[F z]:=by kernel_rfl) :
  NOk P o S b ((replicate M z).map (λg=>SV.d (F g))) (.own b E s N):=by
 subst hlN;subst hcM;subst hzF
 exact n_mks b ho hT hz hzd (Nat.eq_of_beq_eq_true hzl) hby hl hc hnm hb hm (own_zero F M z)
end
section
variable {P:Program} {o:Oper} {S:SL} {B:BS} {T:TypeId} {x y:Operand} {k off:Nat}
theorem qH{cs:List SV}(hs:qD P T=some (false,1))(ho:o.op=.load T x:=by exact rfl)(hx:ev (kD S) x=.ref k off:=by exact rfl)(hb:kC B k=some cs:=by exact rfl)(hl:Nat.blt off cs.length=true:=by kernel_rfl)(hn:(cs.getD off .junk).isMo=false:=by kernel_rfl):ROk P o S B k (cs.getD off .junk) :=
 ⟨cs,e_ld1 ho hx hs (by
  have hl:=Nat.le_of_ble_eq_true hl
  simp [getElem?_eq_getElem hl,List.getD]) hn,hb⟩
theorem kP{sz:Nat}{cs:List SV}(hs:qD P T=some (true,sz))(ho:o.op=.load T x:=by exact rfl)(hx:ev (kD S) x=.ref k off:=by exact rfl)(hb:kC B k=some cs:=by exact rfl)(hl:Nat.ble (off+sz) cs.length=true:=by kernel_rfl)(hm:yC cs=false:=by first | exact mM _ | kernel_rfl):ROk P o S B k (gF true ((cs.drop off).take sz)):=⟨cs,e_lda ho hx hs hl rfl hm,hb⟩
theorem fE{α:Type}{F:α->jY}{L:List α}(hs:qD P T=some (false,1))(j:Nat)(d:α)(ho:o.op=.load T x:=by exact rfl)(hx:ev (kD S) x=.ref k j:=by exact rfl)(hb:kC B k=some (L.map λg=>SV.d (F g)):=by exact rfl)(h1:j<L.length:=by first|omega|(dsimp only;omega)|(simp only[length_set,length_replicate,length_map];omega)):ROk P o S B k (.d (F (L.getD j d))):=⟨_,e_ld1 ho hx hs (own_get F L j d h1) rfl,hb⟩
theorem qL{sz:Nat}{agg:Bool}{old:List SV}{d:jY}(hs:qD P T=some (agg,sz))(ho:o.op=.store T x y:=by exact rfl)(hx:ev (kD S) x=.ref k off:=by exact rfl)(hy:ev (kD S) y=.d d:=by exact rfl)(hb:kC B k=some old:=by exact rfl)(h1:d.ok1=true:=by kernel_rfl)(qM:Nat.beq d.cells.length sz=true:=by kernel_rfl)(hle:Nat.ble (off+sz) old.length=true:=by kernel_rfl)(hm:yC old=false:=by first | exact mM _ | kernel_rfl):TK P o S B k (patch old off (d.cells.map .d)) :=
 ⟨old,t_std ho hx hy hs h1 (Nat.eq_of_beq_eq_true qM) hle rfl hm,hb⟩
theorem oSo{j E s N:Nat}{u:SV}(hs:qD P T=some (false,1))(ho:o.op=.store T x y:=by exact rfl)(hx:ev (kD S) x=.ref k 0:=by exact rfl)(hy:ev (kD S) y=.own j E s N:=by exact rfl)(hb:kC B k=some [u]:=by exact rfl)(hm:u.isMo=false:=by kernel_rfl):TK P o S B k [.own j E s N]:=⟨_,t_sto ho hx hy hs hm,hb⟩
theorem fF{α:Type}{F:α->jY}{L:List α}(hs:qD P T=some (false,1))(j:Nat)(v:α)(ho:o.op=.store T x y:=by exact rfl)(hx:ev (kD S) x=.ref k j:=by exact rfl)(hb:kC B k=some (L.map λg=>SV.d (F g)):=by exact rfl)(hy:ev (kD S) y=.d (F v):=by kernel_rfl)(h2:(F v).ok1=true:=by kernel_rfl)(h3:(F v).cells=[F v]:=by kernel_rfl)(h1:j<L.length:=by first|omega|(dsimp only;omega)|(simp only[length_set,length_replicate,length_map];omega)):TK P o S B k ((L.set j v).map λg=>SV.d (F g)) :=
 ⟨_,t_st1 ho hx hy hs h2 h3 (own_len F L j h1) (own_set F L j v) (mapCs_own F L),hb⟩
theorem kB{S:Nat->SV}{xs:List Operand}{ats:Array TypeId}{f:FuncId}{ds:List jY}{r:jY}(hf:jP P f ds r)(ho:o.op=.call { callee:=.value y,args:=xs.toArray,argTypes:=ats }:=by exact rfl)(hy:ev S y=.d (.val (.func (.func f) #[] #[])):=by kernel_rfl)(hx:xs.map (ev S)=ds.map .d:=by kernel_rfl):uP P o S [] (.d r):=e_cl hf ho hy hx
theorem oCo{xs:List Operand}{ats:Array TypeId}{f:FuncId}{ds:List jY}{α:Type}{F:α->jY}{L:List α}{Tt s N:Nat}{S:Nat->SV}(b:Nat)(hf:TakesO P f ds Tt s N (L.map F))(ho:o.op=.call { callee:=.value y,args:=xs.toArray,argTypes:=ats }:=by exact rfl)(hy:ev S y=.d (.val (.func (.func f) #[] #[])):=by kernel_rfl)(hx:xs.map (ev S)=ds.map .d:=by kernel_rfl):NOk P o S b (L.map (λg=>SV.d (F g))) (.own b Tt s N):=n_own b hf ho hy hx (by rw[map_map];rfl)
end
inductive NilL:List jY->List jY->Prop
 |nil:NilL [] []
 |same {d:jY} {l l':List jY} (h:NilL l l'):NilL (d::l) (d::l')
 |cut (t s:Nat) {l l':List jY} (h:NilL l l'):NilL (.sl t s []::l) (.val (.slice none 0 0)::l')
theorem NilL.rep{ds ds':List jY}(h:NilL ds ds'){w:World}{D:kV}:ds.length=ds'.length/\∀ (i:Nat) (v:Value) (d:jY),ds[i]?=some d->(∀ d',ds'[i]?=some d'->uS w D v d')->uS w D v d:=by
 induction h with
 |nil=>exact ⟨rfl,λi v d h=>by simp at h⟩
 |same h ih=>
  refine ⟨by simp [ih.1],λi v d hd hr=>?_⟩
  cases i with
  |zero=>exact hr d (by simpa using hd)
  |succ i=>exact ih.2 i v d (by simpa using hd) (λd' hd'=>hr d' (by simpa using hd'))
 |cut t s h ih=>
  refine ⟨by simp [ih.1],λi v d hd hr=>?_⟩
  cases i with
  |zero=>
   have e:=hr (.val (.slice none 0 0)) (by simp)
   simp only[getElem?_cons_zero,Option.some.injEq] at hd
   subst hd
   exact nil_sl t s w D (λ_=>none) v e
  |succ i=>exact ih.2 i v d (by simpa using hd) (λd' hd'=>hr d' (by simpa using hd'))
theorem eS{k j:Nat}{bs:BS}(h:Clr k bs):Clr k ((j,none)::bs):=λi c hi hb=>by
 rw[jI] at hb
 split at hb
 ·cases hb
 ·exact h i c hi hb
section
variable {P:Program} {n:Fr} {ops:Array Oper} {K:SL->BS->Prop} {S:SL} {B:BS} {l:List Oper} {o:Oper} {α:Type} {T E t':TypeId} {x y:Operand} {k s m bytes:Nat} {zv:List Value}
theorem app_go(F:α->jY){L L':List α}{m2:Nat}(hF:∀ g,(F g).cells.length=s)(ho:o.op=.call { callee:=.builtin .append,args:=#[x,y],argTypes:=#[T,T] })(g:goK n ops S o=true)(hT:uU P T=some (E,s))(hz:xH P E=some zv)(hzl:zv.length=s)(hby:zJ P E=some bytes)
  (hx:ev (kD S) x=.own k E s m) (hb:kC B k=some (uD F L)) (hL:L.length=m) (hy:ev (kD S) y=.d (.sl t' s (L'.map F))) (hbig:m+L'.length<=maxLen) (hbig':(m+L'.length)*bytes<=140737488355328) (hB:Clr k B) (hm:m+L'.length=m2)
  (r:SK P n ops K ((dO o,.own k E s m2)::nR k S) ((k,some (uD F (L++L')))::B) l):SK P n ops K S B (o::l):=by
 obtain ⟨hd,hg,hdB⟩:=yV g
 refine zX (S1:=(dO o,.own k E s m2)::nR k S) (B1:=(k,some (uD F (L++L')))::B) (λC a w Q hn hs=>?_) hg r
 subst hm
 have:=app_sound (st:=⟨S,B⟩) (N:=n) (es:=L.map F) (es':=L'.map F) ho (by rw[hd];exact hdB) hT hz hzl hby hx hb rfl (by rw[cS F hF,hL]) hy (by simpa using hbig) (by simpa using hbig') hB C a w Q hn hs
 rw[hd,<- map_append,length_map] at this
 exact this
theorem zA(F:α->jY)(L L':List α)(hL:L.length=m)(hT:uU P T=some (E,1))(hz:xH P E=some zv)(hby:zJ P E=some bytes)(r:SK P n ops K ((dO o,.own k E 1 (L++L').length)::nR k S) ((k,some ((L++L').map (λg=>SV.d (F g))))::B) l)
  (ho:o.op=.call { callee:=.builtin .append,args:=#[x,y],argTypes:=#[T,T] }:=by exact rfl) (g:goK n ops S o=true:=by kernel_rfl) (hx:ev (kD S) x=.own k E 1 m:=by exact rfl) (hb:kC B k=some (L.map (λg=>SV.d (F g))):=by kernel_rfl) (hy:ev (kD S) y=.d (.sl t' 1 (L'.map F)):=by exact rfl) (hF:∀ g,(F g).cells=[F g]:=by intro g;kernel_rfl) (hzl:zv.length=1:=by kernel_rfl)
  (hbig:m+L'.length<=maxLen:=by first | (simp only[length_cons,length_nil,maxLen];omega) | (simp [maxLen];omega)) (hbig':(m+L'.length)*bytes<=140737488355328:=by first | omega | (simp only[length_cons,length_nil];omega) | (simp;omega))
  (hB:Clr k B:=by repeat first | exact lE _ | refine iP ?_ | refine clr_map ?_ | refine eS ?_ | refine clr_bx ?_ | refine clr_d ?_):SK P n ops K S B (o::l) :=
 app_go F (s:=1) (m2:=(L++L').length) (λg=>by rw[hF g];rfl) ho g hT hz hzl hby hx (by rw[bxs_one F hF];exact hb) hL hy hbig hbig' hB (by rw[length_append,hL]) (by rw[bxs_one F hF];exact r)
theorem zAS(F:α->jY)(L L':List α)(hL:L.length=m)(hT:uU P T=some (E,s))(hz:xH P E=some zv)(hby:zJ P E=some bytes)(r:SK P n ops K ((dO o,.own k E s (L++L').length)::nR k S) ((k,some (uD F (L++L')))::B) l)
  (ho:o.op=.call { callee:=.builtin .append,args:=#[x,y],argTypes:=#[T,T] }:=by exact rfl) (g:goK n ops S o=true:=by kernel_rfl) (hx:ev (kD S) x=.own k E s m:=by exact rfl) (hb:kC B k=some (uD F L):=by kernel_rfl) (hy:ev (kD S) y=.d (.sl t' s (L'.map F)):=by exact rfl) (hF:∀ g,(F g).cells.length=s:=by intro g;kernel_rfl) (hzl:zv.length=s:=by kernel_rfl)
  (hbig:m+L'.length<=maxLen:=by first | (simp only[length_cons,length_nil,maxLen];omega) | (simp [maxLen];omega)) (hbig':(m+L'.length)*bytes<=140737488355328:=by first | omega | (simp only[length_cons,length_nil];omega) | (simp;omega))
  (hB:Clr k B:=by repeat first | exact lE _ | refine iP ?_ | refine clr_map ?_ | refine eS ?_ | refine clr_bx ?_ | refine clr_d ?_):SK P n ops K S B (o::l) :=
 app_go F (m2:=(L++L').length) hF ho g hT hz hzl hby hx hb hL hy hbig hbig' hB (by rw[length_append,hL]) r
theorem zAQ(F:α->jY)(L L':List α)(hL:L.length=m)(hT:uU P T=some (E,1))(hz:xH P E=some zv)(hby:zJ P E=some bytes)(r:SK P n ops K ((dO o,.d (.sl E 1 ((L++L').map F)))::nR k S) ((k,none)::B) l)
  (ho:o.op=.call { callee:=.builtin .append,args:=#[x,y],argTypes:=#[T,T] }:=by exact rfl) (g:goK n ops S o=true:=by kernel_rfl) (hx:ev (kD S) x=.own k E 1 m:=by exact rfl) (hb:kC B k=some (L.map (λg=>SV.d (F g))):=by kernel_rfl) (hy:ev (kD S) y=.d (.sl t' 1 (L'.map F)):=by exact rfl) (hF:∀ g,(F g).cells=[F g]:=by intro g;kernel_rfl) (hzl:zv.length=1:=by kernel_rfl)
  (hbig:m+L'.length<=maxLen:=by first | (simp only[length_cons,length_nil,maxLen];omega) | (simp [maxLen];omega)) (hbig':(m+L'.length)*bytes<=140737488355328:=by first | omega | (simp only[length_cons,length_nil];omega) | (simp;omega))
  (hB:Clr k B:=by repeat first | exact lE _ | refine iP ?_ | refine clr_map ?_ | refine eS ?_ | refine clr_bx ?_ | refine clr_d ?_):SK P n ops K S B (o::l):=by
 obtain ⟨hd,hg,hdB⟩:=yV g
 exact zX (appP_sem F L L' (λg=>by rw[hF g];rfl) ho hd hdB hT hz hzl hby hx (by rw[bxs_one F hF];exact hb) hL hy hbig hbig' hB) hg r
theorem zO(k E s:Nat)(r:SK P n ops K ((dO o,.own k E s 0)::S) ((k,some [])::B) l)(h:nilK o=true:=by kernel_rfl)(g:goK n ops S o=true:=by kernel_rfl)(hf:gN k ⟨S,B⟩=true:=by kernel_rfl):SK P n ops K S B (o::l):=by
 obtain ⟨hd,hg,hdB⟩:=yV g
 exact zX (nilOwn_sem k E s ((nilK_eq h).elim .inr .inl) hd hdB hf) hg r
end
section
variable {P:Program} {n:Fr} {Q:Exit->PS->Prop} {st:PS} {c:Operand} {x y:Code}
theorem yP(h1:eM P n x Q st)(hc:ev (kD st.sl) c=.d (.val (.bool true)):=by kernel_rfl):eM P n (.cond c x y) Q st:=jD (b:=true) hc (λ_=>h1) (λh=>by cases h)
theorem uI(h2:eM P n y Q st)(hc:ev (kD st.sl) c=.d (.val (.bool false)):=by kernel_rfl):eM P n (.cond c x y) Q st:=jD (b:=false) hc (λh=>by cases h) (λ_=>h2)
end
end Go.Fid
namespace Go.Proofs.YtckccjhflbljgaaGreatDoor
open List Tryz
open Go.Fid
theorem mK:zJ prog 107=some 4:=by kernel_rfl
theorem cb161:callB prog 161=true:=by kernel_rfl
theorem kJ:uU prog 28=some (107,1):=by kernel_rfl
theorem gP:intB prog 107=some .u32:=by kernel_rfl
theorem yJ:intB prog 137=some .u64:=by kernel_rfl
theorem qP:qD prog 107=some (false,1):=by kernel_rfl
theorem yU:(prog.underlying 107).isSome=true:=by kernel_rfl
theorem nL:(prog.underlying 137).isSome=true:=by kernel_rfl
theorem xA:xH prog 107=some [.int .u32 0]:=by kernel_rfl
theorem yR:eO [.int .u32 0] [.val (.int .u32 0)]:=by simp [eO,Value.oneCell']
theorem t_at(l:List Nat)(i:Nat):jP prog 205 [(.sl 107 1 (map jC l)),(.val (.int .i64 (((i:Nat):Int))))] (.val (.int .u32 ((((l.getD i 0):Nat):Int)))):=by
 refine vD func205 ?_
 refine jB<|kx [] [] (zM<|zZ) ?_
 refine jB<|jB<|kx [(8,(vb (decide (((i:Nat):Int)<((l.length:Nat):Int)))))] [] (zM<|zM<|zE (yA kJ)<|zE gX<|zZ) ?_
 refine jD rfl (λh1=>?_) (λh1=>?_)
 ·replace h1:=vF h1
  refine jB<|kx [(4,(iT (l.getD i 0)))] [] (zM<|zM<|zE (cB kJ i (0:Nat))<|zE (dK qP)<|zM<|zZ) ?_
  refine jE ⟨_,(.tmp (d:=(.val (.int .u32 ((((l.getD i 0):Nat):Int))))) rfl .nil),?_⟩
  rfl
 ·replace h1:=vT h1
  refine jF<|jB<|kx [(4,(iT 0))] [] (zM<|zZ) ?_
  refine jE ⟨_,(.tmp (d:=(.val (.int .u32 (0)))) rfl .nil),?_⟩
  rw[show l.getD i 0=0 from getD_out (by omega)];rfl
theorem t_trim(l0:List Nat)(hd:Dig l0)(hb:l0.length<=17592186044416):jP prog 180 [(.sl 107 1 (map jC l0))] (.sl 107 1 (map jC (ofNat (val l0)))):=by
 refine vD func180 ?_
 refine jB<|kx [] [] (zE (aN 107 1)<|zZ) ?_
 refine jB<|jH<|kR (α:=List Nat) (λl=>⟨[(0,(vl 107 1 jC l))],[]⟩) (λl=>Dig l/\val l=val l0/\l.length<=l0.length) (λl=>l.length) l0 wk ⟨hd,rfl,Nat.le_refl _⟩ ?_
 rintro l ⟨hl,hv,hle⟩
 refine jB<|jB<|kx [(14,(vb (decide (0<((l.length:Nat):Int))&&((((l.getD (l.length-1) 0):Nat):Int) == 0))))] [] ?_ ?_
 ·refine zM<|zE (yA kJ)<|zE eR<|zE (oV (vb (decide (0<((l.length:Nat):Int)))) (qA (by kernel_rfl)))<|?_
  rcases hb1:(decide (0<((l.length:Nat):Int))) with _ | _
  ·replace hb1:=vT hb1
   exact zK<|zK<|zK<|zK<|zK<|zK<|zK<|zE yD<|zZ
  ·replace hb1:=vF hb1
   exact zM<|zM<|zE (yA kJ)<|zE (oSb (l.length-1))<|zE (cB kJ (l.length-1) (0:Nat))<|zE (dK qP)<|zE xL<|zE fL<|zZ
 refine jD rfl (λh2=>?_) (λh2=>?_)
 ·obtain ⟨hp,_⟩:=trim_cond h2
  refine jF<|jH<|kx [(0,(vl 107 1 jC (List.take (l.length-1) l)))] [] (zM<|zM<|zE (yA kJ)<|zE (oSb (l.length-1))<|zE (e_slc (l:=0) (h:=(l.length-1)) (kl:=.i64) (kh:=.i64) (es':=map jC (List.take (l.length-1) l)) (by exact rfl) kJ (by exact rfl) (by exact rfl) (by exact rfl) (Nat.zero_le _) (by simp only[length_map];omega) (by rw[drop_zero,map_take]))<|zM<|zZ) ?_
  exact ⟨(l.take (l.length-1)),wk,(trim_step hl hv hle h2),(trim_less h2)⟩
 ·refine kO<|jB<|kx [(2,(vl 107 1 jC l))] [] (zM<|zM<|zZ) ?_
  refine jE ⟨_,(.tmp (d:=(.sl 107 1 (map jC l))) rfl .nil),?_⟩
  rw[trim_end hl hv h2];rfl
theorem t_plus(a b:List Nat)(hda:Dig a)(hdb:Dig b)(hla:a.length<=8796093022208)(hlb:b.length<=8796093022208):jP prog 183 [(.sl 107 1 (map jC a)),(.sl 107 1 (map jC b))] (.sl 107 1 (map jC (ofNat (val a+val b)))):=by
 refine vD func183 ?_
 refine jB<|kx [] [] (zE (aN 107 1)<|zZ) ?_
 refine jB<|kx [(5,(.own 0 107 1 ((max a.length b.length)+1)))] [(0,some (bm jC (replicate ((max a.length b.length)+1) 0)))] (zM<|zE (yA kJ)<|zM<|zE (yA kJ)<|zE (oMx (max a.length b.length))<|zE (xO ((max a.length b.length)+1))<|zN (oMk 0 jC (0:Nat) ((max a.length b.length)+1) ((max a.length b.length)+1) kJ xA yR mK)<|zM<|zZ) ?_
 refine jB<|kx [(6,(iT 0))] [] (zM<|zZ) ?_
 refine jB<|jB<|kx [(17,(kE ((max a.length b.length)+1))),(18,(kE 0))] [] (zM<|zE (oLo kJ)<|zM<|zZ) ?_
 refine jH<|kR (α:=Nat × List Nat × Nat) (λ(i,out,c)=>⟨[(0,(vl 107 1 jC a)),(1,(vl 107 1 jC b)),(5,(.own 0 107 1 ((max a.length b.length)+1))),(6,(iT c)),(17,(kE ((max a.length b.length)+1))),(18,(kE i))],[(0,some (bm jC out))]⟩) (λ(i,out,c)=>out.length=max a.length b.length+1/\Dig out/\i<=max a.length b.length+1/\c<=1/\val (out.take i)+pw i*c=val (a.take i)+val (b.take i)) (λ(i,out,c)=>max a.length b.length+1-i) (0,replicate (max a.length b.length+1) 0,0) wk ⟨by simp,zV _,Nat.zero_le _,Nat.zero_le _,by simp [val]⟩ ?_
 rintro ⟨i,out,c⟩ ⟨qM,hdo,hi,hc,hv⟩
 have hai:=hda.getD i
 have hbi:=hdb.getD i
 refine jB<|kx [(19,(vb (decide (((i:Nat):Int)<((((max a.length b.length)+1):Nat):Int)))))] [] (zE gX<|zZ) ?_
 refine jB<|jD rfl (λh1=>?_) (λh1=>?_)
 ·replace h1:=vF h1
  refine jF<|jB<|jH<|jB<|kx [(7,(kE i))] [] (zM<|zM<|zZ) ?_
  refine jB<|kx [(8,(iT (((a.getD i 0)+(b.getD i 0))+c)))] [] (zM<|zM<|zE (kB (t_at a i))<|zM<|zM<|zE (kB (t_at b i))<|zE (xO ((a.getD i 0)+(b.getD i 0)))<|zM<|zE (xO (((a.getD i 0)+(b.getD i 0))+c))<|zM<|zZ) ?_
  refine jB<|kx [(6,(iT 0))] [] (zM<|zZ) ?_
  refine jB<|jB<|kx [(31,(vb (decide (1000000000<=(((((a.getD i 0)+(b.getD i 0))+c):Nat):Int)))))] [] (zM<|zE oGe<|zZ) ?_
  refine jD rfl (λh2=>?_) (λh2=>?_)
  ·replace h2:=vF h2
   refine kx [(6,(iT 1)),(8,(iT ((((a.getD i 0)+(b.getD i 0))+c)-1000000000)))] [] (zM<|zE (oSb ((((a.getD i 0)+(b.getD i 0))+c)-1000000000))<|zM<|zM<|zZ) ?_
   refine kx [] [(0,some (bm jC (out.set i ((((a.getD i 0)+(b.getD i 0))+c)-1000000000))))] (zM<|zM<|zM<|zE (yF kJ i)<|zT (fF qP i ((((a.getD i 0)+(b.getD i 0))+c)-1000000000))<|zZ) ?_
   refine kx [(18,(kE (i+1)))] [] (zE (xO (i+1))<|zM<|zZ) ?_
   exact ⟨(i+1,out.set i (a.getD i 0+b.getD i 0+c-1000000000),1),wk,(by obtain ⟨q1,q2,q3⟩:=plus_step (s:=a.getD i 0+b.getD i 0+c-1000000000) (c':=1) qM hdo (by omega) hv (by omega) (by omega);exact ⟨q1,q2,by omega,by omega,q3⟩),(by first|omega|(dsimp only;omega))⟩
  ·replace h2:=vT h2
   refine jF<|kx [] [(0,some (bm jC (out.set i (((a.getD i 0)+(b.getD i 0))+c))))] (zM<|zM<|zM<|zE (yF kJ i)<|zT (fF qP i (((a.getD i 0)+(b.getD i 0))+c))<|zZ) ?_
   refine kx [(18,(kE (i+1)))] [] (zE (xO (i+1))<|zM<|zZ) ?_
   exact ⟨(i+1,out.set i (a.getD i 0+b.getD i 0+c),0),wk,(by obtain ⟨q1,q2,q3⟩:=plus_step (s:=a.getD i 0+b.getD i 0+c) (c':=0) qM hdo (by omega) hv (by omega) (by omega);exact ⟨q1,q2,by omega,by omega,q3⟩),(by first|omega|(dsimp only;omega))⟩
 ·replace h1:=vT h1
  have hie:i=max a.length b.length+1:=by omega
  rw[hie] at hv
  refine kO<|jB<|kS (xY (t:=5) (k:=0) (es:=map jC out) rfl rfl (vX _ _ (λ_=>rfl)) (vK _ _ qM) (xV _ _ (λ_=>rfl) qM)) ?_
  refine kx [(4,(vl 107 1 jC (ofNat (val out))))] [] (zM<|zE (kB (t_trim out (by assumption) (by omega)))<|zM<|zZ) ?_
  refine jE ⟨_,(.tmp (d:=(.sl 107 1 (map jC (ofNat (val out))))) rfl .nil),?_⟩
  rw[plus_end hda hdb qM hv];rfl
theorem t_minus(a b:List Nat)(hda:Dig a)(hdb:Dig b)(hba:val b<=val a)(hla:a.length<=8796093022208):jP prog 184 [(.sl 107 1 (map jC a)),(.sl 107 1 (map jC b))] (.sl 107 1 (map jC (ofNat (val a-val b)))):=by
 refine vD func184 ?_
 refine jB<|kx [] [] (zE (aN 107 1)<|zZ) ?_
 refine jB<|kx [(5,(.own 0 107 1 a.length))] [(0,some (bm jC (replicate a.length 0)))] (zM<|zE (yA kJ)<|zN (oMk 0 jC (0:Nat) a.length a.length kJ xA yR mK)<|zM<|zZ) ?_
 refine jB<|kx [(6,(iT 0))] [] (zM<|zZ) ?_
 refine jB<|jB<|kx [(13,(kE a.length)),(14,(kE 0))] [] (zM<|zE (oLo kJ)<|zM<|zZ) ?_
 refine jH<|kR (α:=Nat × List Nat × Nat) (λ(i,out,c)=>⟨[(0,(vl 107 1 jC a)),(1,(vl 107 1 jC b)),(5,(.own 0 107 1 a.length)),(6,(iT c)),(13,(kE a.length)),(14,(kE i))],[(0,some (bm jC out))]⟩) (λ(i,out,c)=>out.length=a.length/\Dig out/\i<=a.length/\c<=1/\val (out.take i)+val (b.take i)=val (a.take i)+pw i*c) (λ(i,out,c)=>a.length-i) (0,replicate a.length 0,0) wk ⟨by simp,zV _,Nat.zero_le _,Nat.zero_le _,by simp [val]⟩ ?_
 rintro ⟨i,out,c⟩ ⟨qM,hdo,hi,hc,hv⟩
 have hai:=hda.getD i
 have hbi:=hdb.getD i
 refine jB<|kx [(15,(vb (decide (((i:Nat):Int)<((a.length:Nat):Int)))))] [] (zE gX<|zZ) ?_
 refine jB<|jD rfl (λh1=>?_) (λh1=>?_)
 ·replace h1:=vF h1
  refine jF<|jB<|jH<|jB<|kx [(7,(kE i))] [] (zM<|zM<|zZ) ?_
  refine jB<|kx [(8,(iT ((b.getD i 0)+c)))] [] (zM<|zM<|zE (kB (t_at b i))<|zM<|zE (xO ((b.getD i 0)+c))<|zM<|zZ) ?_
  refine jB<|kx [(6,(iT 0))] [] (zM<|zZ) ?_
  refine jB<|kx [(27,(vb (decide ((((a.getD i 0):Nat):Int)<((((b.getD i 0)+c):Nat):Int)))))] [] (zM<|zM<|zE (cB kJ i (0:Nat))<|zE (dK qP)<|zM<|zE gX<|zZ) ?_
  refine jD rfl (λh2=>?_) (λh2=>?_)
  ·replace h2:=vF h2
   refine kx [(6,(iT 1))] [(0,some (bm jC (out.set i (((a.getD i 0)+1000000000)-((b.getD i 0)+c)))))] (zM<|zM<|zM<|zM<|zE (cB kJ i (0:Nat))<|zE (dK qP)<|zE (xO ((a.getD i 0)+1000000000))<|zM<|zE (oSb (((a.getD i 0)+1000000000)-((b.getD i 0)+c)))<|zE (yF kJ i)<|zT (fF qP i (((a.getD i 0)+1000000000)-((b.getD i 0)+c)))<|zM<|zZ) ?_
   refine kx [(14,(kE (i+1)))] [] (zE (xO (i+1))<|zM<|zZ) ?_
   exact ⟨(i+1,out.set i (a.getD i 0+1000000000-(b.getD i 0+c)),1),wk,(by obtain ⟨q1,q2,q3⟩:=minus_step (s:=a.getD i 0+1000000000-(b.getD i 0+c)) (c':=1) qM hdo (by omega) hv (by omega) (by omega);exact ⟨q1,q2,by omega,by omega,q3⟩),(by first|omega|(dsimp only;omega))⟩
  ·replace h2:=vT h2
   refine kx [] [(0,some (bm jC (out.set i ((a.getD i 0)-((b.getD i 0)+c)))))] (zM<|zM<|zM<|zM<|zE (cB kJ i (0:Nat))<|zE (dK qP)<|zM<|zE (oSb ((a.getD i 0)-((b.getD i 0)+c)))<|zE (yF kJ i)<|zT (fF qP i ((a.getD i 0)-((b.getD i 0)+c)))<|zZ) ?_
   refine kx [(14,(kE (i+1)))] [] (zE (xO (i+1))<|zM<|zZ) ?_
   exact ⟨(i+1,out.set i (a.getD i 0-(b.getD i 0+c)),0),wk,(by obtain ⟨q1,q2,q3⟩:=minus_step (s:=a.getD i 0-(b.getD i 0+c)) (c':=0) qM hdo (by omega) hv (by omega) (by omega);exact ⟨q1,q2,by omega,by omega,q3⟩),(by first|omega|(dsimp only;omega))⟩
 ·replace h1:=vT h1
  have hie:i=a.length:=by omega
  rw[hie] at hv
  refine kO<|jB<|kS (xY (t:=5) (k:=0) (es:=map jC out) rfl rfl (vX _ _ (λ_=>rfl)) (vK _ _ qM) (xV _ _ (λ_=>rfl) qM)) ?_
  refine kx [(4,(vl 107 1 jC (ofNat (val out))))] [] (zM<|zE (kB (t_trim out (by assumption) (by omega)))<|zM<|zZ) ?_
  refine jE ⟨_,(.tmp (d:=(.sl 107 1 (map jC (ofNat (val out))))) rfl .nil),?_⟩
  rw[minus_end hda hdb hdo hba qM hv];rfl
theorem t_times(a b:List Nat)(hda:Dig a)(hdb:Dig b)(hla:a.length<=4398046511104)(hlb:b.length<=4398046511104):jP prog 161 [(.sl 107 1 (map jC a)),(.sl 107 1 (map jC b))] (.sl 107 1 (map jC (ofNat (val a*val b)))):=by
 refine vD func161 ?_
 refine jB<|kx [] [] (zE (aN 107 1)<|zZ) ?_
 refine jB<|kx [(5,(.own 0 107 1 (a.length+b.length)))] [(0,some (bm jC (replicate (a.length+b.length) 0)))] (zM<|zE (yA kJ)<|zM<|zE (yA kJ)<|zE (xO (a.length+b.length))<|zN (oMk 0 jC (0:Nat) (a.length+b.length) (a.length+b.length) kJ xA yR mK)<|zM<|zZ) ?_
 refine jB<|jB<|kx [(18,(vl 107 1 jC a)),(19,(kE a.length)),(20,(kE 0))] [] (zM<|zE (yA kJ)<|zM<|zZ) ?_
 refine jH<|kR (α:=Nat × List Nat) (λ(i,out)=>⟨[(1,(vl 107 1 jC b)),(5,(.own 0 107 1 (a.length+b.length))),(18,(vl 107 1 jC a)),(19,(kE a.length)),(20,(kE i))],[(0,some (bm jC out))]⟩) (λ(i,out)=>out.length=a.length+b.length/\Dig out/\i<=a.length/\(∀ k,i+b.length<=k->out.getD k 0=0)/\val out=val (a.take i)*val b) (λ(i,out)=>a.length-i) (0,replicate (a.length+b.length) 0) wk ⟨by simp,zV _,Nat.zero_le _,λk _=>fQ _ k,by simp [val,eG]⟩ ?_
 rintro ⟨i,out⟩ ⟨qM,hdo,hi,hz,hv⟩
 have hai:=hda.getD i
 refine jB<|kx [(21,(vb (decide (((i:Nat):Int)<((a.length:Nat):Int)))))] [] (zE gX<|zZ) ?_
 refine jB<|jD rfl (λh1=>?_) (λh1=>?_)
 ·replace h1:=vF h1
  refine jF<|jB<|jH<|jB<|kx [(6,(kE i)),(7,(iT (a.getD i 0)))] [] (zM<|zE (cB kJ i (0:Nat))<|zE (dK qP)<|zM<|zM<|zZ) ?_
  refine jB<|kx [(8,(gL 0))] [] (zM<|zZ) ?_
  refine jB<|jB<|kx [(25,(vl 107 1 jC b)),(26,(kE b.length)),(27,(kE 0))] [] (zM<|zE (yA kJ)<|zM<|zZ) ?_
  refine jH<|kR (α:=Nat × List Nat × Nat) (λ(j,o2,c)=>⟨[(1,(vl 107 1 jC b)),(5,(.own 0 107 1 (a.length+b.length))),(6,(kE i)),(7,(iT (a.getD i 0))),(8,(gL c)),(18,(vl 107 1 jC a)),(19,(kE a.length)),(20,(kE i)),(25,(vl 107 1 jC b)),(26,(kE b.length)),(27,(kE j))],[(0,some (bm jC o2))]⟩) (λ(j,o2,c)=>o2.length=a.length+b.length/\Dig o2/\j<=b.length/\c<1000000000/\(∀ k,i+b.length<=k->o2.getD k 0=0)/\val o2+pw (i+j)*c=val (a.take i)*val b+pw i*(a.getD i 0*val (b.take j))) (λ(j,o2,c)=>b.length-j) (0,out,0) wk ⟨qM,hdo,Nat.zero_le _,by decide,hz,by simp [val,hv]⟩ ?_
  rintro ⟨j,o2,c⟩ ⟨hlen2,hdo2,hj,hc,hz2,hv2⟩
  have hbj:=hdb.getD j
  have hoj:=hdo2.getD (i+j)
  have hpq:a.getD i 0*b.getD j 0<=999999999*999999999:=Nat.mul_le_mul (by omega) (by omega)
  refine jB<|kx [(28,(vb (decide (((j:Nat):Int)<((b.length:Nat):Int)))))] [] (zE gX<|zZ) ?_
  refine jB<|jD rfl (λh2=>?_) (λh2=>?_)
  ·replace h2:=vF h2
   refine jF<|jB<|jH<|jB<|kx [(9,(kE j)),(10,(iT (b.getD j 0)))] [] (zM<|zE (cB kJ j (0:Nat))<|zE (dK qP)<|zM<|zM<|zZ) ?_
   refine jB<|kx [(11,(gL (((o2.getD (i+j) 0)+((a.getD i 0)*(b.getD j 0)))+c)))] [] (zM<|zM<|zM<|zE (xO (i+j))<|zE (yF kJ (i+j))<|zR (fE qP (i+j) (0:Nat))<|zE (cA yU yJ (o2.getD (i+j) 0))<|zM<|zE (cA yU yJ (a.getD i 0))<|zM<|zE (cA yU yJ (b.getD j 0))<|zE (oMl ((a.getD i 0)*(b.getD j 0)))<|zE (xO ((o2.getD (i+j) 0)+((a.getD i 0)*(b.getD j 0))))<|zM<|zE (xO (((o2.getD (i+j) 0)+((a.getD i 0)*(b.getD j 0)))+c))<|zM<|zZ) ?_
   refine kx [(8,(gL ((((o2.getD (i+j) 0)+((a.getD i 0)*(b.getD j 0)))+c) / 1000000000)))] [(0,some (bm jC (o2.set (i+j) ((((o2.getD (i+j) 0)+((a.getD i 0)*(b.getD j 0)))+c) % 1000000000))))] (zM<|zM<|zM<|zE (xO (i+j))<|zM<|zE (oRe ((((o2.getD (i+j) 0)+((a.getD i 0)*(b.getD j 0)))+c) % 1000000000))<|zE (cA nL gP ((((o2.getD (i+j) 0)+((a.getD i 0)*(b.getD j 0)))+c) % 1000000000))<|zM<|zE (oQu ((((o2.getD (i+j) 0)+((a.getD i 0)*(b.getD j 0)))+c) / 1000000000))<|zE (yF kJ (i+j))<|zT (fF qP (i+j) ((((o2.getD (i+j) 0)+((a.getD i 0)*(b.getD j 0)))+c) % 1000000000))<|zM<|zZ) ?_
   refine kx [(27,(kE (j+1)))] [] (zE (xO (j+1))<|zM<|zZ) ?_
   exact ⟨(j+1,o2.set (i+j) ((o2.getD (i+j) 0+a.getD i 0*b.getD j 0+c) % 1000000000),(o2.getD (i+j) 0+a.getD i 0*b.getD j 0+c) / 1000000000),wk,(by obtain ⟨q1,q2⟩:=times_step (by omega) hdo2 hv2 rfl (val_take_succ b j);exact ⟨by simpa using hlen2,q1,by omega,by omega,zero_set (by omega) hz2,q2⟩),(by first|omega|(dsimp only;omega))⟩
  ·replace h2:=vT h2
   have hje:j=b.length:=by omega
   rw[hje] at hv2
   refine kO<|kx [] [(0,some (bm jC (o2.set (i+b.length) c)))] (zM<|zM<|zM<|zE (yA kJ)<|zE (xO (i+b.length))<|zM<|zE (cA nL gP c)<|zE (yF kJ (i+b.length))<|zT (fF qP (i+b.length) c)<|zZ) ?_
   refine kx [(20,(kE (i+1)))] [] (zE (xO (i+1))<|zM<|zZ) ?_
   exact ⟨(i+1,o2.set (i+b.length) c),wk,(by obtain ⟨q1,q2,q3,q4⟩:=times_row hdo2 (by omega) hlen2 hz2 hc hv2;exact ⟨q1,q2,by omega,q3,q4⟩),(by first|omega|(dsimp only;omega))⟩
 ·replace h1:=vT h1
  have hie:i=a.length:=by omega
  rw[hie,take_length] at hv
  refine kO<|jB<|kS (xY (t:=5) (k:=0) (es:=map jC out) rfl rfl (vX _ _ (λ_=>rfl)) (vK _ _ qM) (xV _ _ (λ_=>rfl) qM)) ?_
  refine kx [(4,(vl 107 1 jC (ofNat (val out))))] [] (zM<|zE (kB (t_trim out (by assumption) (by omega)))<|zM<|zZ) ?_
  refine jE ⟨_,(.tmp (d:=(.sl 107 1 (map jC (ofNat (val out))))) rfl .nil),?_⟩
  rw[hv];rfl
end Go.Proofs.YtckccjhflbljgaaGreatDoor
