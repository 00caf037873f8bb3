/- Part 13 of a proof: rules, plain facts, and functions walked. -/
import Derived.Test.YtciingpdmjepgaaGreatM12
set_option linter.all false
namespace Go.Fid
def up:SL->SL->SL
 |[],S=>S
 |p::D,S=>p::up D S
def upB:BS->BS->BS
 |[],S=>S
 |p::D,S=>p::upB D S
def inS(D:SL)(t:Nat):Bool:=D.any fun p=>Nat.beq p.1 t
def inB(D:BS)(t:Nat):Bool:=D.any fun p=>Nat.beq p.1 t
def isJ:SV->Bool
 |.junk=>true
 |_=>false
theorem isJ_eq{x:SV}(h:isJ x=true):x=.junk:=by cases x<;>first | rfl | cases h
theorem sget_up(D S:SL)(t:Nat):jR (up D S) t=bif inS D t then jR D t else jR S t:=by
 induction D with
 |nil=>rfl
 |cons p D ih=>
  obtain ⟨j,x⟩:=p
  show jR ((j,x)::up D S) t=bif (Nat.beq j t||inS D t) then _ else _
  rw[qJ,qJ,ih]
  by_cases h:j=t
  ·subst h;simp
  ·have:Nat.beq j t=false:=by rw[<- Bool.not_eq_true];exact fun e=>h (Nat.eq_of_beq_eq_true e)
   rw[if_neg h,if_neg h,this,Bool.false_or]
theorem bget_up(D S:BS)(t:Nat):jV (upB D S) t=bif inB D t then jV D t else jV S t:=by
 induction D with
 |nil=>rfl
 |cons p D ih=>
  obtain ⟨j,x⟩:=p
  show jV ((j,x)::upB D S) t=bif (Nat.beq j t||inB D t) then _ else _
  rw[jJ,jJ,ih]
  by_cases h:j=t
  ·subst h;simp
  ·have:Nat.beq j t=false:=by rw[<- Bool.not_eq_true];exact fun e=>h (Nat.eq_of_beq_eq_true e)
   rw[if_neg h,if_neg h,this,Bool.false_or]
theorem sget_out{D:SL}{t:Nat}(h:inS D t=false):jR D t=.junk:=by
 induction D with
 |nil=>rfl
 |cons p D ih=>
  obtain ⟨j,x⟩:=p
  simp only[inS,List.any_cons,Bool.or_eq_false_iff] at h
  rw[qJ,if_neg (fun e=>by subst e;simp at h),ih h.2]
theorem up_app(W S:SL):up W S=W++S:=by
 induction W with
 |nil=>rfl
 |cons p W ih=>show p::up W S=p::(W++S);rw[ih]
theorem upB_app(W S:BS):upB W S=W++S:=by
 induction W with
 |nil=>rfl
 |cons p W ih=>show p::upB W S=p::(W++S);rw[ih]
structure FinS (S0 D Sf:SL):Prop where
 d:D.map (fun p=>jR Sf p.1)=D.map (·.2)
 k:Sf.drop (Sf.length-S0.length)=S0
 j:((Sf.take (Sf.length-S0.length)).all fun p=>inS D p.1||isJ (jR S0 p.1))=true
structure FinB (B0 E Bf:BS):Prop where
 d:(E.filter fun p=>p.2.isSome).map (fun p=>jV Bf p.1)=(E.filter fun p=>p.2.isSome).map (·.2)
 k:Bf.drop (Bf.length-B0.length)=B0
 j:((Bf.take (Bf.length-B0.length)).all fun p=>inB E p.1)=true
structure FinF (S0 D Sf:SL):Prop where
 d:D.map (fun p=>jR Sf p.1)=D.map (·.2)
 j:((S0.filter fun p=>!inS D p.1).map fun p=>jR S0 p.1)=((S0.filter fun p=>!inS D p.1).map fun p=>jR Sf p.1)
theorem FinS.get{S0 D Sf:SL}(h:FinS S0 D Sf)(t:Nat):jR (up D S0) t=.junk\/jR (up D S0) t=jR Sf t:=by
 rw[sget_up]
 cases hD:inS D t with
 |true=>exact sget_eq_or h.d t
 |false=>
  rw[cond_false]
  have e:Sf=up (Sf.take (Sf.length-S0.length)) S0:=by rw[up_app];conv=>lhs;rw[<- List.take_append_drop (Sf.length-S0.length) Sf,h.k]
  cases hW:inS (Sf.take (Sf.length-S0.length)) t with
  |false=>right;conv=>rhs;rw[e,sget_up,hW,cond_false]
  |true=>
   left
   simp only[inS,List.any_eq_true] at hW
   obtain ⟨p,hp,hpt⟩:=hW
   have:=List.all_eq_true.1 h.j p hp
   rw[Nat.eq_of_beq_eq_true hpt,hD,Bool.false_or] at this
   exact isJ_eq this
theorem FinF.get{S0 D Sf:SL}(h:FinF S0 D Sf)(t:Nat):jR (up D S0) t=.junk\/jR (up D S0) t=jR Sf t:=by
 rw[sget_up]
 cases hD:inS D t with
 |true=>exact sget_eq_or h.d t
 |false=>
  rw[cond_false]
  cases hS:inS S0 t with
  |false=>left;exact sget_out hS
  |true=>
   right
   simp only[inS,List.any_eq_true] at hS
   obtain ⟨p,hp,hpt⟩:=hS
   have hpt:=Nat.eq_of_beq_eq_true hpt
   subst hpt
   exact List.map_inj_left.1 h.j p (List.mem_filter.2 ⟨hp,by rw[hD];rfl⟩)
theorem FinB.get{B0 E Bf:BS}(h:FinB B0 E Bf){k:Nat}{c:List SV}(hc:jV (upB E B0) k=some c):jV Bf k=some c:=by
 rw[bget_up] at hc
 cases hD:inB E k with
 |true=>
  rw[hD,cond_true] at hc
  exact List.map_inj_left.1 h.d (k,some c) (List.mem_filter.2 ⟨dZ hc,rfl⟩)
 |false=>
  rw[hD,cond_false] at hc
  have e:Bf=upB (Bf.take (Bf.length-B0.length)) B0:=by rw[upB_app];conv=>lhs;rw[<- List.take_append_drop (Bf.length-B0.length) Bf,h.k]
  cases hW:inB (Bf.take (Bf.length-B0.length)) k with
  |false=>rw[e,bget_up,hW,cond_false];exact hc
  |true=>
   simp only[inB,List.any_eq_true] at hW
   obtain ⟨p,hp,hpt⟩:=hW
   have:=List.all_eq_true.1 h.j p hp
   rw[Nat.eq_of_beq_eq_true hpt,hD] at this
   cases this
theorem sim_get{S B S' B'}(h1:∀ t,jR S' t=.junk\/jR S' t=jR S t)(h2:∀ k c,jV B' k=some c->jV B k=some c):kP ⟨S,B⟩ ⟨S',B'⟩:=fun C a w ⟨D,β,hs⟩=>
 ⟨D,β,hs.base,⟨fun k cs hk=>hs.mem.ok k cs (h2 _ _ hk),fun k1 k2 c1 c2 q1 q2=>hs.mem.inj k1 k2 c1 c2 (h2 _ _ q1) (h2 _ _ q2)⟩,fun k c hk=>hs.high k c (h2 _ _ hk),fun t=>by
  rcases h1 t with h | h
  ·show qF w D β _ (jR S' t)
   rw[h];trivial
  ·show qF w D β _ (jR S' t)
   rw[h];exact hs.slots t⟩
theorem wk{st:PS}{l:SL}{b:BS}(h1:l.map (fun p=>jR st.sl p.1)=l.map (·.2):=by kernel_rfl)(h2:b.map (fun p=>jV st.bs p.1)=b.map (·.2):=by kernel_rfl):kP st ⟨l,b⟩:=weak h1 h2
def SK(P:Program)(n:Fr)(ops:Array Oper)(K:SL->BS->Prop)(S:SL)(B:BS)(l:List Oper):Prop:=∃ st1,Steps P n ops ⟨S,B⟩ l st1/\K st1.sl st1.bs
def DK(P:Program)(n:Fr)(ops:Array Oper)(K:SL->BS->Prop)(news:List Nat)(acc0:List (List Nat × List Nat))(S:SL)(B:BS)(l:List Oper):Prop :=
 ∃ st1 acc,DSteps P n ops news ⟨S,B⟩ l acc st1/\orderB ops (acc0++acc)=true/\K st1.sl st1.bs
def KS(S0:SL)(B0:BS)(D:SL)(E:BS)(Sf:SL)(Bf:BS):Prop:=FinS S0 D Sf/\FinB B0 E Bf
def KF(S0:SL)(B0:BS)(D:SL)(E:BS)(Sf:SL)(Bf:BS):Prop:=FinF S0 D Sf/\FinB B0 E Bf
def dO(o:Oper):Tmp:=o.dst.getD 0
def goK(n:Fr)(ops:Array Oper)(S:SL)(o:Oper):Bool:=match o.dst with
 |some d=>match vM ops S o with
  |some true=>yP n (some d)
  |_=>false
 |none=>false
theorem xK{n:Fr}{ops:Array Oper}{S:SL}{o:Oper}(h:goK n ops S o=true):o.dst=some (dO o)/\vM ops S o=some true/\yP n (some (dO o))=true:=by
 unfold goK at h
 unfold dO
 split at h
 ·rename_i d hd
  split at h
  ·rename_i hg;rw[hd];exact ⟨rfl,hg,h⟩
  ·cases h
 ·cases h
def goF(n:Fr)(ops:Array Oper)(S:SL)(o:Oper):Bool:=match o.dst with
 |some d=>match vM ops S o with
  |some false=>yP n (some d)
  |_=>false
 |none=>false
theorem goF_spec{n:Fr}{ops:Array Oper}{S:SL}{o:Oper}(h:goF n ops S o=true):o.dst=some (dO o)/\vM ops S o=some false/\yP n (some (dO o))=true:=by
 unfold goF at h
 unfold dO
 split at h
 ·rename_i d hd
  split at h
  ·rename_i hg;rw[hd];exact ⟨rfl,hg,h⟩
  ·cases h
 ·cases h
def goT(ops:Array Oper)(S:SL)(o:Oper):Bool:=match o.dst with
 |some _=>false
 |none=>match vM ops S o with
  |some true=>true
  |_=>false
theorem goT_spec{ops:Array Oper}{S:SL}{o:Oper}(h:goT ops S o=true):o.dst=none/\vM ops S o=some true:=by
 unfold goT at h
 split at h
 ·cases h
 ·rename_i hd
  split at h
  ·rename_i hg;exact ⟨hd,hg⟩
  ·cases h
def mvV(S:SL)(o:Oper):SV:=match o.op with
 |.move x=>ev (jR S) x
 |.assign x=>ev (jR S) x
 |_=>.junk
def mvK(o:Oper):Bool:=match o.op with
 |.move _=>true
 |.assign _=>true
 |_=>false
def ROk(P:Program)(o:Oper)(S:SL)(B:BS)(k:Nat)(x:SV):Prop:=∃ cs,qU P o (jR S) [(k,cs)] x/\jV B k=some cs
def TK(P:Program)(o:Oper)(S:SL)(B:BS)(k:Nat)(cs:List SV):Prop:=∃ old,TOk P o (jR S) k old cs/\jV B k=some old
section
variable {P:Program} {n:Fr} {ops:Array Oper} {K:SL->BS->Prop} {S:SL} {B:BS} {l:List Oper} {o:Oper} {news:List Nat} {acc0:List (List Nat × List Nat)}
theorem kA(h:mvK o=true):qU P o (jR S) [] (mvV S o):=by
 unfold mvK at h
 unfold mvV
 split at h
 ·rename_i x hx;exact e_move (.inl hx)
 ·rename_i x hx;exact e_move (.inr hx)
 ·cases h
theorem zE{x:SV}(h:qU P o (jR S) [] x)(r:SK P n ops K ((dO o,x)::S) B l)(g:goK n ops S o=true:=by kernel_rfl):SK P n ops K S B (o::l):=by
 obtain ⟨st1,r1,r2⟩:=r
 obtain ⟨hd,hg,hb⟩:=xK g
 have hs:=Step.e (P:=P) (n:=n) (ops:=ops) (st:=⟨S,B⟩) (o:=o) h hg (by rw[hd];exact hb) (by simp)
 rw[hd] at hs
 exact ⟨st1,.cons hs r1,r2⟩
theorem zM(r:SK P n ops K ((dO o,mvV S o)::S) B l)(h:mvK o=true:=by kernel_rfl)(g:goK n ops S o=true:=by kernel_rfl):SK P n ops K S B (o::l):=zE (kA h) r g
theorem zR{k:Nat}{x:SV}(h:ROk P o S B k x)(r:SK P n ops K ((dO o,x)::S) B l)(g:goK n ops S o=true:=by kernel_rfl):SK P n ops K S B (o::l):=by
 obtain ⟨st1,r1,r2⟩:=r
 obtain ⟨cs,h,hbk⟩:=h
 obtain ⟨hd,hg,hb⟩:=xK g
 have hs:=Step.e (P:=P) (n:=n) (ops:=ops) (st:=⟨S,B⟩) (o:=o) h hg (by rw[hd];exact hb) (by simpa using hbk)
 rw[hd] at hs
 exact ⟨st1,.cons hs r1,r2⟩
theorem zN{k:Nat}{cs:List SV}{x:SV}(h:NOk P o (jR S) k cs x)(r:SK P n ops K ((dO o,x)::S) ((k,some cs)::B) l)(g:goK n ops S o=true:=by kernel_rfl)(hf:zB k ⟨S,B⟩=true:=by kernel_rfl):SK P n ops K S B (o::l):=by
 obtain ⟨st1,r1,r2⟩:=r
 obtain ⟨hd,hg,hb⟩:=xK g
 have hs:=Step.n (P:=P) (n:=n) (ops:=ops) (st:=⟨S,B⟩) (o:=o) h hg (by rw[hd];exact hb) hf
 rw[hd] at hs
 exact ⟨st1,.cons hs r1,r2⟩
theorem zH{k:Nat}{cs:List SV}{x:SV}(h:NOk P o (jR S) k cs x)(r:SK P n ops K ((dO o,x)::S) ((k,some cs)::B) l)(g:goK n ops S o=true:=by kernel_rfl)(h1:(S.all fun p=>!p.2.names k)=true:=by kernel_rfl)
  (h2:FrB k B:=by repeat first | exact frb_nil _ | refine frb_map rfl ?_ | refine frb_d rfl ?_ | refine frb_cs rfl rfl ?_ | refine frb_none rfl ?_):SK P n ops K S B (o::l):=zN h r g (freshB_of h1 h2)
theorem zT{k:Nat}{cs:List SV}(h:TK P o S B k cs)(r:SK P n ops K S ((k,some cs)::B) l)(g:goT ops S o=true:=by kernel_rfl):SK P n ops K S B (o::l):=by
 obtain ⟨st1,r1,r2⟩:=r
 obtain ⟨old,h,hb⟩:=h
 obtain ⟨hd,hg⟩:=goT_spec g
 have hs:=Step.t (P:=P) (n:=n) (ops:=ops) (st:=⟨S,B⟩) (o:=o) h hg (by rw[hd];rfl) hb
 rw[hd] at hs
 exact ⟨st1,.cons hs r1,r2⟩
theorem zK(r:SK P n ops K ((dO o,.d (.tup []))::S) B l)(g:goF n ops S o=true:=by kernel_rfl):SK P n ops K S B (o::l):=by
 obtain ⟨st1,r1,r2⟩:=r
 obtain ⟨hd,hg,hb⟩:=goF_spec g
 have hs:=Step.skip (P:=P) (n:=n) (ops:=ops) (st:=⟨S,B⟩) (o:=o) hg (by rw[hd];exact hb)
 rw[hd] at hs
 exact ⟨st1,.cons hs r1,r2⟩
theorem zX{S1:SL}{B1:BS}(h:∀ (C:Ctx) (a:Act) (w:World) (Q:Exit->Act->World->Prop),C.n=n->nU C a w ⟨S,B⟩->o.wp P a w (fun a' w'=>nU C a' w' ⟨S1,B1⟩) Q)(hg:vM ops S o=some true)(r:SK P n ops K S1 B1 l):SK P n ops K S B (o::l):=by
 obtain ⟨st1,r1,r2⟩:=r
 exact ⟨st1,.cons (.sem h hg) r1,r2⟩
section
variable {S0:SL} {B0:BS} {D:SL} {E:BS}
theorem zZ(h1:D.map (fun p=>jR S p.1)=D.map (·.2):=by kernel_rfl)(h2:S.drop (S.length-S0.length)=S0:=by kernel_rfl)(h3:((S.take (S.length-S0.length)).all fun p=>inS D p.1||isJ (jR S0 p.1))=true:=by kernel_rfl)
  (h4:(E.filter fun p=>p.2.isSome).map (fun p=>jV B p.1)=(E.filter fun p=>p.2.isSome).map (·.2):=by kernel_rfl) (h5:B.drop (B.length-B0.length)=B0:=by kernel_rfl) (h6:((B.take (B.length-B0.length)).all fun p=>inB E p.1)=true:=by kernel_rfl):SK P n ops (KS S0 B0 D E) S B [] :=
 ⟨⟨S,B⟩,.nil,⟨h1,h2,h3⟩,⟨h4,h5,h6⟩⟩
theorem zF(h1:D.map (fun p=>jR S p.1)=D.map (·.2):=by kernel_rfl)(h2:((S0.filter fun p=>!inS D p.1).map fun p=>jR S0 p.1)=((S0.filter fun p=>!inS D p.1).map fun p=>jR S p.1):=by kernel_rfl)
  (h4:(E.filter fun p=>p.2.isSome).map (fun p=>jV B p.1)=(E.filter fun p=>p.2.isSome).map (·.2):=by kernel_rfl) (h5:B.drop (B.length-B0.length)=B0:=by kernel_rfl) (h6:((B.take (B.length-B0.length)).all fun p=>inB E p.1)=true:=by kernel_rfl):SK P n ops (KF S0 B0 D E) S B [] :=
 ⟨⟨S,B⟩,.nil,⟨h1,h2⟩,⟨h4,h5,h6⟩⟩
theorem wZ(h1:D.map (fun p=>jR S p.1)=D.map (·.2):=by kernel_rfl)(h2:S.drop (S.length-S0.length)=S0:=by kernel_rfl)(h3:((S.take (S.length-S0.length)).all fun p=>inS D p.1||isJ (jR S0 p.1))=true:=by kernel_rfl)
  (h4:(E.filter fun p=>p.2.isSome).map (fun p=>jV B p.1)=(E.filter fun p=>p.2.isSome).map (·.2):=by kernel_rfl) (h5:B.drop (B.length-B0.length)=B0:=by kernel_rfl) (h6:((B.take (B.length-B0.length)).all fun p=>inB E p.1)=true:=by kernel_rfl) (h7:orderB ops acc0=true:=by kernel_rfl):DK P n ops (KS S0 B0 D E) news acc0 S B [] :=
 ⟨⟨S,B⟩,[],.nil,by simpa using h7,⟨h1,h2,h3⟩,⟨h4,h5,h6⟩⟩
theorem kx{id:Nat}{Q:Exit->PS->Prop}(D:SL)(E:BS)(h:SK P n l.toArray (KS S0 B0 D E) S0 B0 l)(hq:Q .normal ⟨up D S0,upB E B0⟩)(hp:l.all yC=true:=by kernel_rfl):cR P n (.region id l.toArray false) Q ⟨S0,B0⟩:=fun C a w N hn hs=>by
 obtain ⟨st1,h1,h2,h3⟩:=h
 subst hn
 exact wpIn_region_lit (steps_sound (C:=C) h1 hp rfl (fun a' w' hs'=>⟨_,sim_get h2.get (fun k c=>h3.get) C a' w' hs',hq⟩) hs)
theorem kf{id:Nat}{Q:Exit->PS->Prop}(D:SL)(E:BS)(h:SK P n l.toArray (KF S0 B0 D E) S0 B0 l)(hq:Q .normal ⟨up D S0,upB E B0⟩)(hp:l.all yC=true:=by kernel_rfl):cR P n (.region id l.toArray false) Q ⟨S0,B0⟩:=fun C a w N hn hs=>by
 obtain ⟨st1,h1,h2,h3⟩:=h
 subst hn
 exact wpIn_region_lit (steps_sound (C:=C) h1 hp rfl (fun a' w' hs'=>⟨_,sim_get h2.get (fun k c=>h3.get) C a' w' hs',hq⟩) hs)
theorem kd{id:Nat}{Q:Exit->PS->Prop}(D:SL)(E:BS)(hm:P.follows .mixedOrders=true)(h:DK P n l.toArray (KS S0 B0 D E) [] [] S0 B0 l)(hq:Q .normal ⟨up D S0,upB E B0⟩)(hb:backB l.toArray=true:=by kernel_rfl)(hp:l.all yC=true:=by kernel_rfl):cR P n (.region id l.toArray true) Q ⟨S0,B0⟩:=fun C a w N hn hs=>by
 obtain ⟨st1,acc,h1,h0,h2,h3⟩:=h
 subst hn
 exact wpIn_region_any hm (draw_sound (C:=C) rfl (by simpa using h1) (by simpa using h0) hb (by simpa using hp) (fun a' w' hs'=>⟨_,sim_get h2.get (fun k c=>h3.get) C a' w' hs',hq⟩) hs)
end
theorem wE{x:SV}(h:qU P o (jR S) [] x)(r:DK P n ops K news (acc0++[([],[])]) ((dO o,x)::S) B l)(g:goK n ops S o=true:=by kernel_rfl)(hn:clearR ops S o news x=true:=by kernel_rfl):DK P n ops K news acc0 S B (o::l):=by
 obtain ⟨st1,acc,r1,r0,r2⟩:=r
 obtain ⟨hd,hg,hb⟩:=xK g
 have hs:=nY.e (P:=P) (n:=n) (ops:=ops) (news:=news) (st:=⟨S,B⟩) (o:=o) h hg (by rw[hd];exact hb) (by simp) hn
 rw[hd] at hs
 exact ⟨st1,([],[])::acc,.cons hs r1,by simpa using r0,r2⟩
theorem wM(r:DK P n ops K news (acc0++[([],[])]) ((dO o,mvV S o)::S) B l)(h:mvK o=true:=by kernel_rfl)(g:goK n ops S o=true:=by kernel_rfl)(hn:clearR ops S o news (mvV S o)=true:=by kernel_rfl):DK P n ops K news acc0 S B (o::l):=wE (kA h) r g hn
theorem wR{k:Nat}{x:SV}(h:ROk P o S B k x)(r:DK P n ops K news (acc0++[([k],[])]) ((dO o,x)::S) B l)(g:goK n ops S o=true:=by kernel_rfl)(hn:clearR ops S o news x=true:=by kernel_rfl):DK P n ops K news acc0 S B (o::l):=by
 obtain ⟨st1,acc,r1,r0,r2⟩:=r
 obtain ⟨cs,h,hbk⟩:=h
 obtain ⟨hd,hg,hb⟩:=xK g
 have hs:=nY.e (P:=P) (n:=n) (ops:=ops) (news:=news) (st:=⟨S,B⟩) (o:=o) h hg (by rw[hd];exact hb) (by simpa using hbk) hn
 rw[hd] at hs
 exact ⟨st1,([k],[])::acc,.cons hs r1,by simpa using r0,r2⟩
theorem wN{k:Nat}{cs:List SV}{x:SV}(h:NOk P o (jR S) k cs x)(r:DK P n ops K (k::news) (acc0++[([],[k])]) ((dO o,x)::S) ((k,some cs)::B) l)(g:goK n ops S o=true:=by kernel_rfl)(hf:zB k ⟨S,B⟩=true:=by kernel_rfl)(hn:clear1 news x=true:=by kernel_rfl)(hc:clearL news cs=true:=by kernel_rfl):DK P n ops K news acc0 S B (o::l):=by
 obtain ⟨st1,acc,r1,r0,r2⟩:=r
 obtain ⟨hd,hg,hb⟩:=xK g
 have hs:=nY.n (P:=P) (n:=n) (ops:=ops) (news:=news) (st:=⟨S,B⟩) (o:=o) h hg (by rw[hd];exact hb) hf hn hc
 rw[hd] at hs
 exact ⟨st1,([],[k])::acc,.cons hs r1,by simpa using r0,r2⟩
theorem wH{k:Nat}{cs:List SV}{x:SV}(h:NOk P o (jR S) k cs x)(r:DK P n ops K (k::news) (acc0++[([],[k])]) ((dO o,x)::S) ((k,some cs)::B) l)(hc:clearL news cs=true)(g:goK n ops S o=true:=by kernel_rfl)(h1:(S.all fun p=>!p.2.names k)=true:=by kernel_rfl)
  (h2:FrB k B:=by repeat first | exact frb_nil _ | refine frb_map rfl ?_ | refine frb_d rfl ?_ | refine frb_cs rfl rfl ?_ | refine frb_none rfl ?_) (hn:clear1 news x=true:=by kernel_rfl):DK P n ops K news acc0 S B (o::l):=wN h r g (freshB_of h1 h2) hn hc
theorem wT{k:Nat}{cs:List SV}(h:TK P o S B k cs)(r:DK P n ops K news (acc0++[([k],[k])]) S ((k,some cs)::B) l)(g:goT ops S o=true:=by kernel_rfl)(hc:clearLR ops S o news cs=true:=by kernel_rfl):DK P n ops K news acc0 S B (o::l):=by
 obtain ⟨st1,acc,r1,r0,r2⟩:=r
 obtain ⟨old,h,hb⟩:=h
 obtain ⟨hd,hg⟩:=goT_spec g
 have hs:=nY.t (P:=P) (n:=n) (ops:=ops) (news:=news) (st:=⟨S,B⟩) (o:=o) h hg (by rw[hd];rfl) hb hc
 rw[hd] at hs
 exact ⟨st1,([k],[k])::acc,.cons hs r1,by simpa using r0,r2⟩
theorem wK(r:DK P n ops K news (acc0++[([],[])]) ((dO o,.d (.tup []))::S) B l)(g:goF n ops S o=true:=by kernel_rfl):DK P n ops K news acc0 S B (o::l):=by
 obtain ⟨st1,acc,r1,r0,r2⟩:=r
 obtain ⟨hd,hg,hb⟩:=goF_spec g
 have hs:=nY.skip (P:=P) (n:=n) (ops:=ops) (news:=news) (st:=⟨S,B⟩) (o:=o) hg (by rw[hd];exact hb)
 rw[hd] at hs
 exact ⟨st1,([],[])::acc,.cons hs r1,by simpa using r0,r2⟩
end
def zY:SV->jW
 |.d x=>x
 |_=>.tup []
def isD:SV->Bool
 |.d _=>true
 |_=>false
def vR:IntKind->Int
 |.i64=>-9223372036854775808
 |.u64=>0
 |.u32=>0
 |.u8=>0
 |_=>1
def vS:IntKind->Int
 |.i64=>9223372036854775807
 |.u64=>18446744073709551615
 |.u32=>4294967295
 |.u8=>255
 |_=>0
theorem qG{k:IntKind}{m r:Int}(h:m=r)(h1:vR k<=r)(h2:r<=vS k):k.wrap m=r:=by
 cases k<;>simp only[vR,vS] at h1 h2<;>first | exact wi64 h h1 h2 | exact wu64 h h1 h2 | exact wu32 h h1 h2 | exact wu8 h h1 h2 | (exfalso;omega)
def kHiN:IntKind->Nat
 |.i64=>9223372036854775807
 |.u64=>18446744073709551615
 |.u32=>4294967295
 |.u8=>255
 |_=>0
theorem wNat{k:IntKind}{m:Int}{r:Nat}(h:m=((r:Nat):Int))(h2:r<=kHiN k)(h1:vR k<=0):k.wrap m=((r:Nat):Int):=by
 refine qG h (Int.le_trans h1 (Int.natCast_nonneg _)) ?_
 cases k<;>simp only[vS,kHiN] at h2 ⊢<;>first | omega | (exfalso;revert h1;decide)
theorem qAny{k:IntKind}(a b:Nat)(h:a<=kHiN k)(h1:vR k<=0):k.wrap (Int.tdiv (a:Int) (b:Int))=((a / b:Nat):Int) :=
 wNat rfl (Nat.le_trans (Nat.div_le_self a b) h) h1
theorem isD_eq{x:SV}(h:isD x=true):x=.d (zY x):=by cases x<;>first | rfl | cases h
section
variable {P:Program} {o:Oper} {S:Nat->SV} {T T':TypeId} {x y c:Operand} {k l:IntKind} {m n:Int}
theorem uL(r:Nat)(ho:o.op=.binOp .add T x y T':=by exact rfl)(hx:ev S x=.d (.val (.int k m)):=by exact rfl)(hy:ev S y=.d (.val (.int k n)):=by exact rfl)(hr:k.wrap (m+n)=((r:Nat):Int):=by exact wNat (by first | rfl | omega | (dsimp only;omega)) (by simp only[kHiN];omega) (by decide)):qU P o S [] (.d (.val (.int k ((r:Nat):Int)))):=e_add ho hx hy hr
theorem oSb(r:Nat)(ho:o.op=.binOp .sub T x y T':=by exact rfl)(hx:ev S x=.d (.val (.int k m)):=by exact rfl)(hy:ev S y=.d (.val (.int k n)):=by exact rfl)(hr:k.wrap (m-n)=((r:Nat):Int):=by exact wNat (by first | rfl | omega | (dsimp only;omega)) (by simp only[kHiN];omega) (by decide)):qU P o S [] (.d (.val (.int k ((r:Nat):Int)))):=e_sub ho hx hy hr
theorem oMl(r:Nat)(ho:o.op=.binOp .mul T x y T':=by exact rfl)(hx:ev S x=.d (.val (.int k m)):=by exact rfl)(hy:ev S y=.d (.val (.int k n)):=by exact rfl)(hr:k.wrap (m*n)=((r:Nat):Int):=by exact wNat (by first | rfl | omega | (dsimp only;omega)) (by simp only[kHiN];omega) (by decide)):qU P o S [] (.d (.val (.int k ((r:Nat):Int)))):=e_mul ho hx hy hr
theorem zAd(r:Int)(ho:o.op=.binOp .add T x y T':=by exact rfl)(hx:ev S x=.d (.val (.int k m)):=by exact rfl)(hy:ev S y=.d (.val (.int k n)):=by exact rfl)(hr:k.wrap (m+n)=r:=by exact qG (by first | omega | (dsimp only;omega)) (by simp only[vR];omega) (by simp only[vS];omega)):qU P o S [] (.d (.val (.int k r))):=e_add ho hx hy hr
theorem zSb(r:Int)(ho:o.op=.binOp .sub T x y T':=by exact rfl)(hx:ev S x=.d (.val (.int k m)):=by exact rfl)(hy:ev S y=.d (.val (.int k n)):=by exact rfl)(hr:k.wrap (m-n)=r:=by exact qG (by first | omega | (dsimp only;omega)) (by simp only[vR];omega) (by simp only[vS];omega)):qU P o S [] (.d (.val (.int k r))):=e_sub ho hx hy hr
theorem mZ(r:Int)(ho:o.op=.binOp .mul T x y T':=by exact rfl)(hx:ev S x=.d (.val (.int k m)):=by exact rfl)(hy:ev S y=.d (.val (.int k n)):=by exact rfl)(hr:k.wrap (m*n)=r:=by exact qG (by first | omega | (dsimp only;omega)) (by simp only[vR];omega) (by simp only[vS];omega)):qU P o S [] (.d (.val (.int k r))):=e_mul ho hx hy hr
theorem oQu(r:Nat)(ho:o.op=.binOp .quo T x y T':=by exact rfl)(hx:ev S x=.d (.val (.int k m)):=by exact rfl)(hy:ev S y=.d (.val (.int k n)):=by exact rfl)(h0:n≠0:=by first | decide | omega)(hr:k.wrap (m.tdiv n)=((r:Nat):Int):=by exact qAny _ _ (by simp only[kHiN];omega) (by decide)):qU P o S [] (.d (.val (.int k ((r:Nat):Int)))):=e_quo ho hx hy h0 hr
theorem oRe(r:Nat)(ho:o.op=.binOp .rem T x y T':=by exact rfl)(hx:ev S x=.d (.val (.int k m)):=by exact rfl)(hy:ev S y=.d (.val (.int k n)):=by exact rfl)(h0:n≠0:=by first | decide | omega)(hr:m.tmod n=((r:Nat):Int):=by exact tmod_nat _ _):qU P o S [] (.d (.val (.int k ((r:Nat):Int)))):=e_rem ho hx hy h0 hr
theorem zW(ho:o.op=.binOp .eql T x y T':=by exact rfl)(hx:ev S x=.d (.val (.int k m)):=by exact rfl)(hy:ev S y=.d (.val (.int k n)):=by exact rfl):qU P o S [] (.d (.val (.bool (m == n)))):=e_eql ho hx hy
theorem xX(ho:o.op=.binOp .neq T x y T':=by exact rfl)(hx:ev S x=.d (.val (.int k m)):=by exact rfl)(hy:ev S y=.d (.val (.int k n)):=by exact rfl):qU P o S [] (.d (.val (.bool (m != n)))):=e_neq ho hx hy
theorem uT(ho:o.op=.binOp .lss T x y T':=by exact rfl)(hx:ev S x=.d (.val (.int k m)):=by exact rfl)(hy:ev S y=.d (.val (.int k n)):=by exact rfl):qU P o S [] (.d (.val (.bool (decide (m<n))))):=e_lss ho hx hy
theorem oLe(ho:o.op=.binOp .leq T x y T':=by exact rfl)(hx:ev S x=.d (.val (.int k m)):=by exact rfl)(hy:ev S y=.d (.val (.int k n)):=by exact rfl):qU P o S [] (.d (.val (.bool (decide (m<=n))))):=e_leq ho hx hy
theorem cC(ho:o.op=.binOp .gtr T x y T':=by exact rfl)(hx:ev S x=.d (.val (.int k m)):=by exact rfl)(hy:ev S y=.d (.val (.int k n)):=by exact rfl):qU P o S [] (.d (.val (.bool (decide (n<m))))):=e_gtr ho hx hy
theorem oGe(ho:o.op=.binOp .geq T x y T':=by exact rfl)(hx:ev S x=.d (.val (.int k m)):=by exact rfl)(hy:ev S y=.d (.val (.int k n)):=by exact rfl):qU P o S [] (.d (.val (.bool (decide (n<=m))))):=e_geq ho hx hy
theorem oEb(hT:boolB P T=true){p q:Bool}(ho:o.op=.binOp .eql T x y T':=by exact rfl)(hx:ev S x=.d (.val (.bool p)):=by exact rfl)(hy:ev S y=.d (.val (.bool q)):=by exact rfl):qU P o S [] (.d (.val (.bool (p == q)))):=e_eqlb ho hT hx hy
theorem oNb(hT:boolB P T=true){p q:Bool}(ho:o.op=.binOp .neq T x y T':=by exact rfl)(hx:ev S x=.d (.val (.bool p)):=by exact rfl)(hy:ev S y=.d (.val (.bool q)):=by exact rfl):qU P o S [] (.d (.val (.bool (!(p == q))))):=e_neqb ho hT hx hy
theorem eU{b:Bool}(ho:o.op=.unOp .not T x:=by exact rfl)(hx:ev S x=.d (.val (.bool b)):=by exact rfl):qU P o S [] (.d (.val (.bool !b))):=e_not ho hx
theorem oNg(r:Int)(ho:o.op=.unOp .neg T x:=by exact rfl)(hx:ev S x=.d (.val (.int k n)):=by exact rfl)(hr:k.wrap (0-n)=r:=by exact qG (by first | omega | (dsimp only;omega)) (by simp only[vR];omega) (by simp only[vS];omega)):qU P o S [] (.d (.val (.int k r))):=e_neg ho hx hr
theorem nR{src dst:TypeId}(hs:(P.underlying src).isSome=true)(hd:intB P dst=some l)(r:Nat)(ho:o.op=.convert src dst x:=by exact rfl)(hx:ev S x=.d (.val (.int k n)):=by exact rfl)(hr:l.wrap n=((r:Nat):Int):=by exact wNat (by first | rfl | omega | (dsimp only;omega)) (by simp only[kHiN];omega) (by decide)):qU P o S [] (.d (.val (.int l ((r:Nat):Int)))):=e_conv ho hs hd hx hr
theorem zCv{src dst:TypeId}(hs:(P.underlying src).isSome=true)(hd:intB P dst=some l)(r:Int)(ho:o.op=.convert src dst x:=by exact rfl)(hx:ev S x=.d (.val (.int k n)):=by exact rfl)(hr:l.wrap n=r:=by exact qG (by first | omega | (dsimp only;omega)) (by simp only[vR];omega) (by simp only[vS];omega)):qU P o S [] (.d (.val (.int l r))):=e_conv ho hs hd hx hr
theorem oMx(r:Nat)(ho:o.op=.call { callee:=.builtin .max,args:=#[x,y],argTypes:=#[T,T'] }:=by exact rfl)(hx:ev S x=.d (.val (.int k m)):=by exact rfl)(hy:ev S y=.d (.val (.int k n)):=by exact rfl)(hr:(if m<n then n else m)=((r:Nat):Int):=by omega):qU P o S [] (.d (.val (.int k ((r:Nat):Int)))):=e_maxn ho hx hy hr
theorem gI(c:Bool){b:Bool}(h:qU P o S [] (.d (.val (.bool b))))(e:b=c:=by decide):qU P o S [] (.d (.val (.bool c))):=e▸h
theorem oV{z:SV}(w:SV)(h:qU P o S [] z)(e:z=w:=by kernel_rfl):qU P o S [] w:=e▸h
theorem uP(ho:o.op=.pick c x y:=by exact rfl)(hc:ev S c=.d (.val (.bool true)):=by kernel_rfl):qU P o S [] (ev S x):=e_pkt ho hc rfl
theorem mJ(ho:o.op=.pick c x y:=by exact rfl)(hc:ev S c=.d (.val (.bool false)):=by kernel_rfl):qU P o S [] (ev S y):=e_pkf ho hc rfl
theorem aC{q:Bool}(ho:o.op=.pick c x y:=by exact rfl)(hc:ev S c=.d (.val (.bool true)):=by kernel_rfl)(hx:ev S x=.d (.val (.bool q)):=by exact rfl):qU P o S [] (.d (.val (.bool (true&&q)))):=e_pkta ho hc hx
theorem zG{q:Bool}(ho:o.op=.pick c x y:=by exact rfl)(hc:ev S c=.d (.val (.bool false)):=by kernel_rfl)(hy:ev S y=.d (.val (.bool q)):=by exact rfl):qU P o S [] (.d (.val (.bool (false||q)))):=e_pkfo ho hc hy
def nilK(o:Oper):Bool:=match o.op with
 |.move (.const (.slice none 0 0))=>true
 |.assign (.const (.slice none 0 0))=>true
 |_=>false
theorem nilK_eq(h:nilK o=true):o.op=.move (.const (.slice none 0 0))\/o.op=.assign (.const (.slice none 0 0)):=by
 unfold nilK at h
 split at h
 ·exact .inl (by assumption)
 ·exact .inr (by assumption)
 ·cases h
theorem fH(t s:Nat)(h:nilK o=true:=by kernel_rfl):qU P o S [] (.d (.sl t s [])):=e_nil t s (nilK_eq h)
theorem jY{f off b p:Nat}(hf:uF P T f=some off)(ho:o.op=.fieldAddr T x f:=by exact rfl)(hx:ev S x=.ref b p:=by exact rfl):qU P o S [] (.ref b (p+off)):=e_fieldAddr_ref ho hx hf
theorem oFc{t:TypeId}{f off p:Nat}{cs:List jW}(hf:uF P T f=some off)(ho:o.op=.fieldAddr T x f:=by exact rfl)(hx:ev S x=.d (.cptr t cs p):=by exact rfl):qU P o S [] (.d (.cptr t cs (p+off))):=e_fieldAddr_cptr ho hx hf
theorem aB{E:TypeId}{N s b p:Nat}(hT:arrB P T=some (N,E,s))(j:Nat)(ho:o.op=.indexAddr T x y:=by exact rfl)(hx:ev S x=.ref b p:=by exact rfl)(hi:ev S y=.d (.val (.int k ((j:Nat):Int))):=by exact rfl)(h1:Nat.blt j N=true:=by kernel_rfl):qU P o S [] (.ref b (p+j*s)):=e_ixar ho hT hx hi rfl (Nat.le_of_ble_eq_true h1) rfl
theorem oXo{E t:TypeId}{N b:Nat}(hT:uJ P T=some (E,1))(j:Nat)(ho:o.op=.indexAddr T x y:=by exact rfl)(hx:ev S x=.own b t 1 N:=by exact rfl)(hi:ev S y=.d (.val (.int k n)):=by exact rfl)(hj:n=((j:Nat):Int):=by omega)(h1:j<N:=by omega):qU P o S [] (.ref b j):=e_ixo ho hT hx hi hj h1 (Nat.mul_one j)
theorem oXO{E t:TypeId}{N b s:Nat}(hT:uJ P T=some (E,s))(j:Nat)(ho:o.op=.indexAddr T x y:=by exact rfl)(hx:ev S x=.own b t s N:=by exact rfl)(hi:ev S y=.d (.val (.int k n)):=by exact rfl)(hj:n=((j:Nat):Int):=by omega)(h1:j<N:=by omega):qU P o S [] (.ref b (j*s)):=e_ixo ho hT hx hi hj h1 rfl
theorem oXs{E t:TypeId}{s:Nat}{es:List jW}(hT:uJ P T=some (E,s))(j:Nat)(ho:o.op=.indexAddr T x y:=by exact rfl)(hx:ev S x=.d (.sl t s es):=by exact rfl)(hi:ev S y=.d (.val (.int k ((j:Nat):Int))):=by exact rfl)(h1:Nat.blt j es.length=true:=by kernel_rfl):qU P o S [] (.d (.cptr t (es.getD j (.tup [])).cells 0)) :=
 e_ixs ho hT hx hi rfl (by
  have h1:=Nat.le_of_ble_eq_true h1
  simp [List.getElem?_eq_getElem h1,List.getD])
theorem nA{α:Type}{E t:TypeId}{s:Nat}{F:α->jW}{L:List α}(hT:uJ P T=some (E,s))(j:Nat)(d:α)(ho:o.op=.indexAddr T x y:=by exact rfl)(hx:ev S x=.d (.sl t s (L.map F)):=by exact rfl)(hi:ev S y=.d (.val (.int k n)):=by exact rfl)(hj:n=((j:Nat):Int):=by omega)(h1:j<L.length:=by omega):qU P o S [] (.d (.cptr t (F (L.getD j d)).cells 0)) :=
 e_ixs ho hT hx hi hj (ixm F L j d h1)
theorem oXm{α γ:Type}{E t:TypeId}{s:Nat}{F:α->jW}{L:List γ}(hT:uJ P T=some (E,s))(G:γ->α)(j:Nat)(d:γ)(ho:o.op=.indexAddr T x y:=by exact rfl)(hx:ev S x=.d (.sl t s ((L.map G).map F)):=by exact rfl)(hi:ev S y=.d (.val (.int k n)):=by exact rfl)(hj:n=((j:Nat):Int):=by omega)(h1:j<L.length:=by omega):qU P o S [] (.d (.cptr t (F (G (L.getD j d))).cells 0)) :=
 e_ixs ho hT hx hi hj (by simp [List.getD,List.getElem?_eq_getElem h1])
theorem mV{t:TypeId}{off:Nat}{cs:List jW}(hs:kQ P T=some (false,1))(ho:o.op=.load T x:=by exact rfl)(hx:ev S x=.d (.cptr t cs off):=by exact rfl)(hl:Nat.blt off cs.length=true:=by kernel_rfl):qU P o S [] (.d (cs.getD off (.tup []))) :=
 e_lc1 ho hx hs (by
  have hl:=Nat.le_of_ble_eq_true hl
  simp [List.getElem?_eq_getElem hl,List.getD])
theorem oCa{t:TypeId}{off sz:Nat}{cs:List jW}(hs:kQ P T=some (true,sz))(ho:o.op=.load T x:=by exact rfl)(hx:ev S x=.d (.cptr t cs off):=by exact rfl)(hl:Nat.ble (off+sz) cs.length=true:=by kernel_rfl):qU P o S [] (xJ true (((cs.drop off).take sz).map .d)):=e_lca ho hx hs hl rfl
theorem vF{i:Nat}{ds:List jW}(ho:o.op=.extract x i:=by exact rfl)(hx:ev S x=.d (.tup ds):=by exact rfl)(hi:Nat.blt i ds.length=true:=by kernel_rfl):qU P o S [] (.d (ds.getD i (.tup []))) :=
 e_exD ho hx (by
  have hi:=Nat.le_of_ble_eq_true hi
  simp [List.getElem?_eq_getElem hi,List.getD])
theorem oFv{t:TypeId}{f off sz:Nat}{cs:List jW}(hf:aP P T f=some (off,t))(hs:kQ P t=some (true,sz))(ho:o.op=.field T x f:=by exact rfl)(hx:ev S x=.d (.agg cs):=by exact rfl)(hle:Nat.ble (off+sz) cs.length=true:=by kernel_rfl):qU P o S [] (xJ true (((cs.drop off).take sz).map .d)):=e_fldv ho hx hf hs hle rfl
theorem oF1{t:TypeId}{f off:Nat}{cs:List jW}(hf:aP P T f=some (off,t))(hs:kQ P t=some (false,1))(ho:o.op=.field T x f:=by exact rfl)(hx:ev S x=.d (.agg cs):=by exact rfl)(hle:Nat.ble (off+1) cs.length=true:=by kernel_rfl):qU P o S [] (xJ false (((cs.drop off).take 1).map .d)):=e_fld1 ho hx hf hs hle rfl
theorem oXa{E:TypeId}{N s sz:Nat}{agg:Bool}{cs:List jW}(hT:arrB P T=some (N,E,s))(hs:kQ P E=some (agg,sz))(h1:agg=false->sz=1)(j:Nat)(ho:o.op=.index T x y:=by exact rfl)(hx:ev S x=.d (.agg cs):=by exact rfl)(hi:ev S y=.d (.val (.int k ((j:Nat):Int))):=by exact rfl)(hn:Nat.blt j N=true:=by kernel_rfl)(hle:Nat.ble (j*s+sz) cs.length=true:=by kernel_rfl):qU P o S [] (xJ agg (((cs.drop (j*s)).take sz).map .d)):=e_ixa ho hx hT hs h1 hi rfl hn hle rfl
theorem vV{α:Type}{E t:TypeId}{s:Nat}{F:α->jW}{L:List α}(hT:uJ P T=some (E,s))(ho:o.op=.call { callee:=.builtin .len,args:=#[x],argTypes:=#[T] }:=by exact rfl)(hx:ev S x=.d (.sl t s (L.map F)):=by exact rfl):qU P o S [] (.d (.val (.int .i64 ((L.length:Nat):Int)))):=e_ln ho hT hx (by simp)
theorem oLn{E t:TypeId}{s:Nat}{es:List jW}(hT:uJ P T=some (E,s))(r:Nat)(ho:o.op=.call { callee:=.builtin .len,args:=#[x],argTypes:=#[T] }:=by exact rfl)(hx:ev S x=.d (.sl t s es):=by exact rfl)(hr:(es.length:Int)=((r:Nat):Int):=by simp):qU P o S [] (.d (.val (.int .i64 ((r:Nat):Int)))):=e_ln ho hT hx hr
theorem oLo{E t:TypeId}{s b N:Nat}(hT:uJ P T=some (E,s))(ho:o.op=.call { callee:=.builtin .len,args:=#[x],argTypes:=#[T] }:=by exact rfl)(hx:ev S x=.own b t s N:=by exact rfl):qU P o S [] (.d (.val (.int .i64 ((N:Nat):Int)))):=e_len_own ho hT hx
theorem oBd{ps:List (Nat × Operand)}{pl:List (Nat × Nat)}{zv:List Value}{zd:List jW}(hT:mY P T=some pl)(hz:uO P T=some zv)(hzd:nH zv zd)(ho:o.op=.build T ps.toArray:=by exact rfl)
  (hps:(ps.all fun p=>isD (ev S p.2)&&(zY (ev S p.2)).ok1)=true:=by kernel_rfl) (hr:(eZ (fun i=>pl[i]?) zd (ps.map fun p=>(p.1,(zY (ev S p.2)).cells))).isSome=true:=by kernel_rfl) :
  qU P o S [] (.d (.agg ((eZ (fun i=>pl[i]?) zd (ps.map fun p=>(p.1,(zY (ev S p.2)).cells))).getD []))):=by
 rw[List.all_eq_true] at hps
 obtain ⟨r,hr⟩:=Option.isSome_iff_exists.1 hr
 have h:=e_build (P:=P) (o:=o) (S:=S) (pd:=ps.map fun p=>(p.1,zY (ev S p.2))) ho hT hz hzd (by
  rw[List.map_map]
  refine List.map_congr_left fun p hp=>?_
  have:=hps p hp
  rw[Bool.and_eq_true] at this
  show (p.1,ev S p.2)=(p.1,SV.d (zY (ev S p.2)))
  rw[<- isD_eq this.1]) (by
  rw[List.all_eq_true]
  intro q hq
  obtain ⟨p,hp,rfl⟩:=List.mem_map.1 hq
  have:=hps p hp
  rw[Bool.and_eq_true] at this
  exact this.2) (by rw[List.map_map];exact hr)
 rw[hr];exact h
theorem oBf{E:TypeId}{N s:Nat}{ps:List (Nat × Operand)}{zv:List Value}{zd:List jW}(hT:arrB P T=some (N,E,s))(hz:uO P T=some zv)(hzd:nH zv zd)(ho:o.op=.build T ps.toArray:=by exact rfl)
  (hps:ps.map (fun p=>(p.1,ev S p.2))=(ps.map fun p=>zY (ev S p.2)).zipIdx.map (fun p=>(p.2,.d p.1)):=by kernel_rfl) (hok:(ps.all fun p=>(zY (ev S p.2)).ok1&&Nat.beq (zY (ev S p.2)).cells.length s)=true:=by kernel_rfl) (hl:Nat.beq zd.length (ps.length*s)=true:=by kernel_rfl) :
  qU P o S [] (.d (.agg (flat (ps.map fun p=>zY (ev S p.2))))):=by
 rw[List.all_eq_true] at hok
 refine e_bldF (ds:=ps.map fun p=>zY (ev S p.2)) ho hT hz hzd hps ?_ ?_ (by rw[List.length_map];exact hl) rfl
 ·rw[List.all_eq_true]
  intro d hd
  obtain ⟨p,hp,rfl⟩:=List.mem_map.1 hd
  have:=hok p hp
  rw[Bool.and_eq_true] at this
  exact this.1
 ·rw[List.all_eq_true]
  intro d hd
  obtain ⟨p,hp,rfl⟩:=List.mem_map.1 hd
  have:=hok p hp
  rw[Bool.and_eq_true] at this
  exact this.2
theorem bs_fill{s len:Nat}{ps:List (Nat × Operand)}{zd:List jW}(hzl:Nat.beq zd.length s=true)(hps:ps.map (fun p=>(p.1,ev S p.2))=(ps.map fun p=>zY (ev S p.2)).zipIdx.map (fun p=>(p.2,.d p.1)))
  (hok:(ps.all fun p=>(zY (ev S p.2)).ok1&&Nat.beq (zY (ev S p.2)).cells.length s)=true) (hl:Nat.beq ps.length len=true) :
  (∀ e∈ps.map (fun p=>zY (ev S p.2)),e.cells.length=s)/\eZ (fun i=>some (i*s,s)) (List.replicate len zd).flatten (((ps.map fun p=>zY (ev S p.2)).zipIdx.map fun p=>(p.2,p.1)).map fun p=>(p.1,p.2.cells))=some (flat (ps.map fun p=>zY (ev S p.2))):=by
 have hzl:=Nat.eq_of_beq_eq_true hzl
 have hl:=Nat.eq_of_beq_eq_true hl
 have hs:∀ e∈ps.map (fun p=>zY (ev S p.2)),e.cells.length=s:=fun d hd=>by
  obtain ⟨p,hp,rfl⟩:=List.mem_map.1 hd
  have:=List.all_eq_true.1 hok p hp
  rw[Bool.and_eq_true] at this
  exact Nat.eq_of_beq_eq_true this.2
 refine ⟨hs,?_⟩
 have h:=fillL_all (ps.map fun p=>zY (ev S p.2)) 0 [] (List.replicate len zd).flatten (by simp) (by
  rw[List.length_map,hl,List.length_flatten,List.map_replicate,hzl];simp) hs
 rw[List.nil_append,List.nil_append] at h
 rw[List.map_map]
 exact h
theorem eG{E:TypeId}{s len:Nat}{ps:List (Nat × Operand)}{zv:List Value}{zd:List jW}(hT:uJ P T=some (E,s))(hz:uO P E=some zv)(hzd:nH zv zd)(ho:o.op=.buildSlice T len ps.toArray:=by exact rfl)
  (hzl:Nat.beq zd.length s=true:=by kernel_rfl) (hps:ps.map (fun p=>(p.1,ev S p.2))=(ps.map fun p=>zY (ev S p.2)).zipIdx.map (fun p=>(p.2,.d p.1)):=by kernel_rfl) (hok:(ps.all fun p=>(zY (ev S p.2)).ok1&&Nat.beq (zY (ev S p.2)).cells.length s)=true:=by kernel_rfl) (hl:Nat.beq ps.length len=true:=by kernel_rfl)
  (hbig:Nat.ble (len*s) 16777216=true:=by kernel_rfl) (hbig':Nat.ble len 16777216=true:=by kernel_rfl):qU P o S [] (.d (.sl E s (ps.map fun p=>zY (ev S p.2)))):=by
 obtain ⟨h1,h2⟩:=bs_fill hzl hps hok hl
 refine e_buildSlice (pd:=(ps.map fun p=>zY (ev S p.2)).zipIdx.map fun p=>(p.2,p.1)) ho hT hz hzd (Nat.eq_of_beq_eq_true hzl) (by rw[hps,List.map_map];rfl) ?_ (Nat.le_of_ble_eq_true hbig) (Nat.le_of_ble_eq_true hbig') (by rw[List.length_map];exact Nat.eq_of_beq_eq_true hl) h1 h2
 rw[List.all_eq_true]
 intro q hq
 obtain ⟨p,hp,rfl⟩:=List.mem_map.1 hq
 obtain ⟨p',hp',he⟩:=List.mem_map.1 (List.fst_mem_of_mem_zipIdx hp)
 have:=List.all_eq_true.1 hok p' hp'
 rw[Bool.and_eq_true] at this
 rw[<- he]
 exact this.1
theorem oBe{E:TypeId}{s:Nat}(hT:uJ P T=some (E,s))(ho:o.op=.buildSlice T 0 #[]:=by exact rfl):qU P o S [] .emp:=e_bse ho hT
theorem oBo{E:TypeId}{s len:Nat}{ps:List (Nat × Operand)}{zv:List Value}{zd:List jW}(b:Nat)(hT:uJ P T=some (E,s))(hz:uO P E=some zv)(hzd:nH zv zd)(ho:o.op=.buildSlice T len ps.toArray:=by exact rfl)
  (hzl:Nat.beq zd.length s=true:=by kernel_rfl) (hps:ps.map (fun p=>(p.1,ev S p.2))=(ps.map fun p=>zY (ev S p.2)).zipIdx.map (fun p=>(p.2,.d p.1)):=by kernel_rfl) (hok:(ps.all fun p=>(zY (ev S p.2)).ok1&&Nat.beq (zY (ev S p.2)).cells.length s)=true:=by kernel_rfl) (hl:Nat.beq ps.length len=true:=by kernel_rfl)
  (hbig:Nat.ble (len*s) 16777216=true:=by kernel_rfl) (hbig':Nat.ble len 16777216=true:=by kernel_rfl):NOk P o S b ((flat (ps.map fun p=>zY (ev S p.2))).map .d) (.own b E s len):=by
 obtain ⟨h1,h2⟩:=bs_fill hzl hps hok hl
 refine n_bso (pd:=(ps.map fun p=>zY (ev S p.2)).zipIdx.map fun p=>(p.2,p.1)) b ho hT hz hzd (Nat.eq_of_beq_eq_true hzl) (by rw[hps,List.map_map];rfl) ?_ hbig hbig' (by rw[List.length_map];exact Nat.eq_of_beq_eq_true hl) ?_ h2 rfl
 ·rw[List.all_eq_true]
  intro q hq
  obtain ⟨p,hp,rfl⟩:=List.mem_map.1 hq
  obtain ⟨p',hp',he⟩:=List.mem_map.1 (List.fst_mem_of_mem_zipIdx hp)
  have:=List.all_eq_true.1 hok p' hp'
  rw[Bool.and_eq_true] at this
  rw[<- he]
  exact this.1
 ·refine List.eq_replicate_iff.2 ⟨by rw[List.length_map,List.length_map];exact Nat.eq_of_beq_eq_true hl,fun z hz=>?_⟩
  obtain ⟨e,he,rfl⟩:=List.mem_map.1 hz
  exact h1 e he
theorem yB{d:jW}(b:Nat)(ho:o.op=.box T x:=by exact rfl)(hx:ev S x=.d d:=by exact rfl)(h1:d.ok1=true:=by kernel_rfl):NOk P o S b (bx d) (.ref b 0):=n_box b ho hx h1
theorem vL{zv:List Value}{zd:List jW}(b:Nat)(hz:uO P T=some zv)(hzd:nH zv zd)(ho:o.op=.alloc T:=by exact rfl):NOk P o S b (zd.map .d) (.ref b 0):=n_alloc b ho hz hzd
theorem oMk{α:Type}{E:TypeId}{s bytes:Nat}{kl kc:IntKind}{zv:List Value}{zd:List jW}{x y:Operand}(b:Nat)(F:α->jW)(z:α)(N M:Nat)(hT:uJ P T=some (E,s))(hz:uO P E=some zv)(hzd:nH zv zd)(hby:xD P E=some bytes)(ho:o.op=.makeSlice T x y:=by exact rfl)
  (hl:ev S x=.d (.val (.int kl m)):=by exact rfl) (hc:ev S y=.d (.val (.int kc n)):=by exact rfl) (hlN:m=((N:Nat):Int):=by omega) (hcM:n=((M:Nat):Int):=by omega) (hzl:Nat.beq zd.length s=true:=by kernel_rfl) (hnm:N<=M:=by omega) (hb:bytes*M<=281474976710656:=by omega) (hm:M<=maxLen:=by unfold maxLen;omega) (hzF:zd=[F z]:=by kernel_rfl) :
  NOk P o S b ((List.replicate M z).map (fun g=>SV.d (F g))) (.own b E s N):=by
 subst hlN;subst hcM;subst hzF
 exact n_mks b ho hT hz hzd (Nat.eq_of_beq_eq_true hzl) hby hl hc hnm hb hm (own_zero F M z)
end
section
variable {P:Program} {o:Oper} {S:SL} {B:BS} {T:TypeId} {x y:Operand} {k off:Nat}
theorem jZ{cs:List SV}(hs:kQ P T=some (false,1))(ho:o.op=.load T x:=by exact rfl)(hx:ev (jR S) x=.ref k off:=by exact rfl)(hb:jV B k=some cs:=by exact rfl)(hl:Nat.blt off cs.length=true:=by kernel_rfl)(hn:(cs.getD off .junk).isMo=false:=by kernel_rfl):ROk P o S B k (cs.getD off .junk) :=
 ⟨cs,e_ld1 ho hx hs (by
  have hl:=Nat.le_of_ble_eq_true hl
  simp [List.getElem?_eq_getElem hl,List.getD]) hn,hb⟩
theorem qE{sz:Nat}{cs:List SV}(hs:kQ P T=some (true,sz))(ho:o.op=.load T x:=by exact rfl)(hx:ev (jR S) x=.ref k off:=by exact rfl)(hb:jV B k=some cs:=by exact rfl)(hl:Nat.ble (off+sz) cs.length=true:=by kernel_rfl)(hm:yL cs=false:=by first | exact hO _ | kernel_rfl):ROk P o S B k (xJ true ((cs.drop off).take sz)):=⟨cs,e_lda ho hx hs hl rfl hm,hb⟩
theorem oLp{α:Type}{F:α->jW}{L:List α}(hs:kQ P T=some (false,1))(j:Nat)(d:α)(ho:o.op=.load T x:=by exact rfl)(hx:ev (jR S) x=.ref k j:=by exact rfl)(hb:jV B k=some (L.map fun g=>SV.d (F g)):=by exact rfl)(h1:j<L.length:=by omega):ROk P o S B k (.d (F (L.getD j d))):=⟨_,e_ld1 ho hx hs (own_get F L j d h1) rfl,hb⟩
theorem qO{sz:Nat}{agg:Bool}{old:List SV}{d:jW}(hs:kQ P T=some (agg,sz))(ho:o.op=.store T x y:=by exact rfl)(hx:ev (jR S) x=.ref k off:=by exact rfl)(hy:ev (jR S) y=.d d:=by exact rfl)(hb:jV B k=some old:=by exact rfl)(h1:d.ok1=true:=by kernel_rfl)(uB:Nat.beq d.cells.length sz=true:=by kernel_rfl)(hle:Nat.ble (off+sz) old.length=true:=by kernel_rfl)(hm:yL old=false:=by first | exact hO _ | kernel_rfl):TK P o S B k (patch old off (d.cells.map .d)) :=
 ⟨old,t_std ho hx hy hs h1 (Nat.eq_of_beq_eq_true uB) hle rfl hm,hb⟩
theorem oSo{j E s N:Nat}{u:SV}(hs:kQ P T=some (false,1))(ho:o.op=.store T x y:=by exact rfl)(hx:ev (jR S) x=.ref k 0:=by exact rfl)(hy:ev (jR S) y=.own j E s N:=by exact rfl)(hb:jV B k=some [u]:=by exact rfl)(hm:u.isMo=false:=by kernel_rfl):TK P o S B k [.own j E s N]:=⟨_,t_sto ho hx hy hs hm,hb⟩
theorem oSp{α:Type}{F:α->jW}{L:List α}(hs:kQ P T=some (false,1))(j:Nat)(v:α)(ho:o.op=.store T x y:=by exact rfl)(hx:ev (jR S) x=.ref k j:=by exact rfl)(hb:jV B k=some (L.map fun g=>SV.d (F g)):=by exact rfl)(hy:ev (jR S) y=.d (F v):=by kernel_rfl)(h2:(F v).ok1=true:=by kernel_rfl)(h3:(F v).cells=[F v]:=by kernel_rfl)(h1:j<L.length:=by omega):TK P o S B k ((L.set j v).map fun g=>SV.d (F g)) :=
 ⟨_,t_st1 ho hx hy hs h2 h3 (own_len F L j h1) (own_set F L j v) (mapCs_own F L),hb⟩
theorem kD{S:Nat->SV}{xs:List Operand}{ats:Array TypeId}{f:FuncId}{ds:List jW}{r:jW}(hf:jU P f ds r)(ho:o.op=.call { callee:=.value y,args:=xs.toArray,argTypes:=ats }:=by exact rfl)(hy:ev S y=.d (.val (.func (.func f) #[] #[])):=by kernel_rfl)(hx:xs.map (ev S)=ds.map .d:=by kernel_rfl):qU P o S [] (.d r):=e_cl hf ho hy hx
theorem oCo{xs:List Operand}{ats:Array TypeId}{f:FuncId}{ds:List jW}{α:Type}{F:α->jW}{L:List α}{Tt s N:Nat}{S:Nat->SV}(b:Nat)(hf:TakesO P f ds Tt s N (L.map F))(ho:o.op=.call { callee:=.value y,args:=xs.toArray,argTypes:=ats }:=by exact rfl)(hy:ev S y=.d (.val (.func (.func f) #[] #[])):=by kernel_rfl)(hx:xs.map (ev S)=ds.map .d:=by kernel_rfl):NOk P o S b (L.map (fun g=>SV.d (F g))) (.own b Tt s N):=n_own b hf ho hy hx (by rw[List.map_map];rfl)
end
inductive NilL:List jW->List jW->Prop
 |nil:NilL [] []
 |same {d:jW} {l l':List jW} (h:NilL l l'):NilL (d::l) (d::l')
 |cut (t s:Nat) {l l':List jW} (h:NilL l l'):NilL (.sl t s []::l) (.val (.slice none 0 0)::l')
theorem NilL.rep{ds ds':List jW}(h:NilL ds ds'){w:World}{D:kN}:ds.length=ds'.length/\∀ (i:Nat) (v:Value) (d:jW),ds[i]?=some d->(∀ d',ds'[i]?=some d'->uC w D v d')->uC w D v d:=by
 induction h with
 |nil=>exact ⟨rfl,fun i v d h=>by simp at h⟩
 |same h ih=>
  refine ⟨by simp [ih.1],fun i v d hd hr=>?_⟩
  cases i with
  |zero=>exact hr d (by simpa using hd)
  |succ i=>exact ih.2 i v d (by simpa using hd) (fun d' hd'=>hr d' (by simpa using hd'))
 |cut t s h ih=>
  refine ⟨by simp [ih.1],fun i v d hd hr=>?_⟩
  cases i with
  |zero=>
   have e:=hr (.val (.slice none 0 0)) (by simp)
   simp only[List.getElem?_cons_zero,Option.some.injEq] at hd
   subst hd
   exact nil_sl t s w D (fun _=>none) v e
  |succ i=>exact ih.2 i v d (by simpa using hd) (fun d' hd'=>hr d' (by simpa using hd'))
theorem dN{k j:Nat}{bs:BS}(h:Clr k bs):Clr k ((j,none)::bs):=fun i c hi hb=>by
 rw[jJ] at hb
 split at hb
 ·cases hb
 ·exact h i c hi hb
section
variable {P:Program} {n:Fr} {ops:Array Oper} {K:SL->BS->Prop} {S:SL} {B:BS} {l:List Oper} {o:Oper} {α:Type} {T E t':TypeId} {x y:Operand} {k s m bytes:Nat} {zv:List Value}
theorem app_go(F:α->jW){L L':List α}{m2:Nat}(hF:∀ g,(F g).cells.length=s)(ho:o.op=.call { callee:=.builtin .append,args:=#[x,y],argTypes:=#[T,T] })(g:goK n ops S o=true)(hT:uJ P T=some (E,s))(hz:uO P E=some zv)(hzl:zv.length=s)(hby:xD P E=some bytes)
  (hx:ev (jR S) x=.own k E s m) (hb:jV B k=some (xQ F L)) (hL:L.length=m) (hy:ev (jR S) y=.d (.sl t' s (L'.map F))) (hbig:m+L'.length<=maxLen) (hbig':(m+L'.length)*bytes<=140737488355328) (hB:Clr k B) (hm:m+L'.length=m2)
  (r:SK P n ops K ((dO o,.own k E s m2)::yZ k S) ((k,some (xQ F (L++L')))::B) l):SK P n ops K S B (o::l):=by
 obtain ⟨hd,hg,hdB⟩:=xK g
 refine zX (S1:=(dO o,.own k E s m2)::yZ k S) (B1:=(k,some (xQ F (L++L')))::B) (fun C a w Q hn hs=>?_) hg r
 subst hm
 have:=app_sound (st:=⟨S,B⟩) (N:=n) (es:=L.map F) (es':=L'.map F) ho (by rw[hd];exact hdB) hT hz hzl hby hx hb rfl (by rw[cP F hF,hL]) hy (by simpa using hbig) (by simpa using hbig') hB C a w Q hn hs
 rw[hd,<- List.map_append,List.length_map] at this
 exact this
theorem zA(F:α->jW)(L L':List α)(hL:L.length=m)(hT:uJ P T=some (E,1))(hz:uO P E=some zv)(hby:xD P E=some bytes)(r:SK P n ops K ((dO o,.own k E 1 (L++L').length)::yZ k S) ((k,some ((L++L').map (fun g=>SV.d (F g))))::B) l)
  (ho:o.op=.call { callee:=.builtin .append,args:=#[x,y],argTypes:=#[T,T] }:=by exact rfl) (g:goK n ops S o=true:=by kernel_rfl) (hx:ev (jR S) x=.own k E 1 m:=by exact rfl) (hb:jV B k=some (L.map (fun g=>SV.d (F g))):=by kernel_rfl) (hy:ev (jR S) y=.d (.sl t' 1 (L'.map F)):=by exact rfl) (hF:∀ g,(F g).cells=[F g]:=by intro g;kernel_rfl) (hzl:zv.length=1:=by kernel_rfl)
  (hbig:m+L'.length<=maxLen:=by first | (simp only[List.length_cons,List.length_nil,maxLen];omega) | (simp [maxLen];omega)) (hbig':(m+L'.length)*bytes<=140737488355328:=by first | omega | (simp only[List.length_cons,List.length_nil];omega) | (simp;omega))
  (hB:Clr k B:=by repeat first | exact clr_nil _ | refine clr_self ?_ | refine clr_map ?_ | refine dN ?_ | refine clr_bx ?_ | refine clr_d ?_):SK P n ops K S B (o::l) :=
 app_go F (s:=1) (m2:=(L++L').length) (fun g=>by rw[hF g];rfl) ho g hT hz hzl hby hx (by rw[bxs_one F hF];exact hb) hL hy hbig hbig' hB (by rw[List.length_append,hL]) (by rw[bxs_one F hF];exact r)
theorem zAS(F:α->jW)(L L':List α)(hL:L.length=m)(hT:uJ P T=some (E,s))(hz:uO P E=some zv)(hby:xD P E=some bytes)(r:SK P n ops K ((dO o,.own k E s (L++L').length)::yZ k S) ((k,some (xQ F (L++L')))::B) l)
  (ho:o.op=.call { callee:=.builtin .append,args:=#[x,y],argTypes:=#[T,T] }:=by exact rfl) (g:goK n ops S o=true:=by kernel_rfl) (hx:ev (jR S) x=.own k E s m:=by exact rfl) (hb:jV B k=some (xQ F L):=by kernel_rfl) (hy:ev (jR S) y=.d (.sl t' s (L'.map F)):=by exact rfl) (hF:∀ g,(F g).cells.length=s:=by intro g;kernel_rfl) (hzl:zv.length=s:=by kernel_rfl)
  (hbig:m+L'.length<=maxLen:=by first | (simp only[List.length_cons,List.length_nil,maxLen];omega) | (simp [maxLen];omega)) (hbig':(m+L'.length)*bytes<=140737488355328:=by first | omega | (simp only[List.length_cons,List.length_nil];omega) | (simp;omega))
  (hB:Clr k B:=by repeat first | exact clr_nil _ | refine clr_self ?_ | refine clr_map ?_ | refine dN ?_ | refine clr_bx ?_ | refine clr_d ?_):SK P n ops K S B (o::l) :=
 app_go F (m2:=(L++L').length) hF ho g hT hz hzl hby hx hb hL hy hbig hbig' hB (by rw[List.length_append,hL]) r
theorem zAQ(F:α->jW)(L L':List α)(hL:L.length=m)(hT:uJ P T=some (E,1))(hz:uO P E=some zv)(hby:xD P E=some bytes)(r:SK P n ops K ((dO o,.d (.sl E 1 ((L++L').map F)))::yZ k S) ((k,none)::B) l)
  (ho:o.op=.call { callee:=.builtin .append,args:=#[x,y],argTypes:=#[T,T] }:=by exact rfl) (g:goK n ops S o=true:=by kernel_rfl) (hx:ev (jR S) x=.own k E 1 m:=by exact rfl) (hb:jV B k=some (L.map (fun g=>SV.d (F g))):=by kernel_rfl) (hy:ev (jR S) y=.d (.sl t' 1 (L'.map F)):=by exact rfl) (hF:∀ g,(F g).cells=[F g]:=by intro g;kernel_rfl) (hzl:zv.length=1:=by kernel_rfl)
  (hbig:m+L'.length<=maxLen:=by first | (simp only[List.length_cons,List.length_nil,maxLen];omega) | (simp [maxLen];omega)) (hbig':(m+L'.length)*bytes<=140737488355328:=by first | omega | (simp only[List.length_cons,List.length_nil];omega) | (simp;omega))
  (hB:Clr k B:=by repeat first | exact clr_nil _ | refine clr_self ?_ | refine clr_map ?_ | refine dN ?_ | refine clr_bx ?_ | refine clr_d ?_):SK P n ops K S B (o::l):=by
 obtain ⟨hd,hg,hdB⟩:=xK g
 exact zX (appP_sem F L L' (fun g=>by rw[hF g];rfl) ho hd hdB hT hz hzl hby hx (by rw[bxs_one F hF];exact hb) hL hy hbig hbig' hB) hg r
theorem zO(k E s:Nat)(r:SK P n ops K ((dO o,.own k E s 0)::S) ((k,some [])::B) l)(h:nilK o=true:=by kernel_rfl)(g:goK n ops S o=true:=by kernel_rfl)(hf:zB k ⟨S,B⟩=true:=by kernel_rfl):SK P n ops K S B (o::l):=by
 obtain ⟨hd,hg,hdB⟩:=xK g
 exact zX (nilOwn_sem k E s ((nilK_eq h).elim .inr .inl) hd hdB hf) hg r
end
section
variable {P:Program} {n:Fr} {Q:Exit->PS->Prop} {st:PS} {c:Operand} {x y:Code}
theorem qZ(h1:cR P n x Q st)(hc:ev (jR st.sl) c=.d (.val (.bool true)):=by kernel_rfl):cR P n (.cond c x y) Q st:=jF (b:=true) hc (fun _=>h1) (fun h=>by cases h)
theorem uU(h2:cR P n y Q st)(hc:ev (jR st.sl) c=.d (.val (.bool false)):=by kernel_rfl):cR P n (.cond c x y) Q st:=jF (b:=false) hc (fun h=>by cases h) (fun _=>h2)
end
end Go.Fid
