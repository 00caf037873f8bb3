/- Part 12 of a proof: rules, plain facts, and functions walked. -/
import Derived.Test.YtckccjhflbljgaaGreatDoorM11
import Derived.Test.YtckccjhflbljgaaGreatDoorM8
import Derived.Test.YtckccjhflbljgaaGreatDoorChecked
import Derived.LoopNIn
set_option linter.all false
namespace Go.Fid
structure jO where
 op:Int
 a:Int
 b:Int
 n:kT
def zr:kT:=⟨⟨false,[]⟩,⟨false,[]⟩⟩
def tz:jO:=⟨0,0,0,zr⟩
structure lD where
 value:kK
 grad:List kK
 hess:List (List kK)
structure RMc where
 vars:Int
 order:Int
 places:Int
 jets:List lD
 failed:Bool
abbrev R2:=Rat × Rat
def z2:R2:=(0,0)
def gw(n:Int):R2:=((n:Rat),(n:Rat))
def gpt(q:Rat):R2:=(q,q)
def gR(a b:R2):R2:=(a.1+b.1,a.2+b.2)
def uP(a b:R2):R2:=(a.1-b.2,a.2-b.1)
def gneg(a:R2):R2:=(-a.2,-a.1)
def xE(a b:R2):R2:=(mnL (a.1*b.1) [(a.1*b.2),(a.2*b.1),(a.2*b.2)],mxL (a.1*b.1) [(a.1*b.2),(a.2*b.1),(a.2*b.2)])
def eN(a b:R2):R2:=(mnL (a.1 / b.1) [(a.1 / b.2),(a.2 / b.1),(a.2 / b.2)],mxL (a.1 / b.1) [(a.1 / b.2),(a.2 / b.1),(a.2 / b.2)])
def gsq(a:R2):R2:=(sqL a.1 a.2,sqH a.1 a.2)
theorem uH{a:R2}{m n:Nat}(h:GL m a)(hm:m<=n:=by decide):GL n a:=⟨uE h.1 hm,uE h.2.1 hm,h.2.2⟩
theorem gl_pt{q:Rat}{m:Nat}(h:QL q m):GL m (gpt q):=⟨h,h,Rat.le_refl⟩
theorem gl_w{z:Int}(h1:-9223372036854775808<=z)(h2:z<=9223372036854775807):GL 3 (gw z):=⟨zW (mU h1 h2) (by decide),zW (mU h1 h2) (by decide),Rat.le_refl⟩
theorem gl_add{a b:R2}{m n k:Nat}(ha:GL m a)(hb:GL n b)(h:m+n+1<=k:=by decide):GL k (gR a b):=⟨ql_add ha.1 hb.1 h,ql_add ha.2.1 hb.2.1 h,add_valid ha.2.2 hb.2.2⟩
theorem lR{a b:R2}{m n k:Nat}(ha:GL m a)(hb:GL n b)(h:m+n+1<=k:=by decide):GL k (uP a b):=⟨ql_sub ha.1 hb.2.1 h,ql_sub ha.2.1 hb.1 h,sub_valid ha.2.2 hb.2.2⟩
theorem gl_neg{a:R2}{m:Nat}(ha:GL m a):GL m (gneg a):=⟨ql_neg ha.2.1,ql_neg ha.1,neg_valid ha.2.2⟩
theorem ql_of4{a b c d:Rat}{k:Nat}(h1:QL a k)(h2:QL b k)(h3:QL c k)(h4:QL d k):QL (mnL a [b,c,d]) k/\QL (mxL a [b,c,d]) k:=by
 have ml:∀ z∈[b,c,d],QL z k:=by
  intro z hz;simp at hz;rcases hz with e | e | e<;>rw[e]<;>assumption
 exact ⟨ql_mnL h1 ml,ql_mxL h1 ml⟩
theorem nZ{a b:R2}{m n k:Nat}(ha:GL m a)(hb:GL n b)(h:m+n<=k:=by decide):GL k (xE a b):=by
 obtain ⟨h1,h2⟩:=ql_of4 (gS ha.1 hb.1 h) (gS ha.1 hb.2.1 h) (gS ha.2.1 hb.1 h) (gS ha.2.1 hb.2.1 h)
 exact ⟨h1,h2,mnL_le_mxL _ _⟩
theorem gl_div{a b:R2}{m n k:Nat}(ha:GL m a)(hb:GL n b)(h:m+n<=k:=by decide):GL k (eN a b):=by
 obtain ⟨h1,h2⟩:=ql_of4 (lA ha.1 hb.1 h) (lA ha.1 hb.2.1 h) (lA ha.2.1 hb.1 h) (lA ha.2.1 hb.2.1 h)
 exact ⟨h1,h2,mnL_le_mxL _ _⟩
theorem gl_sq{a:R2}{m k:Nat}(ha:GL m a)(h:m+m<=k):GL k (gsq a):=⟨ql_sqL (gS ha.1 ha.1 h) (gS ha.2.1 ha.2.1 h),ql_sqH (gS ha.1 ha.1 h) (gS ha.2.1 ha.2.1 h),sqL_le _ _⟩
theorem yD{L:List R2}{n:Nat}(h:∀ x∈L,GL n x)(h1:1<=n)(j:Nat):GL n (L.getD j z2):=gl_getD h h1 j
structure JV where
 v:R2
 g:List R2
def jz:JV:=⟨z2,[]⟩
def uW(x:JV):lD:=⟨qI x.v,x.g.map qI,[]⟩
def cF(N n:Nat)(x:JV):Prop:=GL N x.v/\(∀ y∈x.g,GL N y)/\x.g.length=n
theorem cF.at{N n:Nat}{x:JV}(h:cF N n x)(h1:1<=N)(j:Nat):GL N (x.g.getD j z2):=yD h.2.1 h1 j
theorem map_getD{α β:Type}(f:α->β)(l:List α)(d:α)(e:β){j:Nat}(h:j<l.length):(l.map f).getD j e=f (l.getD j d):=by
 rw[List.getD_eq_getElem?_getD,List.getElem?_map,List.getD_eq_getElem?_getD,List.getElem?_eq_getElem h];rfl
def jk(V:R2)(G:Nat->R2)(n:Nat):JV:=⟨V,(List.range n).map G⟩
theorem jk_push{G:Nat->R2}{l:List kK}{i:Nat}(h:l=((List.range i).map G).map qI):l++[qI (G i)]=((List.range (i+1)).map G).map qI:=by
 rw[h,List.range_succ,List.map_append,List.map_append];rfl
theorem jk_len{G:Nat->R2}{l:List kK}{i:Nat}(h:l=((List.range i).map G).map qI):l.length=i:=by
 rw[h];simp
theorem jk_ok{V:R2}{G:Nat->R2}{N n:Nat}(hV:GL N V)(hG:∀ i,i<n->GL N (G i)):cF N n (jk V G n):=by
 refine ⟨hV,fun y hy=>?_,by simp [jk]⟩
 obtain ⟨i,hi,rfl⟩:=List.mem_map.1 hy
 exact hG i (List.mem_range.1 hi)
def jA(L:List JV)(z:Int):JV:=L.getD z.toNat jz
def nV(bx:List R2)(L:List JV)(x:jO):R2 :=
 if x.op=0 then gpt (vC x.n)
 else if x.op=1 then bx.getD x.a.toNat z2
 else if x.op=2 then gR (jA L x.a).v (jA L x.b).v
 else if x.op=3 then uP (jA L x.a).v (jA L x.b).v
 else if x.op=4 then xE (jA L x.a).v (jA L x.b).v
 else if x.op=6 then uP (gw 0) (jA L x.a).v
 else if x.op=7 then gsq (jA L x.a).v
 else eN (jA L x.a).v (jA L x.b).v
def nG(bx:List R2)(L:List JV)(x:jO)(i:Nat):R2 :=
 if x.op=0 then gw 0
 else if x.op=1 then (if (i:Int)=x.a then gw 1 else gw 0)
 else if x.op=2 then gR ((jA L x.a).g.getD i z2) ((jA L x.b).g.getD i z2)
 else if x.op=3 then uP ((jA L x.a).g.getD i z2) ((jA L x.b).g.getD i z2)
 else if x.op=4 then gR (xE (jA L x.a).v ((jA L x.b).g.getD i z2)) (xE (jA L x.b).v ((jA L x.a).g.getD i z2))
 else if x.op=6 then uP (gw 0) ((jA L x.a).g.getD i z2)
 else if x.op=7 then xE (gw 2) (xE (jA L x.a).v ((jA L x.a).g.getD i z2))
 else eN (uP ((jA L x.a).g.getD i z2) (xE (nV bx L x) ((jA L x.b).g.getD i z2))) (jA L x.b).v
def nJ(bx:List R2)(L:List JV)(x:jO):JV:=jk (nV bx L x) (nG bx L x) bx.length
def jU(bx:List R2)(t:List jO):Nat->List JV
 |0=>[]
 |k+1=>jU bx t k++[nJ bx (jU bx t k) (t.getD k tz)]
theorem bD(bx:List R2)(t:List jO):∀ k,(jU bx t k).length=k
 |0=>rfl
 |k+1=>by rw[jU,List.length_append,bD bx t k];rfl
end Go.Fid
namespace Go.Proofs.YtckccjhflbljgaaGreatDoor
open Go.Fid
def jR(x:kS):jS:=.agg [.val (.bool x.neg),.sl 107 1 (x.gs.map jC)]
def jG(x:kT):jS:=.agg [.val (.bool x.num.neg),.sl 107 1 (x.num.gs.map jC),.val (.bool x.den.neg),.sl 107 1 (x.den.gs.map jC)]
def jN(x:kK):jS:=.agg [.val (.bool x.lo.num.neg),.sl 107 1 (x.lo.num.gs.map jC),.val (.bool x.lo.den.neg),.sl 107 1 (x.lo.den.gs.map jC),.val (.bool x.hi.num.neg),.sl 107 1 (x.hi.num.gs.map jC),.val (.bool x.hi.den.neg),.sl 107 1 (x.hi.den.gs.map jC)]
def jK(x:jO):jS:=.agg [.val (.int .i64 x.op),.val (.int .i64 x.a),.val (.int .i64 x.b),.val (.bool x.n.num.neg),.sl 107 1 (x.n.num.gs.map jC),.val (.bool x.n.den.neg),.sl 107 1 (x.n.den.gs.map jC)]
def zL(l:List (kK)):jS:=.sl 42 8 (l.map jN)
def jP(x:lD):jS:=.agg [.val (.bool x.value.lo.num.neg),.sl 107 1 (x.value.lo.num.gs.map jC),.val (.bool x.value.lo.den.neg),.sl 107 1 (x.value.lo.den.gs.map jC),.val (.bool x.value.hi.num.neg),.sl 107 1 (x.value.hi.num.gs.map jC),.val (.bool x.value.hi.den.neg),.sl 107 1 (x.value.hi.den.gs.map jC),.sl 42 8 (x.grad.map jN),.sl 43 1 (x.hess.map zL)]
structure A3 (α:Type) where
 a0:α
 a1:α
 a2:α
def encA130(x:A3 (Int)):jS:=.agg [.val (.int .i64 x.a0),.val (.int .i64 x.a1),.val (.int .i64 x.a2)]
def enc_sl_22(l:List (jO)):jS:=.sl 72 7 (l.map jK)
theorem mo:Tryz.prog.follows .mixedOrders=true:=by kernel_rfl
end Go.Proofs.YtckccjhflbljgaaGreatDoor
namespace Go.Fid
open Go.RowKit (Below)
def aL(P:Program)(n:Fr)(c:Code)(Q:Exit->PS->Prop):Nat->PS->Prop
 |0,_=>False
 |m+1,st=>eO P n c (PThen (aL P n c Q m) Q) st
theorem pwp_rounds{P:Program}{n:Fr}{c:Code}{Q:Exit->PS->Prop}{st:PS}(m:Nat)(h:aL P n c Q m st):eO P n (.loop c) Q st:=fun C a w N hn hs=>by
 refine wpIn_loop_rounds m ?_
 have key:∀ m st a w,dF C a w st->aL P n c Q m st->Code.roundsIn (fen n) N P c (fun e a' w'=>∃ st',dF C a' w' st'/\Q e st') m a w:=by
  intro m
  induction m with
  |zero=>intro st a w _ h;exact h.elim
  |succ m ih=>
   intro st a w hs h
   refine wpIn_mono (h C a w N hn hs) fun e a' w' ⟨s,h1,h2⟩=>?_
   cases e with
   |normal=>exact ih s a' w' h1 h2
   |_=>exact ⟨s,h1,h2⟩
 exact key m st a w hs h
theorem pwp_round{P:Program}{n:Fr}{c:Code}{Q:Exit->PS->Prop}{st:PS}{m:Nat}(h:eO P n c (PThen (aL P n c Q m) Q) st):aL P n c Q (m+1) st:=h
theorem pwp_again{P:Program}{n:Fr}{c:Code}{Q:Exit->PS->Prop}{s st:PS}{m:Nat}(hw:uY s st)(h:eO P n c (PThen (aL P n c Q m) Q) st):PThen (aL P n c Q (m+1)) Q .normal s :=
 show eO P n c (PThen (aL P n c Q m) Q) s from fun C a w N hn hs=>h C a w N hn (hw C a w hs)
section
variable {P:Program} {o:Oper} {S:Nat->SV}
theorem e_nckr{x:Operand}{k q:Nat}(ho:o.op=.nilCheck x)(hx:ev S x=.ref k q):uN P o S [] (.ref k q) :=
 uN.same fun a' w D β hop _=>by
  have hp:=hop x (by simp [ho,Op.operands])
  rw[hx] at hp
  obtain ⟨b,h1,h2⟩:=hp
  exact ⟨.pointer (some ⟨b,q,none⟩),by simp [execOp,ho,h2],b,h1,rfl⟩
inductive yP (E:TypeId):jS->Prop
 |val (v:Value):yP E (.val v)
 |sl {t:TypeId} {s:Nat} {es:List jS} (h:t≠E) (hs:∀ (i:Nat) d,(qA es)[i]?=some d->yP E d):yP E (.sl t s es)
 |agg {cs:List jS} (hs:∀ (i:Nat) d,cs[i]?=some d->yP E d):yP E (.agg cs)
 |tup {cs:List jS} (hs:∀ (i:Nat) d,cs[i]?=some d->yP E d):yP E (.tup cs)
 |cptr {t:TypeId} {cs:List jS} {off:Nat} (h:t≠E) (hs:∀ (i:Nat) d,cs[i]?=some d->yP E d):yP E (.cptr t cs off)
 |clo {f:FuncId} {caps:List jS} (hs:∀ (i:Nat) d,caps[i]?=some d->yP E d):yP E (.clo f caps)
theorem avo_nil{E:TypeId}:∀ (i:Nat) d,([]:List jS)[i]?=some d->yP E d:=fun i d h=>by simp at h
theorem eM{E:TypeId}{x:jS}{l:List jS}(h:yP E x)(hl:∀ (i:Nat) d,l[i]?=some d->yP E d):∀ (i:Nat) d,(x::l)[i]?=some d->yP E d:=fun i d hd=>by
 rcases i with _ | i
 ·simp at hd;subst hd;exact h
 ·exact hl i d (by simpa using hd)
theorem avo_vals{α:Type}{E t:TypeId}{s:Nat}{F:α->Value}(h:t≠E)(l:List α):yP E (.sl t s (l.map fun x=>jS.val (F x))) :=
 .sl h (fun i d hd=>by
  have:d∈qA (l.map fun x=>jS.val (F x)):=List.mem_of_getElem? hd
  simp only[qA,List.mem_flatMap,List.mem_map] at this
  obtain ⟨x,⟨y,_,rfl⟩,hx⟩:=this
  simp only[jS.cells,List.mem_singleton] at hx
  subst hx;exact .val _)
theorem yP.rep{E:TypeId}{w:World}{D D':kQ}(hk:∀ t g o,t≠E->D t g o->D' t g o){v:Value}{r:jS}(ha:yP E r)(h:uS w D v r):uS w D' v r:=by
 induction h with
 |val v=>exact .val v
 |sl g off u hn hc hm hs hao hD hu h1 hr ih=>
  cases ha with
  |sl hne has=>exact .sl g off u hn hc hm hs hao (fun i hi=>hk _ _ _ hne (hD i hi)) hu h1 (fun i d hd=>ih i d hd (has i d hd))
 |agg vs hl h1 hr ih=>
  cases ha with
  |agg has=>exact .agg vs hl h1 (fun i v d hv hd=>ih i v d hv hd (has i d hd))
 |tup vs hl hr ih=>
  cases ha with
  |tup has=>exact .tup vs hl (fun i v d hv hd=>ih i v d hv hd (has i d hd))
 |cptr g o u hD hu h1 hr ih=>
  cases ha with
  |cptr hne has=>exact .cptr g o u (fun i hi=>hk _ _ _ hne (hD i hi)) hu h1 (fun i d hd=>ih i d hd (has i d hd))
 |clo vs hl hr ih=>
  cases ha with
  |clo has=>exact .clo vs hl (fun i v d hv hd=>ih i v d hv hd (has i d hd))
inductive dB (k:Nat) (E:TypeId) (s q m:Nat) (es:List jS):List SV->List jS->Prop
 |nil:dB k E s q m es [] []
 |d {x:jS} {zs:List SV} {ds:List jS} (h:dB k E s q m es zs ds):dB k E s q m es (.d x::zs) (x::ds)
 |v {zs:List SV} {ds:List jS} (h:dB k E s q m es zs ds):dB k E s q m es (.view k q m::zs) (.sl E s es::ds)
theorem dB.len{k E s q m:Nat}{es:List jS}{zs:List SV}{ds:List jS}(h:dB k E s q m es zs ds):zs.length=ds.length:=by
 induction h with
 |nil=>rfl
 |d h ih=>simp [ih]
 |v h ih=>simp [ih]
theorem dB.rep{k E s q m:Nat}{es:List jS}{w:World}{D D':kQ}{β:kU}(h1:∀ v x,uS w D v x->uS w D' v x)(h2:∀ v,kX w D β v (.view k q m)->uS w D' v (.sl E s es)){zs:List SV}{ds:List jS}(h:dB k E s q m es zs ds) :
  ∀ {vs:List Value},vs.length=zs.length->(∀ (i:Nat) v x,vs[i]?=some v->zs[i]?=some x->kX w D β v x)->∀ (i:Nat) v d,vs[i]?=some v->ds[i]?=some d->uS w D' v d:=by
 induction h with
 |nil=>intro vs _ _ i v d _ hd;simp at hd
 |d h ih=>
  intro vs hl hr i v d' hv hd
  rcases vs with _ | ⟨v0,vs⟩
  ·simp at hl
  ·rcases i with _ | i
   ·simp at hv hd;subst hv;subst hd;exact h1 _ _ (hr 0 _ _ rfl rfl)
   ·exact ih (by simpa using hl) (fun i v x h3 h4=>hr (i+1) v x (by simpa using h3) (by simpa using h4)) i v d' (by simpa using hv) (by simpa using hd)
 |v h ih=>
  intro vs hl hr i v d' hv hd
  rcases vs with _ | ⟨v0,vs⟩
  ·simp at hl
  ·rcases i with _ | i
   ·simp at hv hd;subst hv;subst hd;exact h2 _ (hr 0 _ _ rfl rfl)
   ·exact ih (by simpa using hl) (fun i v x h3 h4=>hr (i+1) v x (by simpa using h3) (by simpa using h4)) i v d' (by simpa using hv) (by simpa using hd)
end
def up:SL->SL->SL
 |[],S=>S
 |p::D,S=>p::up D S
def upB:BS->BS->BS
 |[],S=>S
 |p::D,S=>p::upB D S
def inS(D:SL)(t:Nat):Bool:=D.any fun p=>Nat.beq p.1 t
def inB(D:BS)(t:Nat):Bool:=D.any fun p=>Nat.beq p.1 t
def isJ:SV->Bool
 |.junk=>true
 |_=>false
theorem isJ_eq{x:SV}(h:isJ x=true):x=.junk:=by cases x<;>first | rfl | cases h
theorem sget_up(D S:SL)(t:Nat):jZ (up D S) t=bif inS D t then jZ D t else jZ S t:=by
 induction D with
 |nil=>rfl
 |cons p D ih=>
  obtain ⟨j,x⟩:=p
  show jZ ((j,x)::up D S) t=bif (Nat.beq j t||inS D t) then _ else _
  rw[qP,qP,ih]
  by_cases h:j=t
  ·subst h;simp
  ·have:Nat.beq j t=false:=by rw[<- Bool.not_eq_true];exact fun e=>h (Nat.eq_of_beq_eq_true e)
   rw[if_neg h,if_neg h,this,Bool.false_or]
theorem bget_up(D S:BS)(t:Nat):kA (upB D S) t=bif inB D t then kA D t else kA S t:=by
 induction D with
 |nil=>rfl
 |cons p D ih=>
  obtain ⟨j,x⟩:=p
  show kA ((j,x)::upB D S) t=bif (Nat.beq j t||inB D t) then _ else _
  rw[jI,jI,ih]
  by_cases h:j=t
  ·subst h;simp
  ·have:Nat.beq j t=false:=by rw[<- Bool.not_eq_true];exact fun e=>h (Nat.eq_of_beq_eq_true e)
   rw[if_neg h,if_neg h,this,Bool.false_or]
theorem sget_out{D:SL}{t:Nat}(h:inS D t=false):jZ D t=.junk:=by
 induction D with
 |nil=>rfl
 |cons p D ih=>
  obtain ⟨j,x⟩:=p
  simp only[inS,List.any_cons,Bool.or_eq_false_iff] at h
  rw[qP,if_neg (fun e=>by subst e;simp at h),ih h.2]
theorem up_app(W S:SL):up W S=W++S:=by
 induction W with
 |nil=>rfl
 |cons p W ih=>show p::up W S=p::(W++S);rw[ih]
theorem upB_app(W S:BS):upB W S=W++S:=by
 induction W with
 |nil=>rfl
 |cons p W ih=>show p::upB W S=p::(W++S);rw[ih]
structure FinS (S0 D Sf:SL):Prop where
 d:D.map (fun p=>jZ Sf p.1)=D.map (·.2)
 k:Sf.drop (Sf.length-S0.length)=S0
 j:((Sf.take (Sf.length-S0.length)).all fun p=>inS D p.1||isJ (jZ S0 p.1))=true
structure FinB (B0 E Bf:BS):Prop where
 d:(E.filter fun p=>p.2.isSome).map (fun p=>kA Bf p.1)=(E.filter fun p=>p.2.isSome).map (·.2)
 k:Bf.drop (Bf.length-B0.length)=B0
 j:((Bf.take (Bf.length-B0.length)).all fun p=>inB E p.1)=true
structure FinF (S0 D Sf:SL):Prop where
 d:D.map (fun p=>jZ Sf p.1)=D.map (·.2)
 j:((S0.filter fun p=>!inS D p.1).map fun p=>jZ S0 p.1)=((S0.filter fun p=>!inS D p.1).map fun p=>jZ Sf p.1)
theorem FinS.get{S0 D Sf:SL}(h:FinS S0 D Sf)(t:Nat):jZ (up D S0) t=.junk\/jZ (up D S0) t=jZ Sf t:=by
 rw[sget_up]
 cases hD:inS D t with
 |true=>exact fT h.d t
 |false=>
  rw[cond_false]
  have e:Sf=up (Sf.take (Sf.length-S0.length)) S0:=by rw[up_app];conv=>lhs;rw[<- List.take_append_drop (Sf.length-S0.length) Sf,h.k]
  cases hW:inS (Sf.take (Sf.length-S0.length)) t with
  |false=>right;conv=>rhs;rw[e,sget_up,hW,cond_false]
  |true=>
   left
   simp only[inS,List.any_eq_true] at hW
   obtain ⟨p,hp,hpt⟩:=hW
   have:=List.all_eq_true.1 h.j p hp
   rw[Nat.eq_of_beq_eq_true hpt,hD,Bool.false_or] at this
   exact isJ_eq this
theorem FinF.get{S0 D Sf:SL}(h:FinF S0 D Sf)(t:Nat):jZ (up D S0) t=.junk\/jZ (up D S0) t=jZ Sf t:=by
 rw[sget_up]
 cases hD:inS D t with
 |true=>exact fT h.d t
 |false=>
  rw[cond_false]
  cases hS:inS S0 t with
  |false=>left;exact sget_out hS
  |true=>
   right
   simp only[inS,List.any_eq_true] at hS
   obtain ⟨p,hp,hpt⟩:=hS
   have hpt:=Nat.eq_of_beq_eq_true hpt
   subst hpt
   exact List.map_inj_left.1 h.j p (List.mem_filter.2 ⟨hp,by rw[hD];rfl⟩)
theorem FinB.get{B0 E Bf:BS}(h:FinB B0 E Bf){k:Nat}{c:List SV}(hc:kA (upB E B0) k=some c):kA Bf k=some c:=by
 rw[bget_up] at hc
 cases hD:inB E k with
 |true=>
  rw[hD,cond_true] at hc
  exact List.map_inj_left.1 h.d (k,some c) (List.mem_filter.2 ⟨fL hc,rfl⟩)
 |false=>
  rw[hD,cond_false] at hc
  have e:Bf=upB (Bf.take (Bf.length-B0.length)) B0:=by rw[upB_app];conv=>lhs;rw[<- List.take_append_drop (Bf.length-B0.length) Bf,h.k]
  cases hW:inB (Bf.take (Bf.length-B0.length)) k with
  |false=>rw[e,bget_up,hW,cond_false];exact hc
  |true=>
   simp only[inB,List.any_eq_true] at hW
   obtain ⟨p,hp,hpt⟩:=hW
   have:=List.all_eq_true.1 h.j p hp
   rw[Nat.eq_of_beq_eq_true hpt,hD] at this
   cases this
theorem sim_get{S B S' B'}(h1:∀ t,jZ S' t=.junk\/jZ S' t=jZ S t)(h2:∀ k c,kA B' k=some c->kA B k=some c):uY ⟨S,B⟩ ⟨S',B'⟩:=fun C a w ⟨D,β,hs⟩=>
 ⟨D,β,hs.base,⟨fun k cs hk=>hs.mem.ok k cs (h2 _ _ hk),fun k1 k2 c1 c2 q1 q2=>hs.mem.inj k1 k2 c1 c2 (h2 _ _ q1) (h2 _ _ q2)⟩,fun k c hk=>hs.high k c (h2 _ _ hk),fun t=>by
  rcases h1 t with h | h
  ·show kX w D β _ (jZ S' t)
   rw[h];trivial
  ·show kX w D β _ (jZ S' t)
   rw[h];exact hs.slots t⟩
theorem wk{st:PS}{l:SL}{b:BS}(h1:l.map (fun p=>jZ st.sl p.1)=l.map (·.2):=by kernel_rfl)(h2:b.map (fun p=>kA st.bs p.1)=b.map (·.2):=by kernel_rfl):uY st ⟨l,b⟩:=weak h1 h2
def SK(P:Program)(n:Fr)(ops:Array Oper)(K:SL->BS->Prop)(S:SL)(B:BS)(l:List Oper):Prop:=∃ st1,Steps P n ops ⟨S,B⟩ l st1/\K st1.sl st1.bs
def DK(P:Program)(n:Fr)(ops:Array Oper)(K:SL->BS->Prop)(news:List Nat)(acc0:List (List Nat × List Nat))(S:SL)(B:BS)(l:List Oper):Prop :=
 ∃ st1 acc,DSteps P n ops news ⟨S,B⟩ l acc st1/\orderB ops (acc0++acc)=true/\K st1.sl st1.bs
def KS(S0:SL)(B0:BS)(D:SL)(E:BS)(Sf:SL)(Bf:BS):Prop:=FinS S0 D Sf/\FinB B0 E Bf
def KF(S0:SL)(B0:BS)(D:SL)(E:BS)(Sf:SL)(Bf:BS):Prop:=FinF S0 D Sf/\FinB B0 E Bf
def dO(o:Oper):Tmp:=o.dst.getD 0
def goK(n:Fr)(ops:Array Oper)(S:SL)(o:Oper):Bool:=match o.dst with
 |some d=>match xX ops S o with
  |some true=>gY n (some d)
  |_=>false
 |none=>false
theorem yO{n:Fr}{ops:Array Oper}{S:SL}{o:Oper}(h:goK n ops S o=true):o.dst=some (dO o)/\xX ops S o=some true/\gY n (some (dO o))=true:=by
 unfold goK at h
 unfold dO
 split at h
 ·rename_i d hd
  split at h
  ·rename_i hg;rw[hd];exact ⟨rfl,hg,h⟩
  ·cases h
 ·cases h
def goF(n:Fr)(ops:Array Oper)(S:SL)(o:Oper):Bool:=match o.dst with
 |some d=>match xX ops S o with
  |some false=>gY n (some d)
  |_=>false
 |none=>false
theorem goF_spec{n:Fr}{ops:Array Oper}{S:SL}{o:Oper}(h:goF n ops S o=true):o.dst=some (dO o)/\xX ops S o=some false/\gY n (some (dO o))=true:=by
 unfold goF at h
 unfold dO
 split at h
 ·rename_i d hd
  split at h
  ·rename_i hg;rw[hd];exact ⟨rfl,hg,h⟩
  ·cases h
 ·cases h
def goT(ops:Array Oper)(S:SL)(o:Oper):Bool:=match o.dst with
 |some _=>false
 |none=>match xX ops S o with
  |some true=>true
  |_=>false
theorem goT_spec{ops:Array Oper}{S:SL}{o:Oper}(h:goT ops S o=true):o.dst=none/\xX ops S o=some true:=by
 unfold goT at h
 split at h
 ·cases h
 ·rename_i hd
  split at h
  ·rename_i hg;exact ⟨hd,hg⟩
  ·cases h
def mvV(S:SL)(o:Oper):SV:=match o.op with
 |.move x=>ev (jZ S) x
 |.assign x=>ev (jZ S) x
 |_=>.junk
def mvK(o:Oper):Bool:=match o.op with
 |.move _=>true
 |.assign _=>true
 |_=>false
def ROk(P:Program)(o:Oper)(S:SL)(B:BS)(k:Nat)(x:SV):Prop:=∃ cs,uN P o (jZ S) [(k,cs)] x/\kA B k=some cs
def TK(P:Program)(o:Oper)(S:SL)(B:BS)(k:Nat)(cs:List SV):Prop:=∃ old,TOk P o (jZ S) k old cs/\kA B k=some old
section
variable {P:Program} {n:Fr} {ops:Array Oper} {K:SL->BS->Prop} {S:SL} {B:BS} {l:List Oper} {o:Oper} {news:List Nat} {acc0:List (List Nat × List Nat)}
theorem kW(h:mvK o=true):uN P o (jZ S) [] (mvV S o):=by
 unfold mvK at h
 unfold mvV
 split at h
 ·rename_i x hx;exact e_move (.inl hx)
 ·rename_i x hx;exact e_move (.inr hx)
 ·cases h
theorem zE{x:SV}(h:uN P o (jZ S) [] x)(r:SK P n ops K ((dO o,x)::S) B l)(g:goK n ops S o=true:=by kernel_rfl):SK P n ops K S B (o::l):=by
 obtain ⟨st1,r1,r2⟩:=r
 obtain ⟨hd,hg,hb⟩:=yO g
 have hs:=Step.e (P:=P) (n:=n) (ops:=ops) (st:=⟨S,B⟩) (o:=o) h hg (by rw[hd];exact hb) (by simp)
 rw[hd] at hs
 exact ⟨st1,.cons hs r1,r2⟩
theorem zM(r:SK P n ops K ((dO o,mvV S o)::S) B l)(h:mvK o=true:=by kernel_rfl)(g:goK n ops S o=true:=by kernel_rfl):SK P n ops K S B (o::l):=zE (kW h) r g
theorem zR{k:Nat}{x:SV}(h:ROk P o S B k x)(r:SK P n ops K ((dO o,x)::S) B l)(g:goK n ops S o=true:=by kernel_rfl):SK P n ops K S B (o::l):=by
 obtain ⟨st1,r1,r2⟩:=r
 obtain ⟨cs,h,hbk⟩:=h
 obtain ⟨hd,hg,hb⟩:=yO g
 have hs:=Step.e (P:=P) (n:=n) (ops:=ops) (st:=⟨S,B⟩) (o:=o) h hg (by rw[hd];exact hb) (by simpa using hbk)
 rw[hd] at hs
 exact ⟨st1,.cons hs r1,r2⟩
theorem zN{k:Nat}{cs:List SV}{x:SV}(h:NOk P o (jZ S) k cs x)(r:SK P n ops K ((dO o,x)::S) ((k,some cs)::B) l)(g:goK n ops S o=true:=by kernel_rfl)(hf:gF k ⟨S,B⟩=true:=by kernel_rfl):SK P n ops K S B (o::l):=by
 obtain ⟨st1,r1,r2⟩:=r
 obtain ⟨hd,hg,hb⟩:=yO g
 have hs:=Step.n (P:=P) (n:=n) (ops:=ops) (st:=⟨S,B⟩) (o:=o) h hg (by rw[hd];exact hb) hf
 rw[hd] at hs
 exact ⟨st1,.cons hs r1,r2⟩
theorem zH{k:Nat}{cs:List SV}{x:SV}(h:NOk P o (jZ S) k cs x)(r:SK P n ops K ((dO o,x)::S) ((k,some cs)::B) l)(g:goK n ops S o=true:=by kernel_rfl)(h1:(S.all fun p=>!p.2.names k)=true:=by kernel_rfl)
  (h2:FrB k B:=by repeat first | exact frb_nil _ | refine frb_map rfl ?_ | refine frb_d rfl ?_ | refine frb_cs rfl rfl ?_ | refine frb_none rfl ?_):SK P n ops K S B (o::l):=zN h r g (bQ h1 h2)
theorem zT{k:Nat}{cs:List SV}(h:TK P o S B k cs)(r:SK P n ops K S ((k,some cs)::B) l)(g:goT ops S o=true:=by kernel_rfl):SK P n ops K S B (o::l):=by
 obtain ⟨st1,r1,r2⟩:=r
 obtain ⟨old,h,hb⟩:=h
 obtain ⟨hd,hg⟩:=goT_spec g
 have hs:=Step.t (P:=P) (n:=n) (ops:=ops) (st:=⟨S,B⟩) (o:=o) h hg (by rw[hd];rfl) hb
 rw[hd] at hs
 exact ⟨st1,.cons hs r1,r2⟩
theorem zK(r:SK P n ops K ((dO o,.d (.tup []))::S) B l)(g:goF n ops S o=true:=by kernel_rfl):SK P n ops K S B (o::l):=by
 obtain ⟨st1,r1,r2⟩:=r
 obtain ⟨hd,hg,hb⟩:=goF_spec g
 have hs:=Step.skip (P:=P) (n:=n) (ops:=ops) (st:=⟨S,B⟩) (o:=o) hg (by rw[hd];exact hb)
 rw[hd] at hs
 exact ⟨st1,.cons hs r1,r2⟩
theorem zX{S1:SL}{B1:BS}(h:∀ (C:Ctx) (a:Act) (w:World) (Q:Exit->Act->World->Prop),C.n=n->dF C a w ⟨S,B⟩->o.wp P a w (fun a' w'=>dF C a' w' ⟨S1,B1⟩) Q)(hg:xX ops S o=some true)(r:SK P n ops K S1 B1 l):SK P n ops K S B (o::l):=by
 obtain ⟨st1,r1,r2⟩:=r
 exact ⟨st1,.cons (.sem h hg) r1,r2⟩
section
variable {S0:SL} {B0:BS} {D:SL} {E:BS}
theorem zZ(h1:D.map (fun p=>jZ S p.1)=D.map (·.2):=by kernel_rfl)(h2:S.drop (S.length-S0.length)=S0:=by kernel_rfl)(h3:((S.take (S.length-S0.length)).all fun p=>inS D p.1||isJ (jZ S0 p.1))=true:=by kernel_rfl)
  (h4:(E.filter fun p=>p.2.isSome).map (fun p=>kA B p.1)=(E.filter fun p=>p.2.isSome).map (·.2):=by kernel_rfl) (h5:B.drop (B.length-B0.length)=B0:=by kernel_rfl) (h6:((B.take (B.length-B0.length)).all fun p=>inB E p.1)=true:=by kernel_rfl):SK P n ops (KS S0 B0 D E) S B [] :=
 ⟨⟨S,B⟩,.nil,⟨h1,h2,h3⟩,⟨h4,h5,h6⟩⟩
theorem zF(h1:D.map (fun p=>jZ S p.1)=D.map (·.2):=by kernel_rfl)(h2:((S0.filter fun p=>!inS D p.1).map fun p=>jZ S0 p.1)=((S0.filter fun p=>!inS D p.1).map fun p=>jZ S p.1):=by kernel_rfl)
  (h4:(E.filter fun p=>p.2.isSome).map (fun p=>kA B p.1)=(E.filter fun p=>p.2.isSome).map (·.2):=by kernel_rfl) (h5:B.drop (B.length-B0.length)=B0:=by kernel_rfl) (h6:((B.take (B.length-B0.length)).all fun p=>inB E p.1)=true:=by kernel_rfl):SK P n ops (KF S0 B0 D E) S B [] :=
 ⟨⟨S,B⟩,.nil,⟨h1,h2⟩,⟨h4,h5,h6⟩⟩
theorem wZ(h1:D.map (fun p=>jZ S p.1)=D.map (·.2):=by kernel_rfl)(h2:S.drop (S.length-S0.length)=S0:=by kernel_rfl)(h3:((S.take (S.length-S0.length)).all fun p=>inS D p.1||isJ (jZ S0 p.1))=true:=by kernel_rfl)
  (h4:(E.filter fun p=>p.2.isSome).map (fun p=>kA B p.1)=(E.filter fun p=>p.2.isSome).map (·.2):=by kernel_rfl) (h5:B.drop (B.length-B0.length)=B0:=by kernel_rfl) (h6:((B.take (B.length-B0.length)).all fun p=>inB E p.1)=true:=by kernel_rfl) (h7:orderB ops acc0=true:=by kernel_rfl):DK P n ops (KS S0 B0 D E) news acc0 S B [] :=
 ⟨⟨S,B⟩,[],.nil,by simpa using h7,⟨h1,h2,h3⟩,⟨h4,h5,h6⟩⟩
theorem kx{id:Nat}{Q:Exit->PS->Prop}(D:SL)(E:BS)(h:SK P n l.toArray (KS S0 B0 D E) S0 B0 l)(hq:Q .normal ⟨up D S0,upB E B0⟩)(hp:l.all yV=true:=by kernel_rfl):eO P n (.region id l.toArray false) Q ⟨S0,B0⟩:=fun C a w N hn hs=>by
 obtain ⟨st1,h1,h2,h3⟩:=h
 subst hn
 exact wpIn_region_lit (steps_sound (C:=C) h1 hp rfl (fun a' w' hs'=>⟨_,sim_get h2.get (fun k c=>h3.get) C a' w' hs',hq⟩) hs)
theorem kf{id:Nat}{Q:Exit->PS->Prop}(D:SL)(E:BS)(h:SK P n l.toArray (KF S0 B0 D E) S0 B0 l)(hq:Q .normal ⟨up D S0,upB E B0⟩)(hp:l.all yV=true:=by kernel_rfl):eO P n (.region id l.toArray false) Q ⟨S0,B0⟩:=fun C a w N hn hs=>by
 obtain ⟨st1,h1,h2,h3⟩:=h
 subst hn
 exact wpIn_region_lit (steps_sound (C:=C) h1 hp rfl (fun a' w' hs'=>⟨_,sim_get h2.get (fun k c=>h3.get) C a' w' hs',hq⟩) hs)
theorem kd{id:Nat}{Q:Exit->PS->Prop}(D:SL)(E:BS)(hm:P.follows .mixedOrders=true)(h:DK P n l.toArray (KS S0 B0 D E) [] [] S0 B0 l)(hq:Q .normal ⟨up D S0,upB E B0⟩)(hb:backB l.toArray=true:=by kernel_rfl)(hp:l.all yV=true:=by kernel_rfl):eO P n (.region id l.toArray true) Q ⟨S0,B0⟩:=fun C a w N hn hs=>by
 obtain ⟨st1,acc,h1,h0,h2,h3⟩:=h
 subst hn
 exact wpIn_region_any hm (draw_sound (C:=C) rfl (by simpa using h1) (by simpa using h0) hb (by simpa using hp) (fun a' w' hs'=>⟨_,sim_get h2.get (fun k c=>h3.get) C a' w' hs',hq⟩) hs)
end
theorem wE{x:SV}(h:uN P o (jZ S) [] x)(r:DK P n ops K news (acc0++[([],[])]) ((dO o,x)::S) B l)(g:goK n ops S o=true:=by kernel_rfl)(hn:clearR ops S o news x=true:=by kernel_rfl):DK P n ops K news acc0 S B (o::l):=by
 obtain ⟨st1,acc,r1,r0,r2⟩:=r
 obtain ⟨hd,hg,hb⟩:=yO g
 have hs:=mP.e (P:=P) (n:=n) (ops:=ops) (news:=news) (st:=⟨S,B⟩) (o:=o) h hg (by rw[hd];exact hb) (by simp) hn
 rw[hd] at hs
 exact ⟨st1,([],[])::acc,.cons hs r1,by simpa using r0,r2⟩
theorem wM(r:DK P n ops K news (acc0++[([],[])]) ((dO o,mvV S o)::S) B l)(h:mvK o=true:=by kernel_rfl)(g:goK n ops S o=true:=by kernel_rfl)(hn:clearR ops S o news (mvV S o)=true:=by kernel_rfl):DK P n ops K news acc0 S B (o::l):=wE (kW h) r g hn
theorem wR{k:Nat}{x:SV}(h:ROk P o S B k x)(r:DK P n ops K news (acc0++[([k],[])]) ((dO o,x)::S) B l)(g:goK n ops S o=true:=by kernel_rfl)(hn:clearR ops S o news x=true:=by kernel_rfl):DK P n ops K news acc0 S B (o::l):=by
 obtain ⟨st1,acc,r1,r0,r2⟩:=r
 obtain ⟨cs,h,hbk⟩:=h
 obtain ⟨hd,hg,hb⟩:=yO g
 have hs:=mP.e (P:=P) (n:=n) (ops:=ops) (news:=news) (st:=⟨S,B⟩) (o:=o) h hg (by rw[hd];exact hb) (by simpa using hbk) hn
 rw[hd] at hs
 exact ⟨st1,([k],[])::acc,.cons hs r1,by simpa using r0,r2⟩
theorem wN{k:Nat}{cs:List SV}{x:SV}(h:NOk P o (jZ S) k cs x)(r:DK P n ops K (k::news) (acc0++[([],[k])]) ((dO o,x)::S) ((k,some cs)::B) l)(g:goK n ops S o=true:=by kernel_rfl)(hf:gF k ⟨S,B⟩=true:=by kernel_rfl)(hn:clear1 news x=true:=by kernel_rfl)(hc:bJ news cs=true:=by kernel_rfl):DK P n ops K news acc0 S B (o::l):=by
 obtain ⟨st1,acc,r1,r0,r2⟩:=r
 obtain ⟨hd,hg,hb⟩:=yO g
 have hs:=mP.n (P:=P) (n:=n) (ops:=ops) (news:=news) (st:=⟨S,B⟩) (o:=o) h hg (by rw[hd];exact hb) hf hn hc
 rw[hd] at hs
 exact ⟨st1,([],[k])::acc,.cons hs r1,by simpa using r0,r2⟩
theorem wH{k:Nat}{cs:List SV}{x:SV}(h:NOk P o (jZ S) k cs x)(r:DK P n ops K (k::news) (acc0++[([],[k])]) ((dO o,x)::S) ((k,some cs)::B) l)(hc:bJ news cs=true)(g:goK n ops S o=true:=by kernel_rfl)(h1:(S.all fun p=>!p.2.names k)=true:=by kernel_rfl)
  (h2:FrB k B:=by repeat first | exact frb_nil _ | refine frb_map rfl ?_ | refine frb_d rfl ?_ | refine frb_cs rfl rfl ?_ | refine frb_none rfl ?_) (hn:clear1 news x=true:=by kernel_rfl):DK P n ops K news acc0 S B (o::l):=wN h r g (bQ h1 h2) hn hc
theorem wT{k:Nat}{cs:List SV}(h:TK P o S B k cs)(r:DK P n ops K news (acc0++[([k],[k])]) S ((k,some cs)::B) l)(g:goT ops S o=true:=by kernel_rfl)(hc:clearLR ops S o news cs=true:=by kernel_rfl):DK P n ops K news acc0 S B (o::l):=by
 obtain ⟨st1,acc,r1,r0,r2⟩:=r
 obtain ⟨old,h,hb⟩:=h
 obtain ⟨hd,hg⟩:=goT_spec g
 have hs:=mP.t (P:=P) (n:=n) (ops:=ops) (news:=news) (st:=⟨S,B⟩) (o:=o) h hg (by rw[hd];rfl) hb hc
 rw[hd] at hs
 exact ⟨st1,([k],[k])::acc,.cons hs r1,by simpa using r0,r2⟩
theorem wK(r:DK P n ops K news (acc0++[([],[])]) ((dO o,.d (.tup []))::S) B l)(g:goF n ops S o=true:=by kernel_rfl):DK P n ops K news acc0 S B (o::l):=by
 obtain ⟨st1,acc,r1,r0,r2⟩:=r
 obtain ⟨hd,hg,hb⟩:=goF_spec g
 have hs:=mP.skip (P:=P) (n:=n) (ops:=ops) (news:=news) (st:=⟨S,B⟩) (o:=o) hg (by rw[hd];exact hb)
 rw[hd] at hs
 exact ⟨st1,([],[])::acc,.cons hs r1,by simpa using r0,r2⟩
end
end Go.Fid
