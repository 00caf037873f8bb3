/- Part 12 of a proof: rules, plain facts, and functions walked. -/
import Derived.Test.YteimogfidbkpnabGreatM11
import Derived.LoopNIn
set_option linter.all false
namespace Go.Fid
open Go.RowKit (Below)
def eC(P:Program)(n:Fr)(c:Code)(Q:Exit→PS→Prop):Nat→PS→Prop
 |0,_=>False
 |m+1,st=>qU P n c (PThen (eC P n c Q m) Q) st
theorem yM{P:Program}{n:Fr}{c:Code}{Q:Exit→PS→Prop}{st:PS}(m:Nat)(h:eC P n c Q m st):qU P n (.loop c) Q st:=fun C a w N hn hs=>by
 refine wpIn_loop_rounds m ?_
 have key:∀ m st a w,gE C a w st→eC P n c Q m st→Code.roundsIn (fen n) N P c (fun e a' w'=>∃ st',gE C a' w' st'∧Q e st') m a w:=by
  intro m
  induction m with
  |zero=>intro st a w _ h;exact h.elim
  |succ m ih=>
   intro st a w hs h
   refine wpIn_mono (h C a w N hn hs) fun e a' w' ⟨s,h1,h2⟩=>?_
   cases e with
   |normal=>exact ih s a' w' h1 h2
   |_=>exact ⟨s,h1,h2⟩
 exact key m st a w hs h
theorem gH{P:Program}{n:Fr}{c:Code}{Q:Exit→PS→Prop}{st:PS}{m:Nat}(h:qU P n c (PThen (eC P n c Q m) Q) st):eC P n c Q (m+1) st:=h
theorem kH{P:Program}{n:Fr}{c:Code}{Q:Exit→PS→Prop}{s st:PS}{m:Nat}(hw:kK s st)(h:qU P n c (PThen (eC P n c Q m) Q) st):PThen (eC P n c Q (m+1)) Q .normal s :=
 show qU P n c (PThen (eC P n c Q m) Q) s from fun C a w N hn hs=>h C a w N hn (hw C a w hs)
section
variable {P:Program} {o:Oper} {S:Nat→SV}
theorem run_sliceArr{T E:TypeId}{n s:Nat}(hT:arrB P T=some (n,E,s))(hn:0<n)(w:World)(b q:Nat):(Instr.sliceAt T (.pointer (some ⟨b,q,none⟩)) none none none).run P w=.ok (.slice (some ⟨b,q,none⟩) n n) w:=by
 obtain ⟨j,e1,e2,e3⟩:=arr_of hT
 have hne:¬ n=0:=by omega
 simp [Instr.sliceAt,run_underlying e1,Instr.sliceBounds,uE e2,Instr.sureAddr,Addr.add_lit,hne]
theorem e_slv{T E:TypeId}{x:Operand}{k q n s:Nat}(ho:o.op=.slice T x none none none)(hT:arrB P T=some (n,E,s))(hx:ev S x=.ref k q)(hn:Nat.blt 0 n=true)(hm:Nat.ble n maxLen=true):qW P o S [] (.view k q n) :=
 qW.same fun a w D β hop _=>by
  have hp:=hop x (by simp [ho,Op.operands])
  rw[hx] at hp
  obtain ⟨b,h1,h2⟩:=hp
  have hn':0<n:=Nat.le_of_ble_eq_true hn
  refine ⟨.slice (some ⟨b,q,none⟩) n n,?_,b,n,h1,rfl,Nat.le_refl _,Nat.le_of_ble_eq_true hm⟩
  simp [execOp,ho,h2,run_sliceArr hT hn']
theorem e_ixa{T E:TypeId}{x ix:Operand}{n s sz:Nat}{agg:Bool}{k:IntKind}{i:Int}{j:Nat}{cs:List kF}{y:SV}(ho:o.op=.index T x ix)(hx:ev S x=.d (.agg cs))(hT:arrB P T=some (n,E,s))(hs:kS P E=some (agg,sz))(h1:agg=false→sz=1)
  (hi:ev S ix=.d (.val (.int k i))) (hj:i=(j:Int)) (hn:Nat.blt j n=true) (hle:Nat.ble (j*s+sz) cs.length=true) (hy:xN agg (((cs.drop (j*s)).take sz).map .d)=y):qW P o S [] y:=by
 subst hj
 have hn':j<n:=Nat.le_of_ble_eq_true hn
 have h:=e_index_arr (P:=P) (i:=(j:Int)) (k:=k) ho hx hT hs h1 hi (by omega) (by omega) (by simpa using Nat.le_of_ble_eq_true hle)
 rw[show ((j:Int)).toNat=j from rfl] at h
 exact hy▸h
inductive yG (E:TypeId):kF→Prop
 |val (v:Value):yG E (.val v)
 |sl {t:TypeId} {s:Nat} {es:List kF} (h:t≠E) (hs:∀ (i:Nat) d,(flat es)[i]?=some d→yG E d):yG E (.sl t s es)
 |agg {cs:List kF} (hs:∀ (i:Nat) d,cs[i]?=some d→yG E d):yG E (.agg cs)
 |tup {cs:List kF} (hs:∀ (i:Nat) d,cs[i]?=some d→yG E d):yG E (.tup cs)
 |cptr {t:TypeId} {cs:List kF} {off:Nat} (h:t≠E) (hs:∀ (i:Nat) d,cs[i]?=some d→yG E d):yG E (.cptr t cs off)
 |clo {f:FuncId} {aJ:List kF} (hs:∀ (i:Nat) d,aJ[i]?=some d→yG E d):yG E (.clo f aJ)
theorem avo_nil{E:TypeId}:∀ (i:Nat) d,([]:List kF)[i]?=some d→yG E d:=fun i d h=>by simp at h
theorem fJ{E:TypeId}{x:kF}{l:List kF}(h:yG E x)(hl:∀ (i:Nat) d,l[i]?=some d→yG E d):∀ (i:Nat) d,(x::l)[i]?=some d→yG E d:=fun i d hd=>by
 rcases i with _ | i
 ·simp at hd;subst hd;exact h
 ·exact hl i d (by simpa using hd)
theorem yG.rep{E:TypeId}{w:World}{D D':kU}(hk:∀ t g o,t≠E→D t g o→D' t g o){v:Value}{r:kF}(ha:yG E r)(h:uD w D v r):uD w D' v r:=by
 induction h with
 |val v=>exact .val v
 |sl g off u hn hc hm hs hao hD hu h1 hr ih=>
  cases ha with
  |sl hne has=>exact .sl g off u hn hc hm hs hao (fun i hi=>hk _ _ _ hne (hD i hi)) hu h1 (fun i d hd=>ih i d hd (has i d hd))
 |agg vs hl h1 hr ih=>
  cases ha with
  |agg has=>exact .agg vs hl h1 (fun i v d hv hd=>ih i v d hv hd (has i d hd))
 |tup vs hl hr ih=>
  cases ha with
  |tup has=>exact .tup vs hl (fun i v d hv hd=>ih i v d hv hd (has i d hd))
 |cptr g o u hD hu h1 hr ih=>
  cases ha with
  |cptr hne has=>exact .cptr g o u (fun i hi=>hk _ _ _ hne (hD i hi)) hu h1 (fun i d hd=>ih i d hd (has i d hd))
 |clo vs hl hr ih=>
  cases ha with
  |clo has=>exact .clo vs hl (fun i v d hv hd=>ih i v d hv hd (has i d hd))
inductive gS (k:Nat) (E:TypeId) (s q m:Nat) (es:List kF):List SV→List kF→Prop
 |nil:gS k E s q m es [] []
 |d {x:kF} {zs:List SV} {ds:List kF} (h:gS k E s q m es zs ds):gS k E s q m es (.d x::zs) (x::ds)
 |v {zs:List SV} {ds:List kF} (h:gS k E s q m es zs ds):gS k E s q m es (.view k q m::zs) (.sl E s es::ds)
theorem gS.len{k E s q m:Nat}{es:List kF}{zs:List SV}{ds:List kF}(h:gS k E s q m es zs ds):zs.length=ds.length:=by
 induction h with
 |nil=>rfl
 |d h ih=>simp [ih]
 |v h ih=>simp [ih]
theorem gS.rep{k E s q m:Nat}{es:List kF}{w:World}{D D':kU}{β:qE}(h1:∀ v x,uD w D v x→uD w D' v x)(h2:∀ v,qB w D β v (.view k q m)→uD w D' v (.sl E s es)){zs:List SV}{ds:List kF}(h:gS k E s q m es zs ds) :
  ∀ {vs:List Value},vs.length=zs.length→(∀ (i:Nat) v x,vs[i]?=some v→zs[i]?=some x→qB w D β v x)→∀ (i:Nat) v d,vs[i]?=some v→ds[i]?=some d→uD w D' v d:=by
 induction h with
 |nil=>intro vs _ _ i v d _ hd;simp at hd
 |d h ih=>
  intro vs hl hr i v d' hv hd
  rcases vs with _ | ⟨v0,vs⟩
  ·simp at hl
  ·rcases i with _ | i
   ·simp at hv hd;subst hv;subst hd;exact h1 _ _ (hr 0 _ _ rfl rfl)
   ·exact ih (by simpa using hl) (fun i v x h3 h4=>hr (i+1) v x (by simpa using h3) (by simpa using h4)) i v d' (by simpa using hv) (by simpa using hd)
 |v h ih=>
  intro vs hl hr i v d' hv hd
  rcases vs with _ | ⟨v0,vs⟩
  ·simp at hl
  ·rcases i with _ | i
   ·simp at hv hd;subst hv;subst hd;exact h2 _ (hr 0 _ _ rfl rfl)
   ·exact ih (by simpa using hl) (fun i v x h3 h4=>hr (i+1) v x (by simpa using h3) (by simpa using h4)) i v d' (by simpa using hv) (by simpa using hd)
theorem e_clv{y:Operand}{xs:List Operand}{ats:Array TypeId}{f:FuncId}{ds es:List kF}{r:kF}{zs:List SV}{cs:List SV}{k E s q m:Nat}(hf:kB P f ds r)(ho:o.op=.call { callee:=.value y,args:=xs.toArray,argTypes:=ats })(hy:ev S y=.d (.val (.func (.func f) #[] #[])))
  (hx:xs.map (ev S)=zs) (hz:gS k E s q m es zs ds) (hes:∀ e∈es,e.cells.length=s) (hl:es.length=m) (hc:(cs.drop q).take (m*s)=(flat es).map .d) (ha:yG E r):qW P o S [(k,cs)] (.d r) :=
 fun a w D β Q hop hrd hD=>by
  have hyv:=hop y (by simp [ho,Op.operands,Call.operands])
  rw[hy] at hyv
  have hyv':=qM hyv
  have hrep:∀ (i:Nat) v x,(xs.map a.eval)[i]?=some v→zs[i]?=some x→qB w D β v x:=fun i v x hv hz'=>by
   rw[List.getElem?_map,Option.map_eq_some_iff] at hv
   obtain ⟨p,hqi,rfl⟩:=hv
   have hm:=hop p (by simp [ho,Op.operands,Call.operands,List.mem_of_getElem? hqi])
   have hi:=congrArg (fun l:List SV=>l[i]?) hx
   simp only[List.getElem?_map,hqi,hz',Option.map_some,Option.some.injEq] at hi
   rw[hi] at hm
   exact hm
  have qP:(xs.map a.eval).length=zs.length:=by rw[← hx];simp
  have hrun:(execOp a.eval o).run P w=.ok (.enter f (xs.map a.eval).toArray) w:=by
   simp only[execOp,ho,resolve,Deferred.ofValue,hyv',Sem.run_bind,Sem.run_pure,Result.andThen_ok,invoke,Array.empty_append,Array.append_empty]
   rw[xF hf.may]
   simp
  have hfl:=uJ hes
  have hblk:=hrd (k,cs) (by simp)
  have key:∃ (D':kU) (X:TypeId→Nat→Nat→Prop),DOk D' w∧(∀ t g i,D' t g i↔D t g i∨X t g i)∧(∀ t g i,X t g i→t=E∧∀ t' i',¬ D t' g i')∧(∀ v x,uD w D v x→uD w D' v x)∧(∀ v,qB w D β v (.view k q m)→uD w D' v (.sl E s es)):=by
   rcases hblk with ⟨g1,hcs⟩ | ⟨b,vs,T',g1,g2,g3,g4,g5⟩
   ·refine ⟨D,fun _ _ _=>False,hD,fun t g i=>by simp,fun _ _ _ h=>h.elim,fun _ _ h=>h,fun v hv=>?_⟩
    obtain ⟨b,cap,h1,_⟩:=hv
    rw[h1] at g1;cases g1
   ·have hmono:∀ t' g i,D t' g i→(D t' g i∨(t'=E∧g=b))∧w.cell? ⟨g,i,none⟩=w.cell? ⟨g,i,none⟩:=fun t' g i hd=>⟨.inl hd,rfl⟩
    refine ⟨fun t' g i=>D t' g i∨(t'=E∧g=b),fun t' g i=>t'=E∧g=b,fun t' g i hd=>?_,fun _ _ _=>Iff.rfl,fun t g i h=>⟨h.1,fun t' i' hd=>g5 t' i' (h.2▸hd)⟩,fun v x hr=>uD.mono hmono hr,fun v hv=>?_⟩
    ·rcases hd with hd | ⟨_,e⟩
     ·exact hD _ _ _ hd
     ·subst e;exact qK g2
    ·obtain ⟨b2,cap,h1,h2,h5,h6⟩:=hv
     obtain rfl:b=b2:=by rw[h1] at g1;injection g1 with g1;exact g1.symm
     rw[h2]
     have key:∀ (i:Nat) d,(flat es)[i]?=some d→∃ u,vs[q+i]?=some u∧u.oneCell'=true∧uD w D u d:=fun i d hd=>by
      have hi:i<m*s:=by
       have:=(List.getElem?_eq_some_iff.1 hd).1
       rw[hfl,hl] at this;exact this
      have e1:cs[q+i]?=some (.d d):=by
       have:((cs.drop q).take (m*s))[i]?=some (.d d):=by rw[hc];simp [hd]
       rw[List.getElem?_take_of_lt hi,List.getElem?_drop] at this
       exact this
      exact g4 _ _ e1
     have hcell:∀ i,w.cell? ⟨b,i,none⟩=vs[i]?:=fun i=>cell_of_row w b i vs T' (0,0) g2
     refine uD.sl b q (fun i=>vs.getD (q+i) undef) hl.symm h5 h6 hes (fun _=>rfl) (fun i hi=>.inr ⟨rfl,rfl⟩) (fun i hi=>?_) (fun i hi=>?_) (fun i d hd=>?_)
     ·obtain ⟨x,q1,q2,q3⟩:=key i _ (List.getElem?_eq_getElem hi)
      rw[hcell,Array.getD_eq_getD_getElem?,q1];rfl
     ·obtain ⟨x,q1,q2,q3⟩:=key i _ (List.getElem?_eq_getElem hi)
      rw[Array.getD_eq_getD_getElem?,q1];exact q2
     ·obtain ⟨x,q1,q2,q3⟩:=key i d hd
      rw[Array.getD_eq_getD_getElem?,q1]
      exact uD.mono hmono q3
  obtain ⟨D',X,hD',hX,hXp,hm1,hm2⟩:=key
  have hargs:Args w D' (xs.map a.eval) ds:=⟨qP.trans hz.len,hz.rep hm1 hm2 qP hrep⟩
  refine cT hrun ((hf.run w D' _ hD' hargs).mono fun e w' h=>?_)
  obtain ⟨v,D2,he,h1,h2,h3⟩:=h
  refine ⟨v,he,v,fun t g i=>D2 t g i∧¬ X t g i,rfl,h1,⟨fun t g i hd=>⟨h2.up _ _ _ ((hX t g i).2 (.inl hd)),fun hx'=>(hXp t g i hx').2 t i hd⟩,fun t g i hd=>?_⟩,?_⟩
  ·rcases h2.new t g i hd.1 with h | h
   ·rcases (hX t g i).1 h with h | h
    ·exact .inl h
    ·exact absurd h hd.2
   ·exact .inr h
  ·exact ha.rep (fun t g i hne hd=>⟨hd,fun hx'=>hne (hXp t g i hx').1⟩) h3
end
def up:SL→SL→SL
 |[],S=>S
 |p::D,S=>p::up D S
def upB:BS→BS→BS
 |[],S=>S
 |p::D,S=>p::upB D S
def inS(D:SL)(t:Nat):Bool:=D.any fun p=>Nat.beq p.1 t
def inB(D:BS)(t:Nat):Bool:=D.any fun p=>Nat.beq p.1 t
def isJ:SV→Bool
 |.junk=>true
 |_=>false
theorem isJ_eq{x:SV}(h:isJ x=true):x=.junk:=by cases x<;>first | rfl | cases h
theorem sget_up(D S:SL)(t:Nat):jY (up D S) t=bif inS D t then jY D t else jY S t:=by
 induction D with
 |nil=>rfl
 |cons p D ih=>
  obtain ⟨j,x⟩:=p
  show jY ((j,x)::up D S) t=bif (Nat.beq j t||inS D t) then _ else _
  rw[qG,qG,ih]
  by_cases h:j=t
  ·subst h;simp
  ·have:Nat.beq j t=false:=by rw[← Bool.not_eq_true];exact fun e=>h (Nat.eq_of_beq_eq_true e)
   rw[if_neg h,if_neg h,this,Bool.false_or]
theorem bget_up(D S:BS)(t:Nat):kD (upB D S) t=bif inB D t then kD D t else kD S t:=by
 induction D with
 |nil=>rfl
 |cons p D ih=>
  obtain ⟨j,x⟩:=p
  show kD ((j,x)::upB D S) t=bif (Nat.beq j t||inB D t) then _ else _
  rw[jR,jR,ih]
  by_cases h:j=t
  ·subst h;simp
  ·have:Nat.beq j t=false:=by rw[← Bool.not_eq_true];exact fun e=>h (Nat.eq_of_beq_eq_true e)
   rw[if_neg h,if_neg h,this,Bool.false_or]
theorem sget_out{D:SL}{t:Nat}(h:inS D t=false):jY D t=.junk:=by
 induction D with
 |nil=>rfl
 |cons p D ih=>
  obtain ⟨j,x⟩:=p
  simp only[inS,List.any_cons,Bool.or_eq_false_iff] at h
  rw[qG,if_neg (fun e=>by subst e;simp at h),ih h.2]
theorem up_app(W S:SL):up W S=W++S:=by
 induction W with
 |nil=>rfl
 |cons p W ih=>show p::up W S=p::(W++S);rw[ih]
theorem upB_app(W S:BS):upB W S=W++S:=by
 induction W with
 |nil=>rfl
 |cons p W ih=>show p::upB W S=p::(W++S);rw[ih]
structure FinS (S0 D Sf:SL):Prop where
 d:D.map (fun p=>jY Sf p.1)=D.map (·.2)
 k:Sf.drop (Sf.length-S0.length)=S0
 j:((Sf.take (Sf.length-S0.length)).all fun p=>inS D p.1||isJ (jY S0 p.1))=true
structure FinB (B0 E Bf:BS):Prop where
 d:(E.filter fun p=>p.2.isSome).map (fun p=>kD Bf p.1)=(E.filter fun p=>p.2.isSome).map (·.2)
 k:Bf.drop (Bf.length-B0.length)=B0
 j:((Bf.take (Bf.length-B0.length)).all fun p=>inB E p.1)=true
structure FinF (S0 D Sf:SL):Prop where
 d:D.map (fun p=>jY Sf p.1)=D.map (·.2)
 j:((S0.filter fun p=>!inS D p.1).map fun p=>jY S0 p.1)=((S0.filter fun p=>!inS D p.1).map fun p=>jY Sf p.1)
theorem FinS.get{S0 D Sf:SL}(h:FinS S0 D Sf)(t:Nat):jY (up D S0) t=.junk∨jY (up D S0) t=jY Sf t:=by
 rw[sget_up]
 cases hD:inS D t with
 |true=>exact sget_eq_or h.d t
 |false=>
  rw[cond_false]
  have e:Sf=up (Sf.take (Sf.length-S0.length)) S0:=by rw[up_app];conv=>lhs;rw[← List.take_append_drop (Sf.length-S0.length) Sf,h.k]
  cases hW:inS (Sf.take (Sf.length-S0.length)) t with
  |false=>right;conv=>rhs;rw[e,sget_up,hW,cond_false]
  |true=>
   left
   simp only[inS,List.any_eq_true] at hW
   obtain ⟨p,hp,hpt⟩:=hW
   have:=List.all_eq_true.1 h.j p hp
   rw[Nat.eq_of_beq_eq_true hpt,hD,Bool.false_or] at this
   exact isJ_eq this
theorem FinF.get{S0 D Sf:SL}(h:FinF S0 D Sf)(t:Nat):jY (up D S0) t=.junk∨jY (up D S0) t=jY Sf t:=by
 rw[sget_up]
 cases hD:inS D t with
 |true=>exact sget_eq_or h.d t
 |false=>
  rw[cond_false]
  cases hS:inS S0 t with
  |false=>left;exact sget_out hS
  |true=>
   right
   simp only[inS,List.any_eq_true] at hS
   obtain ⟨p,hp,hpt⟩:=hS
   have hpt:=Nat.eq_of_beq_eq_true hpt
   subst hpt
   exact List.map_inj_left.1 h.j p (List.mem_filter.2 ⟨hp,by rw[hD];rfl⟩)
theorem FinB.get{B0 E Bf:BS}(h:FinB B0 E Bf){k:Nat}{c:List SV}(hc:kD (upB E B0) k=some c):kD Bf k=some c:=by
 rw[bget_up] at hc
 cases hD:inB E k with
 |true=>
  rw[hD,cond_true] at hc
  exact List.map_inj_left.1 h.d (k,some c) (List.mem_filter.2 ⟨dQ hc,rfl⟩)
 |false=>
  rw[hD,cond_false] at hc
  have e:Bf=upB (Bf.take (Bf.length-B0.length)) B0:=by rw[upB_app];conv=>lhs;rw[← List.take_append_drop (Bf.length-B0.length) Bf,h.k]
  cases hW:inB (Bf.take (Bf.length-B0.length)) k with
  |false=>rw[e,bget_up,hW,cond_false];exact hc
  |true=>
   simp only[inB,List.any_eq_true] at hW
   obtain ⟨p,hp,hpt⟩:=hW
   have:=List.all_eq_true.1 h.j p hp
   rw[Nat.eq_of_beq_eq_true hpt,hD] at this
   cases this
theorem sim_get{S B S' B'}(h1:∀ t,jY S' t=.junk∨jY S' t=jY S t)(h2:∀ k c,kD B' k=some c→kD B k=some c):kK ⟨S,B⟩ ⟨S',B'⟩:=fun C a w ⟨D,β,hs⟩=>
 ⟨D,β,hs.base,⟨fun k cs hk=>hs.mem.ok k cs (h2 _ _ hk),fun k1 k2 c1 c2 q1 q2=>hs.mem.inj k1 k2 c1 c2 (h2 _ _ q1) (h2 _ _ q2)⟩,fun k c hk=>hs.high k c (h2 _ _ hk),fun t=>by
  rcases h1 t with h | h
  ·show qB w D β _ (jY S' t)
   rw[h];trivial
  ·show qB w D β _ (jY S' t)
   rw[h];exact hs.slots t⟩
theorem wk{st:PS}{l:SL}{b:BS}(h1:l.map (fun p=>jY st.sl p.1)=l.map (·.2):=by kernel_rfl)(h2:b.map (fun p=>kD st.bs p.1)=b.map (·.2):=by kernel_rfl):kK st ⟨l,b⟩:=weak h1 h2
def SK(P:Program)(n:Fr)(ops:Array Oper)(K:SL→BS→Prop)(S:SL)(B:BS)(l:List Oper):Prop:=∃ st1,Steps P n ops ⟨S,B⟩ l st1∧K st1.sl st1.bs
def DK(P:Program)(n:Fr)(ops:Array Oper)(K:SL→BS→Prop)(news:List Nat)(acc0:List (List Nat × List Nat))(S:SL)(B:BS)(l:List Oper):Prop :=
 ∃ st1 acc,DSteps P n ops news ⟨S,B⟩ l acc st1∧orderB ops (acc0++acc)=true∧K st1.sl st1.bs
def KS(S0:SL)(B0:BS)(D:SL)(E:BS)(Sf:SL)(Bf:BS):Prop:=FinS S0 D Sf∧FinB B0 E Bf
def KF(S0:SL)(B0:BS)(D:SL)(E:BS)(Sf:SL)(Bf:BS):Prop:=FinF S0 D Sf∧FinB B0 E Bf
def dO(o:Oper):Tmp:=o.dst.getD 0
def goK(n:Fr)(ops:Array Oper)(S:SL)(o:Oper):Bool:=match o.dst with
 |some d=>match vQ ops S o with
  |some true=>xK n (some d)
  |_=>false
 |none=>false
theorem yV{n:Fr}{ops:Array Oper}{S:SL}{o:Oper}(h:goK n ops S o=true):o.dst=some (dO o)∧vQ ops S o=some true∧xK n (some (dO o))=true:=by
 unfold goK at h
 unfold dO
 split at h
 ·rename_i d hd
  split at h
  ·rename_i hg;rw[hd];exact ⟨rfl,hg,h⟩
  ·cases h
 ·cases h
def goF(n:Fr)(ops:Array Oper)(S:SL)(o:Oper):Bool:=match o.dst with
 |some d=>match vQ ops S o with
  |some false=>xK n (some d)
  |_=>false
 |none=>false
theorem goF_spec{n:Fr}{ops:Array Oper}{S:SL}{o:Oper}(h:goF n ops S o=true):o.dst=some (dO o)∧vQ ops S o=some false∧xK n (some (dO o))=true:=by
 unfold goF at h
 unfold dO
 split at h
 ·rename_i d hd
  split at h
  ·rename_i hg;rw[hd];exact ⟨rfl,hg,h⟩
  ·cases h
 ·cases h
def goT(ops:Array Oper)(S:SL)(o:Oper):Bool:=match o.dst with
 |some _=>false
 |none=>match vQ ops S o with
  |some true=>true
  |_=>false
theorem goT_spec{ops:Array Oper}{S:SL}{o:Oper}(h:goT ops S o=true):o.dst=none∧vQ ops S o=some true:=by
 unfold goT at h
 split at h
 ·cases h
 ·rename_i hd
  split at h
  ·rename_i hg;exact ⟨hd,hg⟩
  ·cases h
def mvV(S:SL)(o:Oper):SV:=match o.op with
 |.move x=>ev (jY S) x
 |.assign x=>ev (jY S) x
 |_=>.junk
def mvK(o:Oper):Bool:=match o.op with
 |.move _=>true
 |.assign _=>true
 |_=>false
def ROk(P:Program)(o:Oper)(S:SL)(B:BS)(k:Nat)(x:SV):Prop:=∃ cs,qW P o (jY S) [(k,cs)] x∧kD B k=some cs
def TK(P:Program)(o:Oper)(S:SL)(B:BS)(k:Nat)(cs:List SV):Prop:=∃ old,TOk P o (jY S) k old cs∧kD B k=some old
section
variable {P:Program} {n:Fr} {ops:Array Oper} {K:SL→BS→Prop} {S:SL} {B:BS} {l:List Oper} {o:Oper} {news:List Nat} {acc0:List (List Nat × List Nat)}
theorem kZ(h:mvK o=true):qW P o (jY S) [] (mvV S o):=by
 unfold mvK at h
 unfold mvV
 split at h
 ·rename_i x hx;exact e_move (.inl hx)
 ·rename_i x hx;exact e_move (.inr hx)
 ·cases h
theorem zE{x:SV}(h:qW P o (jY S) [] x)(r:SK P n ops K ((dO o,x)::S) B l)(g:goK n ops S o=true:=by kernel_rfl):SK P n ops K S B (o::l):=by
 obtain ⟨st1,r1,r2⟩:=r
 obtain ⟨hd,hg,hb⟩:=yV g
 have hs:=Step.e (P:=P) (n:=n) (ops:=ops) (st:=⟨S,B⟩) (o:=o) h hg (by rw[hd];exact hb) (by simp)
 rw[hd] at hs
 exact ⟨st1,.cons hs r1,r2⟩
theorem zM(r:SK P n ops K ((dO o,mvV S o)::S) B l)(h:mvK o=true:=by kernel_rfl)(g:goK n ops S o=true:=by kernel_rfl):SK P n ops K S B (o::l):=zE (kZ h) r g
theorem zR{k:Nat}{x:SV}(h:ROk P o S B k x)(r:SK P n ops K ((dO o,x)::S) B l)(g:goK n ops S o=true:=by kernel_rfl):SK P n ops K S B (o::l):=by
 obtain ⟨st1,r1,r2⟩:=r
 obtain ⟨cs,h,hbk⟩:=h
 obtain ⟨hd,hg,hb⟩:=yV g
 have hs:=Step.e (P:=P) (n:=n) (ops:=ops) (st:=⟨S,B⟩) (o:=o) h hg (by rw[hd];exact hb) (by simpa using hbk)
 rw[hd] at hs
 exact ⟨st1,.cons hs r1,r2⟩
theorem zN{k:Nat}{cs:List SV}{x:SV}(h:NOk P o (jY S) k cs x)(r:SK P n ops K ((dO o,x)::S) ((k,some cs)::B) l)(g:goK n ops S o=true:=by kernel_rfl)(hf:zY k ⟨S,B⟩=true:=by kernel_rfl):SK P n ops K S B (o::l):=by
 obtain ⟨st1,r1,r2⟩:=r
 obtain ⟨hd,hg,hb⟩:=yV g
 have hs:=Step.n (P:=P) (n:=n) (ops:=ops) (st:=⟨S,B⟩) (o:=o) h hg (by rw[hd];exact hb) hf
 rw[hd] at hs
 exact ⟨st1,.cons hs r1,r2⟩
theorem zH{k:Nat}{cs:List SV}{x:SV}(h:NOk P o (jY S) k cs x)(r:SK P n ops K ((dO o,x)::S) ((k,some cs)::B) l)(g:goK n ops S o=true:=by kernel_rfl)(h1:(S.all fun p=>!p.2.names k)=true:=by kernel_rfl)
  (h2:FrB k B:=by repeat first | exact frb_nil _ | refine frb_map rfl ?_ | refine frb_d rfl ?_ | refine frb_cs rfl rfl ?_ | refine frb_none rfl ?_):SK P n ops K S B (o::l):=zN h r g (freshB_of h1 h2)
theorem zT{k:Nat}{cs:List SV}(h:TK P o S B k cs)(r:SK P n ops K S ((k,some cs)::B) l)(g:goT ops S o=true:=by kernel_rfl):SK P n ops K S B (o::l):=by
 obtain ⟨st1,r1,r2⟩:=r
 obtain ⟨old,h,hb⟩:=h
 obtain ⟨hd,hg⟩:=goT_spec g
 have hs:=Step.t (P:=P) (n:=n) (ops:=ops) (st:=⟨S,B⟩) (o:=o) h hg (by rw[hd];rfl) hb
 rw[hd] at hs
 exact ⟨st1,.cons hs r1,r2⟩
theorem zK(r:SK P n ops K ((dO o,.d (.tup []))::S) B l)(g:goF n ops S o=true:=by kernel_rfl):SK P n ops K S B (o::l):=by
 obtain ⟨st1,r1,r2⟩:=r
 obtain ⟨hd,hg,hb⟩:=goF_spec g
 have hs:=Step.skip (P:=P) (n:=n) (ops:=ops) (st:=⟨S,B⟩) (o:=o) hg (by rw[hd];exact hb)
 rw[hd] at hs
 exact ⟨st1,.cons hs r1,r2⟩
theorem zX{S1:SL}{B1:BS}(h:∀ (C:dS) (a:Act) (w:World) (Q:Exit→Act→World→Prop),C.n=n→gE C a w ⟨S,B⟩→o.wp P a w (fun a' w'=>gE C a' w' ⟨S1,B1⟩) Q)(hg:vQ ops S o=some true)(r:SK P n ops K S1 B1 l):SK P n ops K S B (o::l):=by
 obtain ⟨st1,r1,r2⟩:=r
 exact ⟨st1,.cons (.sem h hg) r1,r2⟩
section
variable {S0:SL} {B0:BS} {D:SL} {E:BS}
theorem zZ(h1:D.map (fun p=>jY S p.1)=D.map (·.2):=by kernel_rfl)(h2:S.drop (S.length-S0.length)=S0:=by kernel_rfl)(h3:((S.take (S.length-S0.length)).all fun p=>inS D p.1||isJ (jY S0 p.1))=true:=by kernel_rfl)
  (h4:(E.filter fun p=>p.2.isSome).map (fun p=>kD B p.1)=(E.filter fun p=>p.2.isSome).map (·.2):=by kernel_rfl) (h5:B.drop (B.length-B0.length)=B0:=by kernel_rfl) (h6:((B.take (B.length-B0.length)).all fun p=>inB E p.1)=true:=by kernel_rfl):SK P n ops (KS S0 B0 D E) S B [] :=
 ⟨⟨S,B⟩,.nil,⟨h1,h2,h3⟩,⟨h4,h5,h6⟩⟩
theorem zF(h1:D.map (fun p=>jY S p.1)=D.map (·.2):=by kernel_rfl)(h2:((S0.filter fun p=>!inS D p.1).map fun p=>jY S0 p.1)=((S0.filter fun p=>!inS D p.1).map fun p=>jY S p.1):=by kernel_rfl)
  (h4:(E.filter fun p=>p.2.isSome).map (fun p=>kD B p.1)=(E.filter fun p=>p.2.isSome).map (·.2):=by kernel_rfl) (h5:B.drop (B.length-B0.length)=B0:=by kernel_rfl) (h6:((B.take (B.length-B0.length)).all fun p=>inB E p.1)=true:=by kernel_rfl):SK P n ops (KF S0 B0 D E) S B [] :=
 ⟨⟨S,B⟩,.nil,⟨h1,h2⟩,⟨h4,h5,h6⟩⟩
theorem wZ(h1:D.map (fun p=>jY S p.1)=D.map (·.2):=by kernel_rfl)(h2:S.drop (S.length-S0.length)=S0:=by kernel_rfl)(h3:((S.take (S.length-S0.length)).all fun p=>inS D p.1||isJ (jY S0 p.1))=true:=by kernel_rfl)
  (h4:(E.filter fun p=>p.2.isSome).map (fun p=>kD B p.1)=(E.filter fun p=>p.2.isSome).map (·.2):=by kernel_rfl) (h5:B.drop (B.length-B0.length)=B0:=by kernel_rfl) (h6:((B.take (B.length-B0.length)).all fun p=>inB E p.1)=true:=by kernel_rfl) (h7:orderB ops acc0=true:=by kernel_rfl):DK P n ops (KS S0 B0 D E) news acc0 S B [] :=
 ⟨⟨S,B⟩,[],.nil,by simpa using h7,⟨h1,h2,h3⟩,⟨h4,h5,h6⟩⟩
theorem kx{id:Nat}{Q:Exit→PS→Prop}(D:SL)(E:BS)(h:SK P n l.toArray (KS S0 B0 D E) S0 B0 l)(hq:Q .normal ⟨up D S0,upB E B0⟩)(hp:l.all yB=true:=by kernel_rfl):qU P n (.region id l.toArray false) Q ⟨S0,B0⟩:=fun C a w N hn hs=>by
 obtain ⟨st1,h1,h2,h3⟩:=h
 subst hn
 exact wpIn_region_lit (steps_sound (C:=C) h1 hp rfl (fun a' w' hs'=>⟨_,sim_get h2.get (fun k c=>h3.get) C a' w' hs',hq⟩) hs)
theorem kf{id:Nat}{Q:Exit→PS→Prop}(D:SL)(E:BS)(h:SK P n l.toArray (KF S0 B0 D E) S0 B0 l)(hq:Q .normal ⟨up D S0,upB E B0⟩)(hp:l.all yB=true:=by kernel_rfl):qU P n (.region id l.toArray false) Q ⟨S0,B0⟩:=fun C a w N hn hs=>by
 obtain ⟨st1,h1,h2,h3⟩:=h
 subst hn
 exact wpIn_region_lit (steps_sound (C:=C) h1 hp rfl (fun a' w' hs'=>⟨_,sim_get h2.get (fun k c=>h3.get) C a' w' hs',hq⟩) hs)
theorem kd{id:Nat}{Q:Exit→PS→Prop}(D:SL)(E:BS)(hm:P.follows .mixedOrders=true)(h:DK P n l.toArray (KS S0 B0 D E) [] [] S0 B0 l)(hq:Q .normal ⟨up D S0,upB E B0⟩)(hb:backB l.toArray=true:=by kernel_rfl)(hp:l.all yB=true:=by kernel_rfl):qU P n (.region id l.toArray true) Q ⟨S0,B0⟩:=fun C a w N hn hs=>by
 obtain ⟨st1,acc,h1,h0,h2,h3⟩:=h
 subst hn
 exact wpIn_region_any hm (draw_sound (C:=C) rfl (by simpa using h1) (by simpa using h0) hb (by simpa using hp) (fun a' w' hs'=>⟨_,sim_get h2.get (fun k c=>h3.get) C a' w' hs',hq⟩) hs)
end
theorem wE{x:SV}(h:qW P o (jY S) [] x)(r:DK P n ops K news (acc0++[([],[])]) ((dO o,x)::S) B l)(g:goK n ops S o=true:=by kernel_rfl)(hn:clearR ops S o news x=true:=by kernel_rfl):DK P n ops K news acc0 S B (o::l):=by
 obtain ⟨st1,acc,r1,r0,r2⟩:=r
 obtain ⟨hd,hg,hb⟩:=yV g
 have hs:=nM.e (P:=P) (n:=n) (ops:=ops) (news:=news) (st:=⟨S,B⟩) (o:=o) h hg (by rw[hd];exact hb) (by simp) hn
 rw[hd] at hs
 exact ⟨st1,([],[])::acc,.cons hs r1,by simpa using r0,r2⟩
theorem wM(r:DK P n ops K news (acc0++[([],[])]) ((dO o,mvV S o)::S) B l)(h:mvK o=true:=by kernel_rfl)(g:goK n ops S o=true:=by kernel_rfl)(hn:clearR ops S o news (mvV S o)=true:=by kernel_rfl):DK P n ops K news acc0 S B (o::l):=wE (kZ h) r g hn
theorem wR{k:Nat}{x:SV}(h:ROk P o S B k x)(r:DK P n ops K news (acc0++[([k],[])]) ((dO o,x)::S) B l)(g:goK n ops S o=true:=by kernel_rfl)(hn:clearR ops S o news x=true:=by kernel_rfl):DK P n ops K news acc0 S B (o::l):=by
 obtain ⟨st1,acc,r1,r0,r2⟩:=r
 obtain ⟨cs,h,hbk⟩:=h
 obtain ⟨hd,hg,hb⟩:=yV g
 have hs:=nM.e (P:=P) (n:=n) (ops:=ops) (news:=news) (st:=⟨S,B⟩) (o:=o) h hg (by rw[hd];exact hb) (by simpa using hbk) hn
 rw[hd] at hs
 exact ⟨st1,([k],[])::acc,.cons hs r1,by simpa using r0,r2⟩
theorem wN{k:Nat}{cs:List SV}{x:SV}(h:NOk P o (jY S) k cs x)(r:DK P n ops K (k::news) (acc0++[([],[k])]) ((dO o,x)::S) ((k,some cs)::B) l)(g:goK n ops S o=true:=by kernel_rfl)(hf:zY k ⟨S,B⟩=true:=by kernel_rfl)(hn:clear1 news x=true:=by kernel_rfl)(hc:clearL news cs=true:=by kernel_rfl):DK P n ops K news acc0 S B (o::l):=by
 obtain ⟨st1,acc,r1,r0,r2⟩:=r
 obtain ⟨hd,hg,hb⟩:=yV g
 have hs:=nM.n (P:=P) (n:=n) (ops:=ops) (news:=news) (st:=⟨S,B⟩) (o:=o) h hg (by rw[hd];exact hb) hf hn hc
 rw[hd] at hs
 exact ⟨st1,([],[k])::acc,.cons hs r1,by simpa using r0,r2⟩
theorem wH{k:Nat}{cs:List SV}{x:SV}(h:NOk P o (jY S) k cs x)(r:DK P n ops K (k::news) (acc0++[([],[k])]) ((dO o,x)::S) ((k,some cs)::B) l)(hc:clearL news cs=true)(g:goK n ops S o=true:=by kernel_rfl)(h1:(S.all fun p=>!p.2.names k)=true:=by kernel_rfl)
  (h2:FrB k B:=by repeat first | exact frb_nil _ | refine frb_map rfl ?_ | refine frb_d rfl ?_ | refine frb_cs rfl rfl ?_ | refine frb_none rfl ?_) (hn:clear1 news x=true:=by kernel_rfl):DK P n ops K news acc0 S B (o::l):=wN h r g (freshB_of h1 h2) hn hc
theorem wT{k:Nat}{cs:List SV}(h:TK P o S B k cs)(r:DK P n ops K news (acc0++[([k],[k])]) S ((k,some cs)::B) l)(g:goT ops S o=true:=by kernel_rfl)(hc:clearLR ops S o news cs=true:=by kernel_rfl):DK P n ops K news acc0 S B (o::l):=by
 obtain ⟨st1,acc,r1,r0,r2⟩:=r
 obtain ⟨old,h,hb⟩:=h
 obtain ⟨hd,hg⟩:=goT_spec g
 have hs:=nM.t (P:=P) (n:=n) (ops:=ops) (news:=news) (st:=⟨S,B⟩) (o:=o) h hg (by rw[hd];rfl) hb hc
 rw[hd] at hs
 exact ⟨st1,([k],[k])::acc,.cons hs r1,by simpa using r0,r2⟩
theorem wK(r:DK P n ops K news (acc0++[([],[])]) ((dO o,.d (.tup []))::S) B l)(g:goF n ops S o=true:=by kernel_rfl):DK P n ops K news acc0 S B (o::l):=by
 obtain ⟨st1,acc,r1,r0,r2⟩:=r
 obtain ⟨hd,hg,hb⟩:=goF_spec g
 have hs:=nM.skip (P:=P) (n:=n) (ops:=ops) (news:=news) (st:=⟨S,B⟩) (o:=o) hg (by rw[hd];exact hb)
 rw[hd] at hs
 exact ⟨st1,([],[])::acc,.cons hs r1,by simpa using r0,r2⟩
end
end Go.Fid
