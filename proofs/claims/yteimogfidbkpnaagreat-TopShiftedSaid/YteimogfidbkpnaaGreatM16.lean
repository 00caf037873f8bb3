/- Part 16 of a proof: rules, plain facts, and functions walked. -/
import Derived.Test.YteimogfidbkpnaaGreatM15
import Derived.Test.YteimogfidbkpnaaGreatM14
set_option linter.all false
set_option maxRecDepth 4000
namespace Go.Fid
def SV.low:SV→Bool
 |.d _=>true
 |.own j _ _ _=>Nat.beq j 0
 |.ref j _=>Nat.beq j 0
 |.junk=>true
 |_=>false
theorem low_sget{S:SL}(h:(S.all fun p=>p.2.low)=true)(t:Nat):(jW S t).low=true:=by
 induction S with
 |nil=>rfl
 |cons p S ih=>
  obtain ⟨j,x⟩:=p
  simp only[List.all_cons,Bool.and_eq_true] at h
  rw[qO]
  split
  ·exact h.1
  ·exact ih h.2
theorem qG.low{w:World}{D:qE}{β β':qD}{v:Value}{x:SV}(h0:β' 0=β 0)(hx:x.low=true)(h:qG w D β v x):qG w D β' v x:=by
 cases x with
 |d x=>exact h
 |own j t s n=>
  have e:j=0:=Nat.eq_of_beq_eq_true hx
  subst e
  rcases h with ⟨k1,k2⟩ | ⟨b,cap,vs,k1,k2⟩
  ·exact .inl ⟨h0.trans k1,k2⟩
  ·exact .inr ⟨b,cap,vs,h0.trans k1,k2⟩
 |ref j o=>
  have e:j=0:=Nat.eq_of_beq_eq_true hx
  subst e
  obtain ⟨b,k1,k2⟩:=h
  exact ⟨b,h0.trans k1,k2⟩
 |junk=>trivial
 |_=>cases hx
theorem tabA_get{E s i:Nat}{rows:List (List jQ)}{c:List SV}(hi:kD (gX E s rows) i=some c):(i=0∧c=nA E s 2 rows)∨∃ j r,i=j+2∧rows[j]?=some r∧c=(qA r).map SV.d:=by
 have hi:kD ((0,some (nA E s 2 rows))::tabB 2 rows) i=some c:=hi
 rw[jK] at hi
 split at hi
 ·rename_i e;injection hi with hi;exact .inl ⟨e.symm,hi.symm⟩
 ·rw[tabB_get] at hi
  split at hi
  ·rw[Option.map_eq_some_iff] at hi
   obtain ⟨r,hr,rfl⟩:=hi
   exact .inr ⟨i-2,r,by omega,hr,rfl⟩
  ·cases hi
section
variable {P:Program} {S S':SL} {B:BS}
theorem tab_init{E s n:Nat}(h0:kD B 0=some ((List.replicate n ()).map fun _=>SV.d (.val (.slice none 0 0))))(hs1:S'.map (fun p=>jW S p.1)=S'.map (·.2))(hn:(S'.all fun p=>p.2.low)=true):kB ⟨S,B⟩ ⟨S',gX E s (List.replicate n [])⟩:=fun C a w ⟨D,β,hs⟩=>by
 rw[List.map_replicate] at h0
 have q0:(fun i=>if i=0 then β 0 else none:qD) 0=β 0:=rfl
 have q1:∀ i,i≠0→(fun i=>if i=0 then β 0 else none:qD) i=none:=fun i hi=>by simp [hi]
 generalize (fun i=>if i=0 then β 0 else none:qD)=β' at q0 q1
 have only:∀ {i b},β' i=some b→i=0:=fun {i b} e=>Classical.byContradiction fun h=>by rw[q1 i h] at e;cases e
 refine ⟨D,β',hs.base,⟨fun i c hi=>?_,fun i1 i2 c1 c2 g1 g2 b e1 e2=>?_⟩,fun i c hi b e=>?_,fun u=>?_⟩
 ·rcases tabA_get hi with ⟨rfl,rfl⟩ | ⟨j,r,rfl,hr,rfl⟩
  ·rcases hs.mem.ok 0 _ h0 with ⟨g1,g2⟩ | ⟨b,vs,T,g1,g2,g3,g4,g5⟩
   ·refine .inl ⟨q0.trans g1,?_⟩
    have hz:n=0:=by have:=congrArg List.length g2;simpa using this
    subst hz;rfl
   ·refine .inr ⟨b,vs,T,q0.trans g1,g2,by rw[cM];simpa using g3,fun i x hx=>?_,g5⟩
    rw[eD,Option.map_eq_some_iff] at hx
    obtain ⟨r',hr',rfl⟩:=hx
    rw[List.getElem?_replicate] at hr'
    split at hr'
    ·rename_i hlt
     injection hr' with hr'
     subst hr'
     obtain ⟨u,e1,e2,e3⟩:=g4 i (.d (.val (.slice none 0 0))) (by rw[List.getElem?_replicate,if_pos hlt])
     exact ⟨u,e1,e2,.inl ⟨q1 _ (by omega),rfl,uF e3⟩⟩
    ·cases hr'
  ·rw[List.getElem?_replicate] at hr
   split at hr
   ·injection hr with hr
    subst hr
    exact .inl ⟨q1 _ (by omega),rfl⟩
   ·cases hr
 ·rw[only e1,only e2]
 ·have:=only e
  subst this
  exact hs.high 0 _ h0 b (q0.symm.trans e)
 ·show qG w D β' _ (jW S' u)
  have hl:=low_sget hn u
  rcases uK hs1 u with h | h
  ·rw[h];trivial
  ·have h2:=hs.slots u
   rw[h] at hl ⊢
   exact h2.low q0 hl
theorem tab_st{o:Oper}{T E s:TypeId}{x y:Operand}{rows:List (List jQ)}{j m:Nat}(hs:kZ P T=some (false,1))(hj:j<rows.length)(ho:o.op=.store T x y:=by exact rfl)(hx:ev (jW S) x=.ref 0 j:=by exact rfl)(hy:ev (jW S) y=.own 1 E s m:=by exact rfl)(hb:kD B 0=some (nA E s 2 rows):=by exact rfl) :
  TK P o S B 0 (patch (nA E s 2 rows) j [.own 1 E s m]) :=
 ⟨nA E s 2 rows,t_store ho hx hy hs (.inr ⟨⟨_,_,_,_,rfl⟩,rfl⟩) rfl (by rw[cM];exact hj),hb⟩
theorem tab_put{E s m j:Nat}{rows:List (List jQ)}{r:List jQ}(hm:r.length=m)(hj:j<rows.length)(h0:kD B 0=some (patch (nA E s 2 rows) j [.own 1 E s m]))
  (h1:kD B 1=some ((qA r).map .d)) (hr:∀ (q:Nat) r',q≠j→rows[q]?=some r'→kD B (q+2)=some ((qA r').map .d)) (hs1:S'.map (fun p=>jW S p.1)=S'.map (·.2)) (hn:(S'.all fun p=>p.2.low)=true) :
  kB ⟨S,B⟩ ⟨S',gX E s (rows.set j r)⟩:=fun C a w ⟨D,β,hs⟩=>by
 subst hm
 have hβ:∀ i,i≠j+2→(fun i=>if i=j+2 then β 1 else β i:qD) i=β i:=fun i hi=>by simp [hi]
 have hβ0:(fun i=>if i=j+2 then β 1 else β i:qD) (j+2)=β 1:=by simp
 generalize (fun i=>if i=j+2 then β 1 else β i:qD)=β' at hβ hβ0
 have at_:∀ {q r'},(rows.set j r)[q]?=some r'→(q=j∧r'=r)∨(q≠j∧rows[q]?=some r'):=fun {q r'} h=>by
  rw[List.getElem?_set] at h
  by_cases e:j=q
  ·subst e;rw[if_pos rfl,if_pos hj] at h;injection h with h;exact .inl ⟨rfl,h.symm⟩
  ·rw[if_neg e] at h;exact .inr ⟨fun x=>e x.symm,h⟩
 have src:∀ {i c},kD (gX E s (rows.set j r)) i=some c→∃ q c',kD B q=some c'∧β' i=β q∧(i=j+2→q=1)∧(i≠j+2→q=i)∧q≠j+2∧i≠1:=fun {i c} hi=>by
  rcases tabA_get hi with ⟨rfl,_⟩ | ⟨q,r',rfl,hq,_⟩
  ·exact ⟨0,_,h0,hβ _ (by omega),fun e=>by omega,fun _=>rfl,by omega,by omega⟩
  ·rcases at_ hq with ⟨rfl,_⟩ | ⟨hne,hq⟩
   ·exact ⟨1,_,h1,hβ0,fun _=>rfl,fun e=>absurd rfl e,by omega,by omega⟩
   ·exact ⟨q+2,_,hr q r' hne hq,hβ _ (by omega),fun e=>by omega,fun _=>rfl,by omega,by omega⟩
 refine ⟨D,β',hs.base,⟨fun i c hi=>?_,fun i1 i2 c1 c2 q1 q2 b e1 e2=>?_⟩,fun i c hi b e=>?_,fun u=>?_⟩
 ·rcases tabA_get hi with ⟨rfl,rfl⟩ | ⟨q,r',rfl,hq,rfl⟩
  ·have hpl:(patch (nA E s 2 rows) j [SV.own 1 E s r.length]).length=rows.length:=by
    rw[zV (by rw[cM];exact hj),cM]
   rcases hs.mem.ok 0 _ h0 with ⟨_,h⟩ | ⟨b,vs,T,g1,g2,g3,g4,g5⟩
   ·have h9:rows.length=0:=by rw[← hpl,h];rfl
    omega
   ·refine .inr ⟨b,vs,T,(hβ 0 (by omega)).trans g1,g2,by rw[cM,List.length_set];rw[hpl] at g3;exact g3,fun i x hx=>?_,g5⟩
    rw[eD,Option.map_eq_some_iff] at hx
    obtain ⟨r',hr',rfl⟩:=hx
    have pg:=yK (l:=nA E s 2 rows) (new:=[SV.own 1 E s r.length]) (off:=j) (by rw[cM];exact hj) i
    rw[List.length_singleton] at pg
    rcases at_ hr' with ⟨rfl,rfl⟩ | ⟨hne,hq⟩
    ·rw[if_neg (by omega),if_pos (by omega),Nat.sub_self] at pg
     obtain ⟨u,e1,e2,e3⟩:=g4 i _ pg
     refine ⟨u,e1,e2,?_⟩
     rw[Nat.add_comm]
     rcases e3 with ⟨k1,k2,k3⟩ | ⟨b',cap',vs',k1,k2⟩
     ·exact .inl ⟨hβ0.trans k1,k2,k3⟩
     ·exact .inr ⟨b',cap',vs',hβ0.trans k1,k2⟩
    ·have pg2:(patch (nA E s 2 rows) j [SV.own 1 E s r.length])[i]?=some (.own (2+i) E s r'.length):=by
      rw[pg,eD,hq]
      split
      ·rfl
      ·rw[if_neg (by omega)];rfl
     obtain ⟨u,e1,e2,e3⟩:=g4 i _ pg2
     exact ⟨u,e1,e2,e3.frame hβ (by simp only[SV.names];rw[← Bool.not_eq_true];exact fun e=>by have:=Nat.eq_of_beq_eq_true e;omega)⟩
  ·rcases at_ hq with ⟨rfl,rfl⟩ | ⟨hne,hq⟩
   ·rcases hs.mem.ok 1 _ h1 with ⟨g1,g2⟩ | ⟨b,vs,T,g1,g2,g3,g4,g5⟩
    ·exact .inl ⟨hβ0.trans g1,g2⟩
    ·refine .inr ⟨b,vs,T,hβ0.trans g1,g2,g3,fun i x hx=>?_,g5⟩
     obtain ⟨u,e1,e2,e3⟩:=g4 i x hx
     rw[List.getElem?_map,Option.map_eq_some_iff] at hx
     obtain ⟨d,_,rfl⟩:=hx
     exact ⟨u,e1,e2,e3⟩
   ·exact (hs.mem.ok _ _ (hr q r' hne hq)).frame hβ (by omega) (yT _ id _)
 ·obtain ⟨p1,d1,g1,b1,n1,m1,_,w1⟩:=src q1
  obtain ⟨p2,d2,g2,b2,n2,m2,_,w2⟩:=src q2
  have hp:=hs.mem.inj p1 p2 d1 d2 g1 g2 b (b1.symm.trans e1) (b2.symm.trans e2)
  by_cases x1:i1=j+2<;>by_cases x2:i2=j+2
  ·omega
  ·have:=n1 x1;have:=m2 x2;omega
  ·have:=m1 x1;have:=n2 x2;omega
  ·have:=m1 x1;have:=m2 x2;omega
 ·obtain ⟨p1,d1,g1,b1,_⟩:=src hi
  exact hs.high _ _ g1 b (b1.symm.trans e)
 ·show qG w D β' _ (jW S' u)
  have hl:=low_sget hn u
  rcases uK hs1 u with h | h
  ·rw[h];trivial
  ·have h2:=hs.slots u
   rw[h] at hl ⊢
   exact h2.low (hβ 0 (by omega)) hl
end
section
variable {α:Type} {F:α→jQ}
def dF(F:α→jQ)(rows:List (List α)):List (List jQ):=rows.map (List.map F)
theorem flat_oneF(hF:∀ g,(F g).cells=[F g]):∀ L:List α,(qA (L.map F)).map SV.d=L.map fun g=>SV.d (F g)
 |[]=>rfl
 |x::L=>by
  have ih:=flat_oneF hF L
  rw[List.map_cons,gN,List.map_append,ih,hF x];rfl
theorem eW(rows:List (List α)):(dF F rows).length=rows.length:=List.length_map _
theorem tdF_at(rows:List (List α))(j:Nat):(dF F rows).getD j []=(rows.getD j []).map F:=by
 unfold dF
 rw[List.getD_eq_getElem?_getD,List.getD_eq_getElem?_getD,List.getElem?_map]
 cases rows[j]?<;>rfl
theorem tdF_get{rows:List (List α)}{j:Nat}{r:List α}(h:rows[j]?=some r):(dF F rows)[j]?=some (r.map F):=by
 unfold dF;rw[List.getElem?_map,h];rfl
theorem tdF_set(rows:List (List α))(j:Nat)(r:List α):(dF F rows).set j (r.map F)=dF F (rows.set j r):=by
 unfold dF;rw[List.map_set]
theorem tdF_cells(hF:∀ g,(F g).cells=[F g]){rows:List (List α)}:∀ r∈dF F rows,∀ e∈r,e.cells.length=1:=fun r hr e he=>by
 obtain ⟨l,_,rfl⟩:=List.mem_map.1 hr
 obtain ⟨x,_,rfl⟩:=List.mem_map.1 he
 rw[hF];rfl
theorem cA(hF:∀ g,(F g).cells=[F g]){E j:Nat}{rows:List (List α)}{r:List α}(h:rows[j]?=some r):kD (gX E 1 (dF F rows)) (j+2)=some (r.map fun g=>SV.d (F g)):=by
 rw[tabA_row (tdF_get h),flat_oneF hF]
variable {P:Program} {S S':SL} {B:BS}
theorem tab_initF(F:α→jQ){E n:Nat}(h0:kD B 0=some ((List.replicate n ()).map fun _=>SV.d (.val (.slice none 0 0))))(hs1:S'.map (fun p=>jW S p.1)=S'.map (·.2))(hn:(S'.all fun p=>p.2.low)=true){rows:List (List α)}(hr:rows=List.replicate n []):kB ⟨S,B⟩ ⟨S',gX E 1 (dF F rows)⟩:=by
 have h:=tab_init (E:=E) (s:=1) h0 hs1 hn
 subst hr
 have e:dF F (List.replicate n [])=List.replicate n []:=by unfold dF;rw[List.map_replicate];rfl
 rw[e];exact h
theorem tab_putF(hF:∀ g,(F g).cells=[F g]){E m j:Nat}{rows rows':List (List α)}{r:List α}{x y:Option (List SV)}(hm:r.length=m)(hj:j<rows.length)(h':rows.set j r=rows')(hx:x=some (patch (nA E 1 2 (dF F rows)) j [.own 1 E 1 m]))(hy:y=some (r.map fun g=>SV.d (F g)))
  (hs1:S'.map (fun p=>jW S p.1)=S'.map (·.2)) (hn:(S'.all fun p=>p.2.low)=true):kB ⟨S,(0,x)::(1,y)::gX E 1 (dF F rows)⟩ ⟨S',gX E 1 (dF F rows')⟩:=by
 subst h' hx hy
 rw[← tdF_set]
 refine tab_put (by rw[List.length_map];exact hm) (by rw[eW];exact hj) rfl ?_ (fun q r' hq h=>tabA_rows q r' h) hs1 hn
 rw[jK,if_neg (by decide),jK,if_pos rfl,flat_oneF hF]
theorem tab_setF(hF:∀ g,(F g).cells=[F g]){E j:Nat}{rows rows':List (List α)}{r:List α}(h':rows.set j r=rows')(hr:r.length=(rows.getD j []).length)(hj:j<rows.length)(hs:S'.map (fun p=>jW S p.1)=S'.map (·.2)) :
  kB ⟨S,(j+2,some (r.map fun g=>SV.d (F g)))::gX E 1 (dF F rows)⟩ ⟨S',gX E 1 (dF F rows')⟩:=by
 subst h'
 rw[← flat_oneF hF,← tdF_set]
 exact tab_set (by rw[List.length_map,tdF_at,List.length_map];exact hr) (by rw[eW];exact hj) hs
theorem tab_pubF(hF:∀ g,(F g).cells=[F g]){E:Nat}{rows:List (List α)}:kB ⟨S,gX E 1 (dF F rows)⟩ ⟨S,[(0,some (rows.map fun r=>SV.d (.sl E 1 (r.map F))))]⟩:=by
 have hp:=tab_pub (S:=S) (E:=E) (s:=1) (dF F rows) (tdF_cells hF)
 have e:(dF F rows).map (fun r=>SV.d (.sl E 1 r))=rows.map fun r=>SV.d (.sl E 1 (r.map F)):=by unfold dF;rw[List.map_map];rfl
 rw[← e];exact hp
theorem orderB_or(ops:Array Oper)(acc:List (List Nat × List Nat))(h:(Nat.beq acc.length ops.size&&allPairs ops.size fun i j=>ancB ops ops.size j i||!(needB ops acc i j))=true):orderB ops acc=true:=by
 unfold orderB
 rw[← h]
 congr 1
 congr 1
 funext i j
 exact Bool.or_comm _ _
end
theorem vA.take{w:World}{D:qE}{β:qD}{k n:Nat}{cs:List SV}(h:vA w D β k cs):vA w D β k (cs.take n):=by
 rcases h with ⟨h1,h2⟩ | ⟨b,vs,T,g1,g2,g3,g4,g5⟩
 ·subst h2;exact .inl ⟨h1,by simp⟩
 ·refine .inr ⟨b,vs,T,g1,g2,by rw[List.length_take];omega,fun i x hx=>?_,g5⟩
  rw[List.getElem?_take] at hx
  split at hx
  ·exact g4 i x hx
  ·cases hx
theorem NOk.take{P:Program}{o:Oper}{S:Nat→SV}{k:Nat}{cs:List SV}{x:SV}(n:Nat)(h:NOk P o S k cs x):NOk P o S k (cs.take n) x:=fun a w D β Q hop hD=>
 Oper.wp_mono (fun a' w' ⟨v,D',b,h1,h2,h3,h4,h5,h6,h7,h8⟩=>⟨v,D',b,h1,h2,h3,h4,h5,h6,h7.take,h8⟩) (h a w D β Q hop hD)
theorem oMk0{P:Program}{o:Oper}{T:TypeId}{S:Nat→SV}{E:TypeId}{s bytes:Nat}{kl kc:IntKind}{n:Int}{zv:List Value}{zd:List jQ}{x y:Operand}(b:Nat)(M:Nat)(hT:uW P T=some (E,s))(hz:uL P E=some zv)(hzd:gD zv zd)(hby:xK P E=some bytes)(ho:o.op=.makeSlice T x y:=by exact rfl)
  (hl:ev S x=.d (.val (.int kl ((0:Nat):Int))):=by exact rfl) (hc:ev S y=.d (.val (.int kc n)):=by exact rfl) (hcM:n=((M:Nat):Int):=by omega) (hzl:Nat.beq zd.length s=true:=by kernel_rfl) (hb:bytes*M≤281474976710656:=by omega) (hm:M≤maxLen:=by unfold maxLen;omega) :
  NOk P o S b [] (.own b E s 0):=by
 subst hcM
 exact (n_mks b ho hT hz hzd (Nat.eq_of_beq_eq_true hzl) hby hl hc (Nat.zero_le _) hb hm rfl).take 0
section
variable {P:Program} {n:Fr} {ops:Array Oper} {C:eP}
theorem steps_sound2{st st':PS}{l l2:List Oper}(h:Steps P n ops st l st')(hp:l.all xP=true)(hn:C.n=n){N:Nat}{Q:Exit→Act→World→Prop}(hk:∀ a' w',nR C a' w' st'→wpListIn (fen n) N P ops Q l2 a' w'):∀ {a:Act} {w:World},nR C a w st→wpListIn (fen n) N P ops Q (l++l2) a w:=by
 induction h with
 |nil=>intro a w hs;exact hk a w hs
 |cons h hr ih=>
  intro a w hs
  simp only[List.all_cons,Bool.and_eq_true] at hp
  refine wpListIn_step fun K hK=>?_
  have h1:=step_sound h hn hs (Q:=Q) fun a' w' hs'=>hK a' w' (ih hp.2 hk hs')
  split
  ·rename_i e;rw[if_pos e] at h1;exact fQ hp.1 h1
  ·rename_i e;rw[if_neg e] at h1;exact ⟨fun _ _=>trivial,h1⟩
end
section
variable {P:Program} {n:Fr} {S0:SL} {B0:BS}
theorem kr_cut{id:Nat}{Q:Exit→PS→Prop}{l:List Oper}(i:Nat)(S1:SL)(B1:BS)(S2:SL)(B2:BS)(t:Nat){k T s m:Nat}(h1:SK P n l.toArray (KI S1 B1) S0 B0 (l.take i))(ht:jW S1 t=.own k T s m)
  (h2:∀ ao cap,SK P n l.toArray (KI S2 B2) ((t,.ownx k T s m (.slice ao m cap))::S1) B1 (l.drop i)) (hq:Q .normal ⟨S2,B2⟩) (hp:l.all xP=true:=by kernel_rfl):qS P n (.region id l.toArray false) Q ⟨S0,B0⟩:=fun C a w N hn hs=>by
 obtain ⟨st1,g1,g2⟩:=h1
 subst hn
 have hp1:(l.take i).all xP=true:=List.all_eq_true.2 fun x hx=>List.all_eq_true.1 hp x (List.mem_of_mem_take hx)
 have hp2:(l.drop i).all xP=true:=List.all_eq_true.2 fun x hx=>List.all_eq_true.1 hp x (List.mem_of_mem_drop hx)
 refine wpIn_region_lit ?_
 have key:=steps_sound2 (C:=C) (l2:=l.drop i) (N:=N) (Q:=fun e a' w'=>∃ st',nR C a' w' st'∧Q e st') g1 hp1 rfl (fun a' w' hs'=>?_) hs
 ·rw[List.take_append_drop] at key;exact key
 ·obtain ⟨D,β,hx⟩:=g2 C a' w' hs'
  have hr:=hx.slots t
  dsimp only at hr
  rw[ht] at hr
  obtain ⟨ao,cap,hv⟩:∃ ao cap,a'.tmps.getD t undef=.slice ao m cap:=by
   rcases hr with ⟨_,q2,q3⟩ | ⟨b,cap,vs,_,q3,_⟩
   ·exact ⟨_,_,by rw[q3,q2]⟩
   ·exact ⟨_,_,q3⟩
  obtain ⟨st2,k1,k2⟩:=h2 ao cap
  refine dI (C:=C) k1 hp2 rfl (fun a'' w'' hs''=>⟨_,k2 C a'' w'' hs'',hq⟩) ⟨D,β,hx.base,hx.mem,hx.high,fun u=>?_⟩
  show qG w' D β _ (jW ((t,_)::S1) u)
  rw[qO]
  split
  ·rename_i e;subst e;exact ⟨hv,hr⟩
  ·exact hx.slots u
end
section
variable {P:Program} {S S':SL} {B B':BS} {o:Oper}
theorem oOx(t:Nat){k T s m:Nat}{u:Value}{x:SV}(h:qX P o (jW ((t,.d (.val u))::S)) [] x)(ht:jW S t=.ownx k T s m u:=by kernel_rfl):qX P o (jW S) [] x:=fun a w D β Q hop hr hD=>h a w D β Q (fun y hy=>by
 have hy':=hop y hy
 cases y with
 |tmp q=>
  show qG w D β _ (jW ((t,_)::S) q)
  rw[qO]
  split
  ·rename_i e
   subst e
   have h2:qG w D β _ (jW S t):=hy'
   rw[ht] at h2
   have e2:_=u:=h2.1
   rw[e2]
   exact uT.val u
  ·exact hy'
 |_=>exact hy') hr hD
theorem cell_own(t j:Nat){k T s m:Nat}{u:Value}{pre:List SV}(ht:jW S t=.ownx k T s m u)(hj:kD B j=some (pre++[.d (.val u)]))(hs1:S'.map (fun p=>jW S p.1)=S'.map (·.2))(hB:∀ i c,kD B' i=some c→(i=j∧c=pre++[.own k T s m])∨kD B i=some c):kB ⟨S,B⟩ ⟨S',B'⟩:=fun C a w ⟨D,β,hs⟩=>by
 have hr:=hs.slots t
 dsimp only at hr
 rw[ht] at hr
 have hown:qG w D β u (.own k T s m):=by
  obtain ⟨e,h⟩:=hr
  rw[e] at h
  exact h
 have src:∀ {i c},kD B' i=some c→∃ c',kD B i=some c':=fun {i c} h=>by
  rcases hB i c h with ⟨e,_⟩ | h
  ·exact ⟨_,e▸hj⟩
  ·exact ⟨_,h⟩
 refine ⟨D,β,hs.base,⟨fun i c hi=>?_,fun i1 i2 c1 c2 q1 q2 b e1 e2=>?_⟩,fun i c hi b e=>?_,fun q=>?_⟩
 ·rcases hB i c hi with ⟨rfl,rfl⟩ | h
  ·rcases hs.mem.ok _ _ hj with ⟨_,h⟩ | ⟨b,vs,T',g1,g2,g3,g4,g5⟩
   ·simp at h
   ·refine .inr ⟨b,vs,T',g1,g2,by simpa using g3,fun q x hx=>?_,g5⟩
    by_cases hq:q<pre.length
    ·rw[List.getElem?_append_left hq] at hx
     exact g4 q x (by rw[List.getElem?_append_left hq];exact hx)
    ·have hql:=(List.getElem?_eq_some_iff.1 hx).1
     simp only[List.length_append,List.length_cons,List.length_nil] at hql
     have e:q=pre.length:=by omega
     subst e
     rw[List.getElem?_append_right (Nat.le_refl _),Nat.sub_self] at hx
     injection hx with hx
     subst hx
     obtain ⟨v,e1,e2,e3⟩:=g4 pre.length (.d (.val u)) (by rw[List.getElem?_append_right (Nat.le_refl _),Nat.sub_self];rfl)
     have ev:=uF e3
     subst ev
     exact ⟨v,e1,e2,hown⟩
  ·exact hs.mem.ok _ _ h
 ·obtain ⟨d1,h1⟩:=src q1
  obtain ⟨d2,h2⟩:=src q2
  exact hs.mem.inj _ _ _ _ h1 h2 b e1 e2
 ·obtain ⟨d,h⟩:=src hi
  exact hs.high _ _ h b e
 ·show qG w D β _ (jW S' q)
  rcases uK hs1 q with h | h
  ·rw[h];trivial
  ·rw[h];exact hs.slots q
theorem cell_own2(t j:Nat)(pre:List SV){B0:BS}{k T s m:Nat}{u:Value}{x y:Option (List SV)}(ht:jW S t=.ownx k T s m u)(hy:y=some (pre++[.d (.val u)]))(hs1:S'.map (fun p=>jW S p.1)=S'.map (·.2)):kB ⟨S,(j,y)::(j,x)::B0⟩ ⟨S',(j,some (pre++[.own k T s m]))::B0⟩ :=
 cell_own t j ht (by rw[jK,if_pos rfl];exact hy) hs1 fun i c h=>by
  rw[jK] at h
  split at h
  ·rename_i e;injection h with h;exact .inl ⟨e.symm,h.symm⟩
  ·rename_i e;right;rw[jK,if_neg e,jK,if_neg e];exact h
end
end Go.Fid
namespace Go.Proofs.YteimogfidbkpnaaGreat
open Go.Fid
theorem by3:xK Tryz.prog 3=some 8:=by kernel_rfl
theorem by22:xK Tryz.prog 22=some 24:=by kernel_rfl
theorem cb42:callB Tryz.prog 42=true:=by kernel_rfl
theorem cb43:callB Tryz.prog 43=true:=by kernel_rfl
theorem cb44:callB Tryz.prog 44=true:=by kernel_rfl
theorem el98:uW Tryz.prog 98=some (22,1):=by kernel_rfl
theorem zQ:kZ Tryz.prog 24=some (true,4):=by kernel_rfl
theorem ze3:uL Tryz.prog 3=some [.int .i64 0]:=by kernel_rfl
theorem ze22:uL Tryz.prog 22=some [.slice none 0 0]:=by kernel_rfl
theorem zn22:gD [.slice none 0 0] [.val (.slice none 0 0)]:=by simp [gD,Value.oneCell']
theorem zo3:gD [.int .i64 0] [.val (.int .i64 0)]:=by simp [gD,Value.oneCell']
theorem c_sq(w h:Nat)(mx:Int)(px:List Int)(hw:1≤w∧w≤100)(hh:1≤h∧h≤100)(hl:px.length=w*h)(hp:PxB px):jR Tryz.prog 43 [(jN (kG.mk ((w:Nat):Int) ((h:Nat):Int) mx px))] (.sl 22 1 (List.map yZ (vH gQ px w h))):=by
 have hlp:=hC hw.2 hh.2 hl
 have hF:∀ g:Int,(jT g).cells=[jT g]:=fun _=>rfl
 have key:∀ {a b:Nat},a<h→b<w→a*w+b<px.length:=fun ha hb=>hl▸dK ha hb
 have hf:=sq_M hp
 refine jH Tryz.func43 rfl cb43 rfl ?_
 show qS _ _ _ _ ⟨[(0,(.d (jN (kG.mk ((w:Nat):Int) ((h:Nat):Int) mx px))))],[]⟩
 refine jA<|kx [(1,(.ref 9 0))] [(9,some (bx (jN (kG.mk ((w:Nat):Int) ((h:Nat):Int) mx px))))] (zN (vL 9)<|zE (oNl 22 1)<|zZ) ?_
 refine jA<|kE (publishP (t:=1) (k:=9) (o:=0) (T:=1000001) (cs:=(jQ.cells (jN (kG.mk ((w:Nat):Int) ((h:Nat):Int) mx px)))) rfl rfl) ?_
 refine kr [(1,(.d (.cptr 1000001 (jQ.cells (jN (kG.mk ((w:Nat):Int) ((h:Nat):Int) mx px))) 0))),(3,(.own 0 22 1 (h+1)))] (gX 3 1 (dF jT (dU gQ px w h 0))) (zE (mZ zL)<|zE (xE qC)<|zE (qP (h+1))<|zN (oMk 0 (fun (_:Unit)=>jQ.val (.slice none 0 0)) () (h+1) (h+1) el98 ze22 zn22 by22)<|zM<|zI (tab_initF jT rfl (by kernel_rfl) (by kernel_rfl) prtT_0)) ?_
 refine jA<|kr [(1,(.d (.cptr 1000001 (jQ.cells (jN (kG.mk ((w:Nat):Int) ((h:Nat):Int) mx px))) 0))),(3,(.own 0 22 1 (h+1)))] (gX 3 1 (dF jT (dU gQ px w h 1))) (zM<|zE (mZ uC)<|zE (xE qC)<|zE (qP (w+1))<|zH (oMk 1 jT (0:Int) (w+1) (w+1) vI ze3 zo3 by3) (h2:=tabA_frb)<|zE (cH el98 0)<|zT (tab_st (rows:=dF jT (dU gQ px w h 0)) (j:=0) (m:=w+1) xT (by rw[eW,eM];omega))<|zI (tab_putF hF (r:=List.replicate (w+1) 0) (by rw[List.length_replicate]) (by rw[eM];omega) (mdT_new.trans (mdT_end (.inr rfl))) rfl rfl (by kernel_rfl) (by kernel_rfl))) ?_
 refine jA<|jA<|kx [(19,(jL h)),(20,(jL 0))] [] (zE (mZ zL)<|zE (xE qC)<|zM<|zY) ?_
 refine jD<|kP (α:=Nat) (fun y=>⟨[(1,(.d (.cptr 1000001 (jQ.cells (jN (kG.mk ((w:Nat):Int) ((h:Nat):Int) mx px))) 0))),(3,(.own 0 22 1 (h+1))),(19,(jL h)),(20,(jL y))],gX 3 1 (dF jT (dU gQ px w h (y+1)))⟩) (fun y=>y≤h) (fun y=>h-y) 0 (zU (uK (by kernel_rfl)) (fun _ _ h=>h)) (Nat.zero_le _) ?_
 intro y hy
 refine jA<|kx [(21,(vb (decide (((y:Nat):Int)<((h:Nat):Int)))))] [] (zE uE<|zY) ?_
 refine jA<|jG rfl (fun h1=>?_) (fun h1=>?_)
 ·replace h1:=vM h1
  have hyh:y<h:=by omega
  refine jC<|jA<|jD<|jA<|kx [(4,(jL y))] [] (zM<|zM<|zY) ?_
  refine jA<|kr [(1,(.d (.cptr 1000001 (jQ.cells (jN (kG.mk ((w:Nat):Int) ((h:Nat):Int) mx px))) 0))),(3,(.own 0 22 1 (h+1))),(4,(jL y)),(19,(jL h)),(20,(jL y))] (gX 3 1 (dF jT (mdT gQ px w h (y+1) 0))) (zM<|zM<|zE (qP (y+1))<|zE (mZ uC)<|zE (xE qC)<|zE (qP (w+1))<|zH (oMk 1 jT (0:Int) (w+1) (w+1) vI ze3 zo3 by3) (h2:=tabA_frb)<|zE (cH el98 (y+1))<|zT (tab_st (rows:=dF jT (dU gQ px w h (y+1))) (j:=y+1) (m:=w+1) xT (by rw[eW,eM];omega))<|zI (tab_putF hF (r:=List.replicate (w+1) 0) (by rw[List.length_replicate]) (by rw[eM];omega) mdT_new rfl rfl (by kernel_rfl) (by kernel_rfl))) ?_
  refine jA<|kx [(5,(vi (lnS gQ px w y 0)))] [] (zM<|zY) ?_
  refine jA<|kx [(32,(jL w)),(33,(jL 0))] [] (zE (mZ uC)<|zE (xE qC)<|zM<|zY) ?_
  refine jD<|kP (α:=Nat) (fun x=>⟨[(1,(.d (.cptr 1000001 (jQ.cells (jN (kG.mk ((w:Nat):Int) ((h:Nat):Int) mx px))) 0))),(3,(.own 0 22 1 (h+1))),(4,(jL y)),(5,(vi (lnS gQ px w y x))),(19,(jL h)),(20,(jL y)),(32,(jL w)),(33,(jL x))],gX 3 1 (dF jT (mdT gQ px w h (y+1) x))⟩) (fun x=>x≤w) (fun x=>w-x) 0 (zU (uK (by kernel_rfl)) (fun _ _ h=>h)) (Nat.zero_le _) ?_
  intro x hx
  refine jA<|kx [(34,(vb (decide (((x:Nat):Int)<((w:Nat):Int)))))] [] (zE uE<|zY) ?_
  refine jA<|jG rfl (fun h2=>?_) (fun h2=>?_)
  ·replace h2:=vM h2
   have hxw:x<w:=by omega
   have hk:=key hyh hxw
   have hpk:=hp (y*w+x)
   have hfk:=hf (y*w+x)
   have hs1:lnS gQ px w y (x+1)=lnS gQ px w y x+gQ (px.getD (y*w+x) 0):=rfl
   have hs2:nB gQ px w (x+1) (y+1)=nB gQ px w (x+1) y+lnS gQ px w y (x+1):=rfl
   have b1:=ln_M (w:=w) hf y (x:=x) (by omega)
   have b2:=ln_M (w:=w) hf y (x:=x+1) (by omega)
   have b3:=rs_M (w:=w) hf (x:=x+1) (y:=y) (by omega) (by omega)
   have b4:=rs_M (w:=w) hf (x:=x+1) (y:=y+1) (by omega) (by omega)
   have hq:gQ (px.getD (y*w+x) 0)=px.getD (y*w+x) 0*px.getD (y*w+x) 0:=rfl
   have hg1:=mdT_y (f:=gQ) (px:=px) (w:=w) (k:=x) (show y+1≤h by omega)
   have hg2:=mdT_p (f:=gQ) (px:=px) (w:=w) (k:=x) (show y+1≤h by omega)
   have r1:((dF jT (mdT gQ px w h (y+1) x)).getD (y+1) []).length=w+1:=by rw[tdF_at,List.length_map,List.getD_eq_getElem?_getD,hg1];exact midR_len
   have r2:((dF jT (mdT gQ px w h (y+1) x)).getD y []).length=w+1:=by rw[tdF_at,List.length_map,List.getD_eq_getElem?_getD,hg2];exact eJ _
   have tl:(dF jT (mdT gQ px w h (y+1) x)).length=h+1:=by rw[eW];exact mK _ _
   have ml:=midR_len (f:=gQ) (px:=px) (w:=w) (y:=y+1) (k:=x)
   have pl:=eJ (f:=gQ) (px:=px) (w:=w) y
   refine jC<|jA<|jD<|jA<|kx [(6,(jL x))] [] (zM<|zM<|zY) ?_
   refine jA<|kx [(7,(vi (px.getD (y*w+x) 0)))] [] (zE (mZ uY)<|zE (xE xT)<|zM<|zE (mZ uC)<|zE (xE qC)<|zE (oMl (y*w))<|zM<|zE (qP (y*w+x))<|zE (nG vI (y*w+x) (0:Int) (L:=px))<|zE (xE qC)<|zM<|zY) ?_
   refine jA<|kx [(5,(vi (lnS gQ px w y (x+1))))] [] (zM<|zM<|zM<|zE (nU (gQ (px.getD (y*w+x) 0)))<|zE (zAd (lnS gQ px w y (x+1)))<|zM<|zY) ?_
   refine kdr [(1,(.d (.cptr 1000001 (jQ.cells (jN (kG.mk ((w:Nat):Int) ((h:Nat):Int) mx px))) 0))),(3,(.own 0 22 1 (h+1))),(4,(jL y)),(5,(vi (lnS gQ px w y (x+1)))),(19,(jL h)),(20,(jL y)),(32,(jL w)),(33,(jL x))] (gX 3 1 (dF jT (mdT gQ px w h (y+1) (x+1)))) mo (wM<|wM<|wE (qP (y+1))<|wE (cH el98 (y+1))<|wR (tab_ld xT (by omega) r1)<|wM<|wE (qP (x+1))<|wM<|wM<|wE (cH el98 y)<|wR (tab_ld xT (by omega) r2)<|wM<|wE (qP (x+1))<|wE (cH vI (x+1))<|wR (oQr (jT ((preR gQ px w y).getD (x+1) 0)) (.val (.int .i64 (nB gQ px w (x+1) y))) (oLp (F:=jT) (L:=preR gQ px w y) qC (x+1) (0:Int) (hb:=by exact cA hF hg2)) (by rw[eU y (by omega)];rfl))<|wM<|wE (zAd (nB gQ px w (x+1) (y+1)))<|wE (cH vI (x+1))<|wT (oSp (F:=jT) (L:=midR gQ px w (y+1) x) qC (x+1) (nB gQ px w (x+1) (y+1)) (hb:=by exact cA hF hg1))<|wI (tab_setF hF (mdT_set (by omega)) (by rw[List.length_set,List.getD_eq_getElem?_getD,hg1];rfl) (by rw[show (mdT gQ px w h (y+1) x).length=h+1 from mK _ _];omega) (by kernel_rfl)) (orderB_or _ _ (by kernel_rfl))) ?_
   refine kx [(33,(jL (x+1)))] [] (zE (qP (x+1))<|zM<|zY) ?_
   exact ⟨x+1,(zU (uK (by kernel_rfl)) (fun _ _ h=>h)),by omega,by omega⟩
  ·replace h2:=vK h2
   have hxw:x=w:=by omega
   refine jV<|kr [(1,(.d (.cptr 1000001 (jQ.cells (jN (kG.mk ((w:Nat):Int) ((h:Nat):Int) mx px))) 0))),(3,(.own 0 22 1 (h+1))),(19,(jL h)),(20,(jL (y+1)))] (gX 3 1 (dF jT (dU gQ px w h (y+1+1)))) (zE (qP (y+1))<|zM<|zI (by rw[← mdT_end (f:=gQ) (px:=px) (h:=h) (.inl hxw)];exact (zU (uK (by kernel_rfl)) (fun _ _ h=>h)))) ?_
   exact ⟨y+1,(zU (uK (by kernel_rfl)) (fun _ _ h=>h)),by omega,by omega⟩
 ·replace h1:=vK h1
  have hyh:y=h:=by omega
  have e:dU gQ px w h (y+1)=vH gQ px w h:=by rw[hyh];exact prtT_end
  rw[e]
  refine jV<|jA<|kx [(2,(.own 0 22 1 (h+1)))] [] (zM<|zM<|zY) ?_
  refine kE (tab_pubF hF) ?_
  refine kE (vP (t:=2) (k:=0) (es:=List.map yZ (vH gQ px w h)) rfl rfl (qZ _ _ (fun _=>rfl)) (uR _ _ preT_len) (uS _ _ (fun _=>rfl) preT_len)) ?_
  refine jE ⟨_,(.tmp (d:=(.sl 22 1 (List.map yZ (vH gQ px w h)))) rfl .nil),?_⟩
  rfl
theorem c_at(w h:Nat)(mx:Int)(px:List Int)(x:Nat)(y:Nat)(hk:y*w+x<px.length)(hlp:px.length≤10000):jR Tryz.prog 42 [(jN (kG.mk ((w:Nat):Int) ((h:Nat):Int) mx px)),(.val (.int .i64 (((x:Nat):Int)))),(.val (.int .i64 (((y:Nat):Int))))] (.val (.int .i64 ((px.getD (y*w+x) 0)))):=by
 refine jH Tryz.func42 rfl cb42 rfl ?_
 show qS _ _ _ _ ⟨[(0,(.d (jN (kG.mk ((w:Nat):Int) ((h:Nat):Int) mx px)))),(1,(jL x)),(2,(jL y))],[]⟩
 refine jA<|kx [(3,(.ref 0 0))] [(0,some (bx (jN (kG.mk ((w:Nat):Int) ((h:Nat):Int) mx px))))] (zN (vL 0)<|zM<|zZ) ?_
 refine jA<|kx [(6,(vi (px.getD ((y*w)+x) 0)))] [] (zE (kJ uY)<|zR (kX xT)<|zM<|zE (kJ uC)<|zR (kX qC)<|zE (oMl (y*w))<|zM<|zE (qP ((y*w)+x))<|zE (nG vI ((y*w)+x) (0:Int))<|zE (xE qC)<|zM<|zZ) ?_
 refine jE ⟨_,(.tmp (d:=(.val (.int .i64 ((px.getD ((y*w)+x) 0))))) rfl .nil),?_⟩
 rfl
theorem c_int(w h:Nat)(mx:Int)(px:List Int)(hw:1≤w∧w≤100)(hh:1≤h∧h≤100)(hl:px.length=w*h)(hp:PxB px)(hc:(gG ((w:Nat):Int) ((h:Nat):Int) mx px)=0):jR Tryz.prog 44 [(jN (kG.mk ((w:Nat):Int) ((h:Nat):Int) mx px))] (.tup [(.sl 22 1 (List.map yZ (vH gJ px w h))),(.val (.int .i64 ((0:Nat):Int)))]):=by
 have hlp:=hC hw.2 hh.2 hl
 have hF:∀ g:Int,(jT g).cells=[jT g]:=fun _=>rfl
 have key:∀ {a b:Nat},a<h→b<w→a*w+b<px.length:=fun ha hb=>hl▸dK ha hb
 have hf:=id_M hp
 refine jH Tryz.func44 rfl cb44 rfl ?_
 show qS _ _ _ _ ⟨[(0,(.d (jN (kG.mk ((w:Nat):Int) ((h:Nat):Int) mx px))))],[]⟩
 refine jA<|kx [(1,(.ref 9 0))] [(9,some (bx (jN (kG.mk ((w:Nat):Int) ((h:Nat):Int) mx px))))] (zN (vL 9)<|zE (oNl 22 1)<|zM<|zZ) ?_
 refine jA<|jA<|kE (publishP (t:=1) (k:=9) (o:=0) (T:=1000001) (cs:=(jQ.cells (jN (kG.mk ((w:Nat):Int) ((h:Nat):Int) mx px)))) rfl rfl) ?_
 refine kr [(1,(.d (.cptr 1000001 (jQ.cells (jN (kG.mk ((w:Nat):Int) ((h:Nat):Int) mx px))) 0))),(4,(vi (gG ((w:Nat):Int) ((h:Nat):Int) mx px)))] [] (zE (oCa zQ)<|zE (jX (p_chk ((w:Nat):Int) ((h:Nat):Int) mx px (by omega)))<|zM<|zI (zU (uK (by kernel_rfl)) (fun _ _ h=>by cases h))) ?_
 refine jA<|kx [(11,(vb ((gG ((w:Nat):Int) ((h:Nat):Int) mx px) != 0)))] [] (zM<|zE oNe<|zZ) ?_
 refine jG rfl (fun h0=>?_) (fun h0=>?_)
 ·exact absurd hc (bne_iff_ne.1 h0)
 refine jC<|jA<|kr [(1,(.d (.cptr 1000001 (jQ.cells (jN (kG.mk ((w:Nat):Int) ((h:Nat):Int) mx px))) 0))),(5,(.own 0 22 1 (h+1)))] (gX 3 1 (dF jT (dU gJ px w h 0))) (zE (mZ zL)<|zE (xE qC)<|zE (qP (h+1))<|zN (oMk 0 (fun (_:Unit)=>jQ.val (.slice none 0 0)) () (h+1) (h+1) el98 ze22 zn22 by22)<|zM<|zI (tab_initF jT rfl (by kernel_rfl) (by kernel_rfl) prtT_0)) ?_
 refine jA<|jA<|kx [(18,(jL (h+1))),(19,(jL 0))] [] (zM<|zE (oLo el98)<|zM<|zY) ?_
 refine jD<|kP (α:=Nat) (fun y=>⟨[(1,(.d (.cptr 1000001 (jQ.cells (jN (kG.mk ((w:Nat):Int) ((h:Nat):Int) mx px))) 0))),(5,(.own 0 22 1 (h+1))),(18,(jL (h+1))),(19,(jL y))],gX 3 1 (dF jT (dU gJ px w h y))⟩) (fun y=>y≤h+1) (fun y=>h+1-y) 0 (zU (uK (by kernel_rfl)) (fun _ _ h=>h)) (Nat.zero_le _) ?_
 intro y hy
 refine jA<|kx [(20,(vb (decide (((y:Nat):Int)<((h+1:Nat):Int)))))] [] (zE uE<|zY) ?_
 refine jA<|jG rfl (fun h1=>?_) (fun h1=>?_)
 ·replace h1:=vM h1
  have hyh:y<h+1:=by omega
  refine jC<|jA<|jD<|jA<|kx [(6,(jL y))] [] (zM<|zM<|zY) ?_
  refine jA<|kr [(1,(.d (.cptr 1000001 (jQ.cells (jN (kG.mk ((w:Nat):Int) ((h:Nat):Int) mx px))) 0))),(5,(.own 0 22 1 (h+1))),(6,(jL y)),(18,(jL (h+1))),(19,(jL y))] (gX 3 1 (dF jT (mdT gJ px w h y 0))) (zM<|zM<|zE (mZ uC)<|zE (xE qC)<|zE (qP (w+1))<|zH (oMk 1 jT (0:Int) (w+1) (w+1) vI ze3 zo3 by3) (h2:=tabA_frb)<|zE (cH el98 y)<|zT (tab_st (rows:=dF jT (dU gJ px w h y)) (j:=y) (m:=w+1) xT (by rw[eW,eM];omega))<|zI (tab_putF hF (r:=List.replicate (w+1) 0) (by rw[List.length_replicate]) (by rw[eM];omega) mdT_new rfl rfl (by kernel_rfl) (by kernel_rfl))) ?_
  refine jA<|kx [(7,(jL (0+1)))] [] (zM<|zY) ?_
  refine jD<|kP (α:=Nat) (fun x=>⟨[(1,(.d (.cptr 1000001 (jQ.cells (jN (kG.mk ((w:Nat):Int) ((h:Nat):Int) mx px))) 0))),(5,(.own 0 22 1 (h+1))),(6,(jL y)),(7,(jL (x+1))),(18,(jL (h+1))),(19,(jL y))],gX 3 1 (dF jT (mdT gJ px w h y x))⟩) (fun x=>x≤w) (fun x=>w-x) 0 (zU (uK (by kernel_rfl)) (fun _ _ h=>h)) (Nat.zero_le _) ?_
  intro x hx
  refine jA<|jA<|kx [(36,(vb (decide (((x+1:Nat):Int)≤((w:Nat):Int))&&decide ((0:Int)<((y:Nat):Int)))))] [] ?_ ?_
  ·refine zM<|zE (mZ uC)<|zE (xE qC)<|zE oLe<|zE (oV (vb (decide (((x+1:Nat):Int)≤((w:Nat):Int)))) (kT (by kernel_rfl)))<|?_
   rcases hb:decide (((x+1:Nat):Int)≤((w:Nat):Int)) with _ | _
   ·exact zK<|zK<|zE cB<|zY
   ·exact zM<|zE gF<|zE xB<|zY
  refine jG rfl (fun h2=>?_) (fun h2=>?_)
  ·rw[Bool.and_eq_true,decide_eq_true_eq,decide_eq_true_eq] at h2
   have hxw:x<w:=by omega
   obtain ⟨y,rfl⟩:∃ z,y=z+1:=⟨y-1,by omega⟩
   have hk:=key (show y<h by omega) hxw
   have hpk:=hp (y*w+x)
   have hs1:lnS gJ px w y (x+1)=lnS gJ px w y x+px.getD (y*w+x) 0:=rfl
   have hs2:nB gJ px w (x+1) (y+1)=nB gJ px w (x+1) y+lnS gJ px w y (x+1):=rfl
   have hs3:nB gJ px w x (y+1)=nB gJ px w x y+lnS gJ px w y x:=rfl
   have b1:=rs_M (w:=w) hf (x:=x) (y:=y) (by omega) (by omega)
   have b2:=rs_M (w:=w) hf (x:=x+1) (y:=y) (by omega) (by omega)
   have b3:=rs_M (w:=w) hf (x:=x) (y:=y+1) (by omega) (by omega)
   have b4:=rs_M (w:=w) hf (x:=x+1) (y:=y+1) (by omega) (by omega)
   have hg1:=mdT_y (f:=gJ) (px:=px) (w:=w) (k:=x) (show y+1≤h by omega)
   have hg2:=mdT_p (f:=gJ) (px:=px) (w:=w) (k:=x) (show y+1≤h by omega)
   have r1:((dF jT (mdT gJ px w h (y+1) x)).getD (y+1) []).length=w+1:=by rw[tdF_at,List.length_map,List.getD_eq_getElem?_getD,hg1];exact midR_len
   have r2:((dF jT (mdT gJ px w h (y+1) x)).getD y []).length=w+1:=by rw[tdF_at,List.length_map,List.getD_eq_getElem?_getD,hg2];exact eJ _
   have tl:(dF jT (mdT gJ px w h (y+1) x)).length=h+1:=by rw[eW];exact mK _ _
   have ml:=midR_len (f:=gJ) (px:=px) (w:=w) (y:=y+1) (k:=x)
   have pl:=eJ (f:=gJ) (px:=px) (w:=w) y
   refine jC<|jA<|jD<|kdr [(1,(.d (.cptr 1000001 (jQ.cells (jN (kG.mk ((w:Nat):Int) ((h:Nat):Int) mx px))) 0))),(5,(.own 0 22 1 (h+1))),(6,(jL (y+1))),(7,(jL (x+1))),(18,(jL (h+1))),(19,(jL (y+1)))] (gX 3 1 (dF jT (mdT gJ px w h (y+1) (x+1)))) mo (wM<|wM<|wE (cH el98 (y+1))<|wR (tab_ld xT (by omega) r1)<|wM<|wM<|wM<|wE (cO y)<|wE (cH el98 y)<|wR (tab_ld xT (by omega) r2)<|wM<|wE (cH vI (x+1))<|wR (oQr (jT ((preR gJ px w y).getD (x+1) 0)) (.val (.int .i64 (nB gJ px w (x+1) y))) (oLp (F:=jT) (L:=preR gJ px w y) qC (x+1) (0:Int) (hb:=by exact cA hF hg2)) (by rw[eU y (by omega)];rfl))<|wM<|wM<|wE (cH el98 (y+1))<|wR (tab_ld xT (by omega) r1)<|wM<|wE (cO x)<|wE (cH vI x)<|wR (oQr (jT ((midR gJ px w (y+1) x).getD x 0)) (.val (.int .i64 (nB gJ px w x (y+1)))) (oLp (F:=jT) (L:=midR gJ px w (y+1) x) qC x (0:Int) (hb:=by exact cA hF hg1)) (by rw[midR_at (Nat.le_refl x) hx];rfl))<|wE (zAd (nB gJ px w (x+1) y+nB gJ px w x (y+1)))<|wM<|wM<|wE (cO y)<|wE (cH el98 y)<|wR (tab_ld xT (by omega) r2)<|wM<|wE (cO x)<|wE (cH vI x)<|wR (oQr (jT ((preR gJ px w y).getD x 0)) (.val (.int .i64 (nB gJ px w x y))) (oLp (F:=jT) (L:=preR gJ px w y) qC x (0:Int) (hb:=by exact cA hF hg2)) (by rw[eU y hx];rfl))<|wE (cN (nB gJ px w (x+1) y+nB gJ px w x (y+1)-nB gJ px w x y))<|wE (oCa zQ)<|wM<|wE (cO x)<|wM<|wE (cO y)<|wE (jX (c_at w h mx px x y hk hlp))<|wE (zAd (nB gJ px w (x+1) (y+1)))<|wE (cH vI (x+1))<|wT (oSp (F:=jT) (L:=midR gJ px w (y+1) x) qC (x+1) (nB gJ px w (x+1) (y+1)) (hb:=by exact cA hF hg1))<|wI (tab_setF hF (mdT_set (by omega)) (by rw[List.length_set,List.getD_eq_getElem?_getD,hg1];rfl) (by rw[show (mdT gJ px w h (y+1) x).length=h+1 from mK _ _];omega) (by kernel_rfl)) (orderB_or _ _ (by kernel_rfl))) ?_
   refine kx [(7,(jL (x+1+1)))] [] (zM<|zE (qP (x+1+1))<|zM<|zY) ?_
   exact ⟨x+1,(zU (uK (by kernel_rfl)) (fun _ _ h=>h)),by omega,by omega⟩
  ·have hxw:x=w∨y=0:=by
    by_cases e:x=w
    ·exact .inl e
    ·by_cases e2:y=0
     ·exact .inr e2
     ·rw[decide_eq_true (show ((x+1:Nat):Int)≤((w:Nat):Int) by omega),decide_eq_true (show (0:Int)<((y:Nat):Int) by omega)] at h2
      cases h2
   refine jV<|kr [(1,(.d (.cptr 1000001 (jQ.cells (jN (kG.mk ((w:Nat):Int) ((h:Nat):Int) mx px))) 0))),(5,(.own 0 22 1 (h+1))),(18,(jL (h+1))),(19,(jL (y+1)))] (gX 3 1 (dF jT (dU gJ px w h (y+1)))) (zE (qP (y+1))<|zM<|zI (by rw[← mdT_end (f:=gJ) (px:=px) (h:=h) hxw];exact (zU (uK (by kernel_rfl)) (fun _ _ h=>h)))) ?_
   exact ⟨y+1,(zU (uK (by kernel_rfl)) (fun _ _ h=>h)),by omega,by omega⟩
 ·replace h1:=vK h1
  have e:dU gJ px w h y=vH gJ px w h:=by rw[show y=h+1 by omega];exact prtT_end
  rw[e]
  refine jV<|jA<|kx [(2,(.own 0 22 1 (h+1))),(3,(jL 0))] [] (zM<|zM<|zM<|zY) ?_
  refine kE (tab_pubF hF) ?_
  refine kE (vP (t:=2) (k:=0) (es:=List.map yZ (vH gJ px w h)) rfl rfl (qZ _ _ (fun _=>rfl)) (uR _ _ preT_len) (uS _ _ (fun _=>rfl) preT_len)) ?_
  refine jE ⟨_,(.tmp (d:=(.sl 22 1 (List.map yZ (vH gJ px w h)))) rfl (.tmp (d:=(.val (.int .i64 ((0:Nat):Int)))) rfl .nil)),?_⟩
  rfl
end Go.Proofs.YteimogfidbkpnaaGreat
