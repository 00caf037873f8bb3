/- Part 24 of a proof: rules, plain facts, and functions walked. -/
import Derived.Test.YtciingpdmjepgaaGreatM23
import Derived.MapKept
set_option linter.all false
namespace Go.Fid
open Go.RowKit (Below)
abbrev VBlk:=Nat × List SV × List jW
inductive VArgs (bl:List VBlk):List Nat->List (List jW)->Prop
 |nil:VArgs bl [] []
 |cons {k:Nat} {c:List SV} {cs:List jW} {ks:List Nat} {css:List (List jW)} (hk:(k,c,cs)∈bl) (h:VArgs bl ks css):VArgs bl (k::ks) (cs::css)
theorem VArgs.len{bl:List VBlk}{ks:List Nat}{css:List (List jW)}(h:VArgs bl ks css):ks.length=css.length:=by
 induction h with
 |nil=>rfl
 |cons hk h ih=>simp [ih]
theorem VArgs.get{bl:List VBlk}{ks:List Nat}{css:List (List jW)}(h:VArgs bl ks css):∀ (i:Nat) k cs,ks[i]?=some k->css[i]?=some cs->∃ c,(k,c,cs)∈bl:=by
 induction h with
 |nil=>intro i k cs h;simp at h
 |cons hk h ih=>
  intro i k cs h1 h2
  rcases i with _ | i
  ·simp at h1 h2;subst h1;subst h2;exact ⟨_,hk⟩
  ·exact ih i k cs (by simpa using h1) (by simpa using h2)
inductive See (bl:List VBlk) (E:TypeId):SV->jW->Prop
 |d {x:jW}:See bl E (.d x) x
 |r {k o:Nat} {c:List SV} {cs:List jW} (hk:(k,c,cs)∈bl):See bl E (.ref k o) (.cptr E cs o)
 |s {k n s:Nat} {t:TypeId} {c:List SV} {cs es:List jW} (hk:(k,c,cs)∈bl) (hes:∀ e∈es,e.cells.length=s) (hl:es.length=n) (hc:cs.take (n*s)=flat es):See bl E (.own k t s n) (.sl E s es)
 |x {k o b:Nat} {c:List SV} {cs:List jW} (hk:(k,c,cs)∈bl):See bl E (.refx k o b) (.cptr E cs o)
 |f {g:FuncId} {ks:List Nat} {css:List (List jW)} (hk:VArgs bl ks css):See bl E (.clo g ks) (.clo g (css.map fun cs=>.cptr E cs 0))
inductive Sees (bl:List VBlk) (E:TypeId):List SV->List jW->Prop
 |nil:Sees bl E [] []
 |cons {x:SV} {d:jW} {c:List SV} {cs:List jW} (h:See bl E x d) (hr:Sees bl E c cs):Sees bl E (x::c) (d::cs)
 |all {c:List SV} {cs:List jW} (h:c=cs.map SV.d):Sees bl E c cs
theorem Sees.len{bl:List VBlk}{E:TypeId}{c:List SV}{cs:List jW}(h:Sees bl E c cs):c.length=cs.length:=by
 induction h with
 |nil=>rfl
 |cons h hr ih=>simp [ih]
 |all h=>subst h;simp
theorem Sees.get{bl:List VBlk}{E:TypeId}{c:List SV}{cs:List jW}(h:Sees bl E c cs):∀ (i:Nat) x d,c[i]?=some x->cs[i]?=some d->See bl E x d:=by
 induction h with
 |nil=>intro i x d h;simp at h
 |cons h hr ih=>
  intro i x d h1 h2
  rcases i with _ | i
  ·simp at h1 h2;subst h1;subst h2;exact h
  ·exact ih i x d (by simpa using h1) (by simpa using h2)
 |all h=>
  intro i x d h1 h2
  subst h
  rw[List.getElem?_map,h2] at h1
  simp at h1;subst h1;exact .d
inductive VBlks (E:TypeId):List VBlk->Prop
 |nil:VBlks E []
 |cons {k:Nat} {c:List SV} {cs:List jW} {bl:List VBlk} (h:Sees bl E c cs) (hr:VBlks E bl):VBlks E ((k,c,cs)::bl)
theorem Sees.cells{bl:List VBlk}{E:TypeId}{c:List SV}{cs:List jW}(h:Sees bl E c cs):yL c=false:=by
 have hl:=h.len
 rcases c with _ | ⟨x,_ | ⟨y,l⟩⟩
 ·rfl
 ·match cs,hl with
  |[d],_=>
   refine mapCs_at (i:=0) rfl ?_
   cases h.get 0 x d rfl rfl<;>rfl
 ·cases x<;>rfl
theorem VBlks.cells{E:TypeId}{bl:List VBlk}(h:VBlks E bl):∀ p∈bl,yL p.2.1=false:=by
 induction h with
 |nil=>intro p hp;cases hp
 |cons h hr ih=>
  intro p hp
  rcases List.mem_cons.1 hp with rfl | hp
  ·exact h.cells
  ·exact ih p hp
section
variable {w:World} {D D':kN} {β:kT} {bl:List VBlk} {E:TypeId}
end
section
variable {P:Program} {o:Oper} {S:Nat->SV}
end
section
variable {P:Program} {n:Fr} {ops:Array Oper} {K:SL->BS->Prop} {S:SL} {B:BS} {l:List Oper} {o:Oper} {news:List Nat} {acc0:List (List Nat × List Nat)}
end
section
variable {P:Program} {n:Fr} {ops:Array Oper} {K:SL->BS->Prop} {S:SL} {B:BS} {l:List Oper} {o:Oper} {α:Type} {T E t':TypeId} {x y:Operand} {k s m bytes:Nat} {zv:List Value}
variable {news:List Nat} {acc0:List (List Nat × List Nat)}
end
section
variable {P:Program} {N:Fr} {c:Code} {Q:Exit->PS->Prop} {S:SL} {B:BS}
end
section
variable {P:Program} {n:Fr} {ops:Array Oper} {K:SL->BS->Prop} {S:SL} {l:List Oper} {o:Oper}
def SV.isD:SV->Bool
 |.d _=>true
 |_=>false
end
section
variable {P:Program} {n:Fr} {ops:Array Oper} {K:SL->BS->Prop} {S S0 S1:SL} {B B0 B1:BS} {l:List Oper} {o:Oper} {news:List Nat} {acc0:List (List Nat × List Nat)}
end
def rn(ks:List Nat):SV->Option SV
 |.ref k o=>(ks[k]?).map fun j=>.ref j o
 |.own k t s n=>(ks[k]?).map fun j=>.own j t s n
 |.clo f l=>(l.mapM fun k=>ks[k]?).map fun l'=>.clo f l'
 |.view k o n=>(ks[k]?).map fun j=>.view j o n
 |.pr k t s n x=>(ks[k]?).map fun j=>.pr j t s n x
 |.refx k o b=>(ks[k]?).map fun j=>.refx j o b
 |.mpx k b=>(ks[k]?).map fun j=>.mpx j b
 |.bnd f k o=>(ks[k]?).map fun j=>.bnd f j o
 |.ownx k t s n u=>(ks[k]?).map fun j=>.ownx j t s n u
 |.mp k=>(ks[k]?).map fun j=>.mp j
 |x=>some x
def rnL(ks:List Nat):List SV->Option (List SV)
 |[]=>some []
 |x::l=>match rn ks x,rnL ks l with
  |some y,some l'=>some (y::l')
  |_,_=>none
inductive RBi (ks:List Nat):BS->BS->Prop
 |nil:RBi ks [] []
 |cons {k j:Nat} {c c2:List SV} {B B2:BS} (hk:ks[k]?=some j) (hc:rnL ks c=some c2) (h:RBi ks B B2):RBi ks ((k,some c)::B) ((j,some c2)::B2)
def ndI:List Nat->Bool
 |[]=>true
 |k::ks=>!(mmB ks k)&&ndI ks
theorem ndI_inj:∀ {ks:List Nat},ndI ks=true->∀ {k q j:Nat},ks[k]?=some j->ks[q]?=some j->k=q
 |[],_,k,q,j,h1,_=>by simp at h1
 |p::ks,h,k,q,j,h1,h2=>by
  simp only[ndI,Bool.and_eq_true,Bool.not_eq_true'] at h
  have hno:∀ i:Nat,ks[i]?≠some p:=fun i e=>by
   have:=mB.2 (List.mem_of_getElem? e);rw[h.1] at this;cases this
  cases k with
  |zero=>
   cases q with
   |zero=>rfl
   |succ q=>simp at h1 h2;subst h1;exact absurd h2 (hno q)
  |succ k=>
   cases q with
   |zero=>simp at h1 h2;subst h2;exact absurd h1 (hno k)
   |succ q=>simp at h1 h2;rw[ndI_inj h.2 h1 h2]
theorem RBi.to{ks:List Nat}(hn:ndI ks=true){B B2:BS}(h:RBi ks B B2):∀ {k:Nat} {c:List SV},jV B k=some c->∃ j c2,ks[k]?=some j/\jV B2 j=some c2/\rnL ks c=some c2:=by
 induction h with
 |nil=>intro k c hk;simp [jV] at hk
 |@cons q j c1 c2 B B2 hk hc h ih=>
  intro k c hg
  rw[jJ] at hg
  split at hg
  ·rename_i e;subst e
   injection hg with hg;subst hg
   exact ⟨j,c2,hk,by rw[jJ,if_pos rfl],hc⟩
  ·rename_i hne
   obtain ⟨j',d,h1,h2,h3⟩:=ih hg
   exact ⟨j',d,h1,by rw[jJ,if_neg (fun e=>by subst e;exact hne (ndI_inj hn hk h1)),h2],h3⟩
theorem RBi.back{ks:List Nat}(hn:ndI ks=true){B B2:BS}(h:RBi ks B B2):∀ {j:Nat} {c2:List SV},jV B2 j=some c2->∃ k c,ks[k]?=some j/\jV B k=some c/\rnL ks c=some c2:=by
 induction h with
 |nil=>intro k c hk;simp [jV] at hk
 |@cons q j c1 c2 B B2 hk hc h ih=>
  intro i d hg
  rw[jJ] at hg
  split at hg
  ·rename_i e;subst e
   injection hg with hg;subst hg
   exact ⟨q,c1,hk,by rw[jJ,if_pos rfl],hc⟩
  ·rename_i hne
   obtain ⟨k,c,h1,h2,h3⟩:=ih hg
   exact ⟨k,c,h1,by rw[jJ,if_neg (fun e=>by subst e;rw[hk] at h1;injection h1 with h1;exact hne h1),h2],h3⟩
theorem RBi.some{ks:List Nat}{B B2:BS}(h:RBi ks B B2):∀ p∈B2,∃ c,p.2=.some c:=by
 induction h with
 |nil=>intro p hp;cases hp
 |cons hk hc h ih=>
  intro p hp
  rcases List.mem_cons.1 hp with e | e
  ·subst e;exact ⟨_,rfl⟩
  ·exact ih p e
inductive FixI (ks:List Nat) (B B':BS):List Nat->Prop
 |nil:FixI ks B B' []
 |cons {k q o b j:Nat} {G:List Nat} (hj:ks[k]?=some j) (h1:jV B q=some [.refx k o b]) (h2:jV B' q=some [.refx k o b]) (h:FixI ks B B' G):FixI ks B B' (j::G)
theorem FixI.at{ks:List Nat}{B B':BS}{G:List Nat}(h:FixI ks B B' G){j:Nat}(hj:j∈G):∃ k q o b,ks[k]?=some j/\jV B q=some [.refx k o b]/\jV B' q=some [.refx k o b]:=by
 induction h with
 |nil=>cases hj
 |cons e h1 h2 h ih=>
  rcases List.mem_cons.1 hj with rfl | hj
  ·exact ⟨_,_,_,_,e,h1,h2⟩
  ·exact ih hj
section
variable {P:Program}
end
inductive FrM (ks mv:List Nat):BS->Prop
 |nil:FrM ks mv []
 |hid {k:Nat} {x:Option (List SV)} {B:BS} (hk:mmB ks k=true) (h:FrM ks mv B):FrM ks mv ((k,x)::B)
 |none {k:Nat} {B:BS} (h:FrM ks mv B):FrM ks mv ((k,.none)::B)
 |dat {k:Nat} {ds:List jW} {B:BS} (h:FrM ks mv B):FrM ks mv ((k,some (ds.map SV.d))::B)
 |map {α:Type} {k:Nat} {G:α->jW} {L:List α} {B:BS} (h:FrM ks mv B):FrM ks mv ((k,some (L.map fun g=>SV.d (G g)))::B)
 |cells {k:Nat} {c:List SV} {B:BS} (hc:(mv.all fun q=>!(kY q c))=true) (h:FrM ks mv B):FrM ks mv ((k,some c)::B)
theorem namesAny_dat(k:Nat)(ds:List jW):kY k (ds.map SV.d)=false:=by
 unfold kY
 rw[List.any_eq_false]
 intro x hx
 obtain ⟨d,_,rfl⟩:=List.mem_map.1 hx
 simp [SV.names]
theorem namesAny_mapd{α:Type}(k:Nat)(G:α->jW)(L:List α):kY k (L.map fun g=>SV.d (G g))=false:=by
 unfold kY
 rw[List.any_eq_false]
 intro x hx
 obtain ⟨d,_,rfl⟩:=List.mem_map.1 hx
 simp [SV.names]
theorem FrM.ok{ks mv:List Nat}{B:BS}(h:FrM ks mv B){k:Nat}(hk:k∈mv):∀ p∈B,p.1∈ks\/∀ c,p.2=some c->kY k c=false:=by
 induction h with
 |nil=>intro p hp;cases hp
 |hid hk' h ih=>
  intro p hp;rcases List.mem_cons.1 hp with e | e
  ·subst e;exact .inl (mB.1 hk')
  ·exact ih p e
 |none h ih=>
  intro p hp;rcases List.mem_cons.1 hp with e | e
  ·subst e;exact .inr fun c hc=>by cases hc
  ·exact ih p e
 |dat h ih=>
  intro p hp;rcases List.mem_cons.1 hp with e | e
  ·subst e;exact .inr fun c hc=>by injection hc with hc;subst hc;exact namesAny_dat _ _
  ·exact ih p e
 |map h ih=>
  intro p hp;rcases List.mem_cons.1 hp with e | e
  ·subst e;exact .inr fun c hc=>by injection hc with hc;subst hc;exact namesAny_mapd _ _ _
  ·exact ih p e
 |cells hc h ih=>
  intro p hp;rcases List.mem_cons.1 hp with e | e
  ·subst e;exact .inr fun c hc'=>by injection hc' with hc';subst hc';simpa using List.all_eq_true.1 hc k hk
  ·exact ih p e
inductive NmM (news mv:List Nat):BS->Prop
 |nil:NmM news mv []
 |dat {k:Nat} {ds:List jW} {B:BS} (h:NmM news mv B):NmM news mv ((k,some (ds.map SV.d))::B)
 |map {α:Type} {k:Nat} {G:α->jW} {L:List α} {B:BS} (h:NmM news mv B):NmM news mv ((k,some (L.map fun g=>SV.d (G g)))::B)
 |cells {k:Nat} {c:List SV} {B:BS} (hc:(news.all fun q=>!(kY q c)||mmB mv q)=true) (h:NmM news mv B):NmM news mv ((k,some c)::B)
theorem NmM.ok{news mv:List Nat}{B:BS}(h:NmM news mv B):∀ p∈B,∀ c,p.2=some c->∀ k∈news,kY k c=true->k∈mv:=by
 induction h with
 |nil=>intro p hp;cases hp
 |dat h ih=>
  intro p hp;rcases List.mem_cons.1 hp with e | e
  ·subst e;exact fun c hc k _ hn=>by injection hc with hc;subst hc;rw[namesAny_dat] at hn;cases hn
  ·exact ih p e
 |map h ih=>
  intro p hp;rcases List.mem_cons.1 hp with e | e
  ·subst e;exact fun c hc k _ hn=>by injection hc with hc;subst hc;rw[namesAny_mapd] at hn;cases hn
  ·exact ih p e
 |cells hc h ih=>
  intro p hp;rcases List.mem_cons.1 hp with e | e
  ·subst e;exact fun c hc' k hk hn=>by
                                      injection hc' with hc';subst hc'
                                      have:=List.all_eq_true.1 hc k hk
                                      rw[hn] at this
                                      exact mB.1 this
  ·exact ih p e
section
variable {P:Program} {n:Fr} {ops:Array Oper} {K:SL->BS->Prop} {S:SL} {B:BS} {l:List Oper} {o:Oper} {news:List Nat} {acc0:List (List Nat × List Nat)}
end
section
variable {P:Program} {n:Fr} {ops:Array Oper} {K:SL->BS->Prop} {S:SL} {B:BS} {l:List Oper} {o:Oper}
end
section
variable {P:Program}
end
def ixN:List Nat->Nat->Nat->Option Nat
 |[],_,_=>none
 |k::ks,i,j=>bif Nat.beq k j then some i else ixN ks (i+1) j
def rawS(ks:List Nat):SV->Bool
 |.own k _ _ _=>(ixN ks 0 k).isNone
 |_=>false
def bkc(ks:List Nat)(u:Value):SV->Option SV
 |.d x=>some (.d x)
 |.own k t s n=>match ixN ks 0 k with
  |some i=>some (.own i t s n)
  |none=>some (.d (.val u))
 |.ref k o=>(ixN ks 0 k).map fun i=>.ref i o
 |.refx k o b=>(ixN ks 0 k).map fun i=>.refx i o b
 |.mpx k b=>(ixN ks 0 k).map fun i=>.mpx i b
 |_=>none
def bkL(ks:List Nat)(U:Nat->Value):Nat->List SV->Option (List SV)
 |_,[]=>some []
 |i,y::c=>match bkc ks (U i) y,bkL ks U (i+1) c with
  |some x,some l=>some (x::l)
  |_,_=>none
inductive RBu (ks:List Nat) (U:Nat->Nat->Value):BS->BS->Prop
 |nil:RBu ks U [] []
 |cons {k j:Nat} {c c2:List SV} {B B2:BS} (hk:ks[k]?=some j) (hc:bkL ks (U j) 0 c2=some c) (h:RBu ks U B B2):RBu ks U ((k,some c)::B) ((j,some c2)::B2)
theorem RBu.to{ks:List Nat}{U:Nat->Nat->Value}(hn:ndI ks=true){B B2:BS}(h:RBu ks U B B2):∀ {k:Nat} {c:List SV},jV B k=some c->∃ j c2,ks[k]?=some j/\jV B2 j=some c2/\bkL ks (U j) 0 c2=some c:=by
 induction h with
 |nil=>intro k c hk;simp [jV] at hk
 |@cons q j c1 c2 B B2 hk hc h ih=>
  intro k c hg
  rw[jJ] at hg
  split at hg
  ·rename_i e;subst e
   injection hg with hg;subst hg
   exact ⟨j,c2,hk,by rw[jJ,if_pos rfl],hc⟩
  ·rename_i hne
   obtain ⟨j',d,h1,h2,h3⟩:=ih hg
   exact ⟨j',d,h1,by rw[jJ,if_neg (fun e=>by subst e;exact hne (ndI_inj hn hk h1)),h2],h3⟩
theorem RBu.back{ks:List Nat}{U:Nat->Nat->Value}(hn:ndI ks=true){B B2:BS}(h:RBu ks U B B2):∀ {j:Nat} {c2:List SV},jV B2 j=some c2->∃ k c,ks[k]?=some j/\jV B k=some c/\bkL ks (U j) 0 c2=some c:=by
 induction h with
 |nil=>intro k c hk;simp [jV] at hk
 |@cons q j c1 c2 B B2 hk hc h ih=>
  intro i d hg
  rw[jJ] at hg
  split at hg
  ·rename_i e;subst e
   injection hg with hg;subst hg
   exact ⟨q,c1,hk,by rw[jJ,if_pos rfl],hc⟩
  ·rename_i hne
   obtain ⟨k,c,h1,h2,h3⟩:=ih hg
   exact ⟨k,c,h1,by rw[jJ,if_neg (fun e=>by subst e;rw[hk] at h1;injection h1 with h1;exact hne h1),h2],h3⟩
theorem RBu.some{ks:List Nat}{U:Nat->Nat->Value}{B B2:BS}(h:RBu ks U B B2):∀ p∈B2,∃ c,p.2=.some c:=by
 induction h with
 |nil=>intro p hp;cases hp
 |cons hk hc h ih=>
  intro p hp
  rcases List.mem_cons.1 hp with e | e
  ·subst e;exact ⟨_,rfl⟩
  ·exact ih p e
def unm(ks:List Nat)(c:List SV):List (Option SV):=c.map fun y=>bif rawS ks y then some y else none
inductive OwS (ks:List Nat):BS->BS->Prop
 |nil:OwS ks [] []
 |dat {j:Nat} {ds ds':List jW} {B B':BS} (h:OwS ks B B'):OwS ks ((j,some (ds.map SV.d))::B) ((j,some (ds'.map SV.d))::B')
 |map {α:Type} {j:Nat} {G G':α->jW} {L L':List α} {B B':BS} (h:OwS ks B B'):OwS ks ((j,some (L.map fun g=>SV.d (G g)))::B) ((j,some (L'.map fun g=>SV.d (G' g)))::B')
 |cells {j:Nat} {c c':List SV} {B B':BS} (hc:unm ks c'=unm ks c) (h:OwS ks B B'):OwS ks ((j,some c)::B) ((j,some c')::B')
theorem unm_get{ks:List Nat}{c c':List SV}(h:unm ks c'=unm ks c){i:Nat}{y:SV}(hy:c'[i]?=some y)(hr:rawS ks y=true):c[i]?=some y:=by
 have h1:=congrArg (fun l:List (Option SV)=>l[i]?) h
 simp only[unm,List.getElem?_map,hy,Option.map_some,hr,cond_true] at h1
 cases hc:c[i]? with
 |none=>rw[hc] at h1;cases h1
 |some z=>
  rw[hc] at h1
  simp only[Option.map_some,Option.some.injEq] at h1
  cases hz:rawS ks z with
  |true=>rw[hz] at h1;injection h1 with h1;rw[h1]
  |false=>rw[hz] at h1;cases h1
theorem OwS.at{ks:List Nat}{B B':BS}(h:OwS ks B B'):∀ {j:Nat} {c':List SV},jV B' j=some c'->∃ c,jV B j=some c/\∀ (i:Nat) y,c'[i]?=some y->rawS ks y=true->c[i]?=some y:=by
 have no:∀ (ds:List jW) (i:Nat) (y:SV),(ds.map SV.d)[i]?=some y->rawS ks y=true->False:=fun ds i y hy hr=>by
  rw[List.getElem?_map,Option.map_eq_some_iff] at hy
  obtain ⟨d,_,rfl⟩:=hy
  cases hr
 induction h with
 |nil=>intro j c' hj;simp [jV] at hj
 |@dat q ds ds' B B' h ih=>
  intro j c' hj
  rw[jJ] at hj
  split at hj
  ·rename_i e;subst e
   injection hj with hj;subst hj
   exact ⟨_,by rw[jJ,if_pos rfl],fun i y hy hr=>(no _ _ _ hy hr).elim⟩
  ·rename_i hne
   obtain ⟨c,h1,h2⟩:=ih hj
   exact ⟨c,by rw[jJ,if_neg hne,h1],h2⟩
 |@map α q G G' L L' B B' h ih=>
  intro j c' hj
  rw[jJ] at hj
  split at hj
  ·rename_i e;subst e
   injection hj with hj;subst hj
   exact ⟨_,by rw[jJ,if_pos rfl],fun i y hy hr=>by
    rw[List.getElem?_map,Option.map_eq_some_iff] at hy
    obtain ⟨d,_,rfl⟩:=hy
    cases hr⟩
  ·rename_i hne
   obtain ⟨c,h1,h2⟩:=ih hj
   exact ⟨c,by rw[jJ,if_neg hne,h1],h2⟩
 |@cells q c c' B B' hc h ih=>
  intro j d hj
  rw[jJ] at hj
  split at hj
  ·rename_i e;subst e
   injection hj with hj;subst hj
   exact ⟨c,by rw[jJ,if_pos rfl],fun i y hy hr=>unm_get hc hy hr⟩
  ·rename_i hne
   obtain ⟨c,h1,h2⟩:=ih hj
   exact ⟨c,by rw[jJ,if_neg hne,h1],h2⟩
section
variable {P:Program}
end
section
variable {P:Program} {n:Fr} {ops:Array Oper} {K:SL->BS->Prop} {S:SL} {B:BS} {l:List Oper} {o:Oper} {news:List Nat} {acc0:List (List Nat × List Nat)}
end
section
variable {P:Program} {S:SL} {B:BS} {o:Oper} {T:TypeId} {x:Operand} {k:Nat}
end
section
variable {κ ν:Type} [DecidableEq κ]
def ixK(a:κ):List (κ × ν)->Nat->Option (Nat × ν)
 |[],_=>none
 |(b,v)::l,i=>if a=b then some (i,v) else ixK a l (i+1)
def fL(l:List (κ × ν))(a:κ):Option ν:=(ixK a l 0).map (·.2)
def aJ(ke:κ->Value)(ve:ν->Value):List (κ × ν)->Nat->List MapEntry
 |[],_=>[]
 |(a,v)::l,i=>{ key:=ke a,val:=ve v,born:=i }::aJ ke ve l (i+1)
theorem entK_app(ke:κ->Value)(ve:ν->Value):∀ (l m:List (κ × ν)) (i:Nat),aJ ke ve (l++m) i=aJ ke ve l i++aJ ke ve m (i+l.length)
 |[],m,i=>rfl
 |(a,v)::l,m,i=>by
  rw[List.cons_append,aJ,entK_app ke ve l m (i+1),aJ,List.cons_append,List.length_cons,show i+1+l.length=i+(l.length+1) by omega]
def mpo(ke:κ->Value)(ve:ν->Value)(l:List (κ × ν)):Obj:=.map (aJ ke ve l 0).toArray l.length
theorem mpo_push(ke:κ->Value)(ve:ν->Value)(l:List (κ × ν))(a:κ)(v:ν):Obj.map ((aJ ke ve l 0).toArray.push { key:=ke a,val:=ve v,born:=l.length }) (l.length+1)=mpo ke ve (l++[(a,v)]):=by
 unfold mpo
 rw[entK_app,List.length_append,Nat.zero_add]
 simp [aJ]
structure KeyOk (P:Program) (K:TypeId) (ke:κ->Value):Prop where
 chk:∀ (e:Bool) (a:κ) (w:World),(Instr.checkKey e 10000 K (ke a)).run P w=.ok () w
 find:∀ {ν:Type} (ve:ν->Value) (l:List (κ × ν)) (a:κ) (w:World),(Instr.findKey K (ke a) (aJ ke ve l 0)).run P w=.ok ((ixK a l 0).map fun p=>(p.1,ve p.2)) w
def mapKB(P:Program)(T:TypeId):Option (TypeId × TypeId):=match P.underlying T with
 |some (.map K E)=>some (K,E)
 |_=>none
theorem mapK_of{P:Program}{T K E:TypeId}(h:mapKB P T=some (K,E)):P.underlying T=some (.map K E):=by
 unfold mapKB at h
 split at h
 ·rename_i a b e;injection h with h;injection h with h1 h2;subst h1;subst h2;exact e
 ·cases h
def zeroVm(P:Program)(T:TypeId):Option Value:=match P.info? T with
 |some i=>i.zero
 |none=>none
theorem run_zeroVm{P:Program}{T:TypeId}{v:Value}(h:zeroVm P T=some v)(w:World):(zeroValue T).run P w=.ok v w:=by
 unfold zeroVm at h
 cases hi:P.info? T with
 |none=>rw[hi] at h;cases h
 |some i=>
  rw[hi] at h
  simp only[] at h
  simp [zeroValue,typeInfo,hi,h]
section
variable {P:Program} {T K E:TypeId} {w:World} {b:Nat} {ke:κ->Value} {ve:ν->Value} {l:List (κ × ν)}
theorem run_getK(hT:mapKB P T=some (K,E))(hK:KeyOk P K ke){z:Value}(hz:zeroVm P E=some z)(hb:w.heap[b]?=some (mpo ke ve l))(a:κ)(ok:Bool) :
  (Instr.lookup T (.map (some b)) (ke a) ok).run P w=.ok (if ok then .tuple #[((fL l a).map ve).getD z,.bool (fL l a).isSome] else ((fL l a).map ve).getD z) w:=by
 have h1:=mapK_of hT
 have hf:=hK.find ve l a w
 have hc:=hK.chk (aJ ke ve l 0).toArray.isEmpty a w
 simp only[Instr.lookup,Sem.run_bind,run_underlying h1,MapKept.run_getObj_map (show w.heap[b]?=some (.map (aJ ke ve l 0).toArray l.length) from hb),Result.andThen_ok,Sem.run_pure,hc,List.toList_toArray,hf]
 unfold fL
 cases ixK a l 0 with
 |none=>cases ok<;>simp [run_zeroVm hz]
 |some p=>cases ok<;>simp
theorem run_insK(hT:mapKB P T=some (K,E))(hK:KeyOk P K ke)(hb:w.heap[b]?=some (mpo ke ve l))(a:κ)(v:ν)(hn:fL l a=none) :
  (Instr.mapUpdate T (.map (some b)) (ke a) (ve v)).run P w=.ok () (w.putObj b (mpo ke ve (l++[(a,v)]))):=by
 have h1:=mapK_of hT
 have hf:=hK.find ve l a w
 have hc:=hK.chk false a w
 have hn2:ixK a l 0=none:=by
  unfold fL at hn
  exact Option.map_eq_none_iff.1 hn
 rw[hn2] at hf
 simp only[Instr.mapUpdate,Sem.run_bind,run_underlying h1,MapKept.run_getObj_map (show w.heap[b]?=some (.map (aJ ke ve l 0).toArray l.length) from hb),Result.andThen_ok,hc,List.toList_toArray,hf,Option.map_none,MapKept.run_setObj_map _ hb,mpo_push]
 simp [World.putObj]
end
end
section
variable {P:Program} {o:Oper} {S:Nat->SV} {κ ν:Type} [DecidableEq κ] {ke:κ->Value} {ve:ν->Value} {l:List (κ × ν)} {T K E:TypeId} {k:Nat}
theorem cB{w:World}{D:kN}{β:kT}{ob:Obj}{b:Nat}(h:uH w D β k [.mo ob])(hb:β k=some b):w.heap[b]?=some ob/\Obj.isMp ob=true/\∀ t o,¬ D t b o:=by
 rcases h with (⟨_,h⟩ | ⟨b',ob',h1,h2,h3,h4,h5⟩) | ⟨b',vs,T,h1,h2,h3,h4,_⟩
 ·cases h
 ·rw[hb] at h1;injection h1 with h1;subst h1
  injection h4 with h4;injection h4 with h4;subst h4
  exact ⟨h2,h3,h5⟩
 ·obtain ⟨u,_,_,h⟩:=h4 0 _ rfl
  exact h.elim
theorem e_getK{x y:Operand}{z:Value}{a:κ}{ok:Bool}(ho:o.op=.lookup T x y ok)(hT:mapKB P T=some (K,E))(hK:KeyOk P K ke)(hz:zeroVm P E=some z)(hx:ev S x=.mp k)(hy:∀ (w:World) (D:kN) (β:kT) (v:Value),qF w D β v (ev S y)->v=ke a) :
  qU P o S [(k,[.mo (mpo ke ve l)])] (.d (if ok then .tup [.val (((fL l a).map ve).getD z),.val (.bool (fL l a).isSome)] else .val (((fL l a).map ve).getD z))) :=
 qU.same fun w0 w D β hop hrd=>by
  have h1:=hop x (by simp [ho,Op.operands])
  have h2:=hop y (by simp [ho,Op.operands])
  rw[hx] at h1
  obtain ⟨b,hb,e1⟩:=h1
  have e2:=hy w D β _ h2
  obtain ⟨g1,_,_⟩:=cB (hrd (k,[.mo (mpo ke ve l)]) (by simp)) hb
  refine ⟨_,by simp only[execOp,ho,e1,e2,Sem.run_bind,run_getK hT hK hz g1 a ok,Result.andThen_ok];rfl,?_⟩
  cases ok with
  |true=>exact uC.tup [_,_] rfl (fun i v d hv hd=>by
    match i with
    |0=>simp at hv hd;subst hv;subst hd;exact .val _
    |1=>simp at hv hd;subst hv;subst hd;exact .val _
    |i+2=>simp at hv)
  |false=>exact uC.val _
theorem t_insK{x y z:Operand}{a:κ}{v:ν}(ho:o.op=.mapUpdate T x y z)(hT:mapKB P T=some (K,E))(hK:KeyOk P K ke)(hx:ev S x=.mp k)(hy:∀ (w:World) (D:kN) (β:kT) (u:Value),qF w D β u (ev S y)->u=ke a)(hz:∀ (w:World) (D:kN) (β:kT) (u:Value),qF w D β u (ev S z)->u=ve v)(hn:fL l a=none) :
  TOk P o S k [.mo (mpo ke ve l)] [.mo (mpo ke ve (l++[(a,v)]))]:=fun w0 w D β Q hop hb hD=>by
 have h1:=hop x (by simp [ho,Op.operands])
 have h2:=hop y (by simp [ho,Op.operands])
 have h3:=hop z (by simp [ho,Op.operands])
 rw[hx] at h1
 obtain ⟨b,hkb,e1⟩:=h1
 have e2:=hy w D β _ h2
 have e3:=hz w D β _ h3
 obtain ⟨g1,g2,g3⟩:=cB hb hkb
 have hlt:=qR g1
 have hrun:(execOp w0.eval o).run P w=.ok .skip (w.putObj b (mpo ke ve (l++[(a,v)]))):=by
  simp only[execOp,ho,e1,e2,e3,Sem.run_bind,run_insK hT hK g1 a v hn,Result.andThen_ok];rfl
 refine wp_skip_ hrun ⟨rfl,b,hkb,⟨rfl,rfl,rfl,by simp [World.putObj],fun j hj=>World.putObj_heap_other hj,fun vs T f h=>by rw[g1] at h;injection h with h;cases h⟩,g3,.inl (.inr ⟨b,_,hkb,World.putObj_heap_same hlt,rfl,rfl,g3⟩)⟩
theorem n_mapK(ke:κ->Value)(ve:ν->Value)(b:Nat)(ho:o.op=.makeMap T none):NOk P o S b [.mo (mpo ke ve [])] (.mp b):=fun w0 w D β Q hop hD=>by
 have hrun:(execOp w0.eval o).run P w=.ok (.value (.map (some w.heap.size))) (w.alloc (.map #[] 0)):=by
  simp [execOp,ho,Instr.makeMap]
 have hb:Below w.heap.size w (w.alloc (.map #[] 0)):=(Below.refl _ _).alloc (Nat.le_refl _) _
 have hnd:∀ t o,¬ D t w.heap.size o:=fun t o hd=>Nat.lt_irrefl _ (hD.lt t _ o hd)
 refine zL hrun ⟨_,D,w.heap.size,rfl,hb,fS.of_same D,Nat.le_refl _,by simp,hnd,.inl (.inr ⟨w.heap.size,_,by simp [kT.set],World.alloc_heap_new w _,rfl,rfl,hnd⟩),⟨w.heap.size,by simp [kT.set],rfl⟩⟩
end
section
variable {P:Program} {S:SL} {B:BS} {o:Oper} {x y z:Operand} {k:Nat} {T K E:TypeId} {κ ν:Type} [DecidableEq κ] {ke:κ->Value} {ve:ν->Value} {l:List (κ × ν)}
theorem oMm(b:Nat)(ke:κ->Value)(ve:ν->Value)(ho:o.op=.makeMap T none:=by exact rfl):NOk P o (jR S) b [.mo (mpo ke ve [])] (.mp b):=n_mapK ke ve b ho
theorem oGn(hT:mapKB P T=some (K,E))(hK:KeyOk P K ke){zv:Value}(hz:zeroVm P E=some zv)(a:κ){d:jW}(hd:∀ (w:World) (D:kN) (v:Value),uC w D v d->v=ke a)(ho:o.op=.lookup T x y false:=by exact rfl)(hx:ev (jR S) x=.mp k:=by exact rfl)(hy:ev (jR S) y=.d d:=by exact rfl)(hb:jV B k=some [.mo (mpo ke ve l)]:=by exact rfl) :
  ROk P o S B k (.d (.val (((fL l a).map ve).getD zv))) :=
 ⟨_,by
  have h:=e_getK (P:=P) (S:=jR S) (ve:=ve) (l:=l) (a:=a) ho hT hK hz hx (fun w D β v h=>by rw[hy] at h;exact hd w D v h)
  simpa using h,hb⟩
theorem oIm(hT:mapKB P T=some (K,E))(hK:KeyOk P K ke)(a:κ)(v:ν){d e:jW}(hd:∀ (w:World) (D:kN) (u:Value),uC w D u d->u=ke a)(he:∀ (w:World) (D:kN) (u:Value),uC w D u e->u=ve v)(hn:fL l a=none)(ho:o.op=.mapUpdate T x y z:=by exact rfl)(hx:ev (jR S) x=.mp k:=by exact rfl)(hy:ev (jR S) y=.d d:=by exact rfl)(hz:ev (jR S) z=.d e:=by exact rfl)(hb:jV B k=some [.mo (mpo ke ve l)]:=by exact rfl) :
  TK P o S B k [.mo (mpo ke ve (l++[(a,v)]))] :=
 ⟨_,t_insK (a:=a) (v:=v) ho hT hK hx (fun w D β u h=>by rw[hy] at h;exact hd w D u h) (fun w D β u h=>by rw[hz] at h;exact he w D u h) hn,hb⟩
end
section
variable {P:Program} {S:SL} {B:BS} {o:Oper} {x y:Operand} {k:Nat} {T:TypeId}
theorem bxs_sub{α:Type}{F:α->jW}{s:Nat}(hF:∀ g,(F g).cells.length=s){L:List α}{j i:Nat}(d v:α){c:List jW}(hj:j<L.length)(hi:i+c.length<=s)
  (hc:(F v).cells=(F (L.getD j d)).cells.take i++c++(F (L.getD j d)).cells.drop (i+c.length)):patch (xQ F L) (j*s+i) (c.map SV.d)=xQ F (L.set j v):=by
 rw[<- bxs_set hF v hj]
 have hb1:(xQ F L).length=L.length*s:=by unfold xQ;rw[List.length_map,aF hF]
 have hrm:=bxs_room (s:=s) hj
 have hlf:(F (L.getD j d)).cells.length=s:=hF _
 have cell:∀ r,r<s->(xQ F L)[j*s+r]?=((F (L.getD j d)).cells[r]?).map SV.d:=fun r hr=>by
  unfold xQ;rw[List.getElem?_map,bxs_cell hF d hj hr]
 have cv:∀ r,(F v).cells[r]?=if r<i then (F (L.getD j d)).cells[r]? else if r<i+c.length then c[r-i]? else (F (L.getD j d)).cells[r]?:=fun r=>by
  rw[hc,List.append_assoc]
  have hti:((F (L.getD j d)).cells.take i).length=i:=by rw[List.length_take,hlf];omega
  by_cases h1:r<i
  ·rw[if_pos h1,List.getElem?_append_left (by rw[hti];exact h1),List.getElem?_take,if_pos h1]
  ·rw[if_neg h1,List.getElem?_append_right (by rw[hti];omega),hti]
   by_cases h2:r<i+c.length
   ·rw[if_pos h2,List.getElem?_append_left (by omega)]
   ·rw[if_neg h2,List.getElem?_append_right (by omega),List.getElem?_drop]
    congr 1;omega
 apply List.ext_getElem?
 intro q
 rw[yK (by rw[List.length_map,hb1];omega),yK (by rw[List.length_map,hF,hb1];exact hrm),List.length_map,List.length_map,hF]
 by_cases h1:q<j*s
 ·rw[if_pos (by omega),if_pos h1]
 ·have h0:¬ q<j*s:=h1
  obtain ⟨r,rfl⟩:∃ r,q=j*s+r:=⟨q-j*s,by omega⟩
  rw[if_neg h0]
  by_cases hs:r<s
  ·have em:((F v).cells.map SV.d)[r]?=((F v).cells[r]?).map SV.d:=List.getElem?_map
   have ec:∀ q,(c.map SV.d)[q]?=(c[q]?).map SV.d:=fun q=>List.getElem?_map
   rw[if_pos (show j*s+r<j*s+s by omega),show j*s+r-j*s=r by omega,em,cv,cell r hs]
   by_cases h2:r<i
   ·rw[if_pos (show j*s+r<j*s+i by omega),if_pos h2]
   ·rw[if_neg (show ¬ j*s+r<j*s+i by omega),if_neg h2,ec]
    by_cases h3:r<i+c.length
    ·rw[if_pos (show j*s+r<j*s+i+c.length by omega),if_pos h3,show j*s+r-(j*s+i)=r-i by omega]
    ·rw[if_neg (show ¬ j*s+r<j*s+i+c.length by omega),if_neg h3]
  ·rw[if_neg (show ¬ j*s+r<j*s+i by omega),if_neg (show ¬ j*s+r<j*s+i+c.length by omega),if_neg (show ¬ j*s+r<j*s+s by omega)]
theorem oSf{α:Type}{F:α->jW}{L:List α}{s i n:Nat}{agg:Bool}(hs:kQ P T=some (agg,n))(j:Nat)(d v:α)(c:jW)(ho:o.op=.store T x y:=by exact rfl)(hx:ev (jR S) x=.ref k (j*s+i):=by exact rfl)(hb:jV B k=some (xQ F L):=by exact rfl)(hy:ev (jR S) y=.d c:=by kernel_rfl)(h2:c.ok1=true:=by kernel_rfl)(h3:c.cells.length=n:=by exact rfl)
  (hF:∀ g,(F g).cells.length=s:=by intro g;kernel_rfl) (hi:Nat.ble (i+n) s=true:=by kernel_rfl) (hc:(F v).cells=(F (L.getD j d)).cells.take i++c.cells++(F (L.getD j d)).cells.drop (i+c.cells.length):=by kernel_rfl) (h1:j<L.length:=by omega):TK P o S B k (xQ F (L.set j v)):=by
 have hi2:i+c.cells.length<=s:=by rw[h3];exact Nat.le_of_ble_eq_true hi
 have hrm:=bxs_room (s:=s) h1
 have h:=t_store (P:=P) (old:=xQ F L) ho hx hy hs (.inl ⟨c,rfl,h2,rfl⟩) (by rw[List.length_map];exact h3) (by unfold xQ;rw[List.length_map,aF hF];omega) (hO _)
 rw[bxs_sub hF d v h1 hi2 hc] at h
 exact ⟨_,h,hb⟩
end
def SV.low:SV->Bool
 |.d _=>true
 |.own j _ _ _=>Nat.beq j 0
 |.ref j _=>Nat.beq j 0
 |.junk=>true
 |_=>false
theorem qF.low{w:World}{D:kN}{β β':kT}{v:Value}{x:SV}(h0:β' 0=β 0)(hx:x.low=true)(h:qF w D β v x):qF w D β' v x:=by
 cases x with
 |d x=>exact h
 |own j t s n=>
  have e:j=0:=Nat.eq_of_beq_eq_true hx
  subst e
  rcases h with ⟨k1,k2⟩ | ⟨b,cap,vs,k1,k2⟩
  ·exact .inl ⟨h0.trans k1,k2⟩
  ·exact .inr ⟨b,cap,vs,h0.trans k1,k2⟩
 |ref j o=>
  have e:j=0:=Nat.eq_of_beq_eq_true hx
  subst e
  obtain ⟨b,k1,k2⟩:=h
  exact ⟨b,h0.trans k1,k2⟩
 |junk=>trivial
 |_=>cases hx
section
variable {P:Program} {S S':SL} {B:BS}
end
section
variable {α:Type} {F:α->jW}
variable {P:Program} {S S':SL} {B:BS}
end
theorem uH.take{w:World}{D:kN}{β:kT}{k n:Nat}{cs:List SV}(h:uH w D β k cs)(hm:yL cs=false):uH w D β k (cs.take n):=by
 rcases h with h | ⟨b,vs,T,g1,g2,g3,g4,g5⟩
 ·obtain ⟨h1,h2⟩:=h.cells hm
  subst h2;exact .inl (.inl ⟨h1,by simp⟩)
 ·refine .inr ⟨b,vs,T,g1,g2,by rw[List.length_take];omega,fun i x hx=>?_,g5⟩
  rw[List.getElem?_take] at hx
  split at hx
  ·exact g4 i x hx
  ·cases hx
theorem NOk.take{P:Program}{o:Oper}{S:Nat->SV}{k:Nat}{cs:List SV}{x:SV}(n:Nat)(h:NOk P o S k cs x)(hm:yL cs=false):NOk P o S k (cs.take n) x:=fun a w D β Q hop hD=>
 Oper.wp_mono (fun a' w' ⟨v,D',b,h1,h2,h3,h4,h5,h6,h7,h8⟩=>⟨v,D',b,h1,h2,h3,h4,h5,h6,h7.take hm,h8⟩) (h a w D β Q hop hD)
section
variable {P:Program} {n:Fr} {ops:Array Oper} {C:Ctx}
end
section
variable {P:Program} {n:Fr} {S0:SL} {B0:BS}
end
section
variable {P:Program} {S S':SL} {B B':BS} {o:Oper}
end
section
variable {P:Program} {n:Fr} {S0:SL} {B0:BS}
end
section
variable {P:Program} {S S':SL} {B B':BS} {o:Oper}
end
instance:DecidableEq ByteArray:=fun a b=>if h:a.data=b.data then isTrue (by cases a;cases b;cases h;rfl) else isFalse (fun e=>h (by rw[e]))
abbrev I3K:=Int × Int × Int
def kT3(a:I3K):Value:=.agg (([a.1,a.2.1,a.2.2]).map (Value.int .i64)).toArray
theorem rep_vals{w:World}{D:kN}{v:Value}{l:List Value}(h:uC w D v (.agg (l.map .val))):v=.agg l.toArray:=by
 cases h with
 |agg vs hl h1 hr=>
  congr 1
  congr 1
  refine List.ext_getElem (by simpa using hl) fun i h2 h3=>?_
  have:=hr i vs[i] (.val l[i]) (List.getElem?_eq_getElem h2) (by rw[List.getElem?_map,List.getElem?_eq_getElem h3];rfl)
  exact qH this
theorem rep_T3{w:World}{D:kN}{v:Value}{a b c:Int}(h:uC w D v (.agg [.val (.int .i64 a),.val (.int .i64 b),.val (.int .i64 c)])):v=kT3 (a,b,c):=rep_vals (l:=[.int .i64 a,.int .i64 b,.int .i64 c]) h
section
variable {P:Program} {S:SL} {B:BS} {o:Oper} {x y z:Operand} {k:Nat} {T K E:TypeId} {κ:Type} [DecidableEq κ] {ke:κ->Value} {l:List (κ × Int)}
end
section
variable {P:Program} {n:Fr} {c:Code} {Q:Exit->PS->Prop} {S:SL} {B:BS}
end
section
variable {P:Program} {S:SL} {o:Oper}
end
section
variable {P:Program} {o:Oper} {S:SL} {B:BS} {T:TypeId} {x:Operand} {k off:Nat}
end
section
variable {P:Program} {n:Fr} {c:Code} {Q:Exit->PS->Prop} {S:SL} {B:BS}
end
section
variable {P:Program} {o:Oper} {S:Nat->SV}
end
end Go.Fid
