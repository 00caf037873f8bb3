/- Part 36 of a proof: rules, plain facts, and functions walked. -/
import Derived.Test.YtnajallgoaiahaaGreatDoorM35
import Derived.Test.YtnajallgoaiahaaGreatDoorM11
import Derived.Test.YtnajallgoaiahaaGreatDoorM29
set_option linter.all false
set_option maxRecDepth 4000
namespace Go.Proofs.YtnajallgoaiahaaGreatDoor
open Go.Fid
def In(y z:R2):Prop:=z.1<=y.1/\y.1<=y.2/\y.2<=z.2
theorem In.gw(n:Int):In (gw n) (gw n):=⟨Rat.le_refl,Rat.le_refl,Rat.le_refl⟩
theorem In.pt(q:Rat):In (yX q) (yX q):=⟨Rat.le_refl,Rat.le_refl,Rat.le_refl⟩
theorem In.z2:In z2 z2:=⟨Rat.le_refl,Rat.le_refl,Rat.le_refl⟩
theorem In.add{a b c d:R2}(h:In a b)(k:In c d):In (vJ a c) (vJ b d):=⟨aE h.1 k.1,aE h.2.1 k.2.1,aE h.2.2 k.2.2⟩
theorem In.sub{a b c d:R2}(h:In a b)(k:In c d):In (uR a c) (uR b d):=⟨sub_valid h.1 k.2.2,sub_valid h.2.1 k.2.1,sub_valid h.2.2 k.1⟩
theorem ins_iff{a b p q:Rat}(h:insQ a b p q=true):p<=a/\b<=q:=by
 unfold insQ at h;rw[Bool.and_eq_true,decide_eq_true_eq,decide_eq_true_eq] at h;exact h
theorem In.mul{a b c d:R2}(h:In a b)(k:In c d):In (qP a c) (qP b d) :=
 have e:=ins_iff (mono_mul ⟨h.1,h.2.2⟩ ⟨k.1,k.2.2⟩ h.2.1 k.2.1)
 ⟨e.1,dA _ _,e.2⟩
theorem In.div{a b c d:R2}(hz:xH d.1 d.2=false)(h:In a b)(k:In c d):In (mN a c) (mN b d) :=
 have e:=ins_iff (mono_div hz ⟨h.1,h.2.2⟩ ⟨k.1,k.2.2⟩ h.2.1 k.2.1)
 ⟨e.1,dA _ _,e.2⟩
theorem In.sq{a b:R2}(h:In a b):In (gsq a) (gsq b) :=
 have e:=ins_iff (mono_sq ⟨h.1,h.2.2⟩ h.2.1)
 ⟨e.1,sqL_le _ _,e.2⟩
def InJ(y z:JV):Prop:=In y.v z.v/\∀ i,In (y.g.getD i z2) (z.g.getD i z2)
theorem in_node{bp bx:List R2}{Lp Lx:List JV}{x:qB}{z:Int}{k:Nat}(hg:Gd z k x)(hb:∀ i,In (bp.getD i z2) (bx.getD i z2))(ih:∀ a:Int,0<=a->a<k->InJ (jA Lp a) (jA Lx a))(hd:x.op=5->xH (jA Lx x.b).v.1 (jA Lx x.b).v.2=false) :
  In (nV bp Lp x) (nV bx Lx x)/\∀ i,In (nG bp Lp x i) (nG bx Lx x i):=by
 rcases hg.kd with ⟨e,f⟩ | ⟨e,f⟩ | ⟨e,f⟩
 ·rcases f with f | f
  ·unfold nV nG
   simp only[f]
   exact ⟨.pt _,fun i=>.gw 0⟩
  ·refine ⟨by unfold nV;simp only[f];exact hb _,fun i=>?_⟩
   rw[nG_1 f,nG_1 f]
   split
   ·exact .gw 1
   ·exact .gw 0
 ·have ha:=ih _ (hg.a (by omega)).1 (hg.a (by omega)).2
  unfold nV nG
  rcases f with f | f
  ·simp only[f]
   exact ⟨.sub (.gw 0) ha.1,fun i=>.sub (.gw 0) (ha.2 i)⟩
  ·simp only[f]
   exact ⟨.sq ha.1,fun i=>.mul (.gw 2) (.mul ha.1 (ha.2 i))⟩
 ·have ha:=ih _ (hg.a (by omega)).1 (hg.a (by omega)).2
  have hc:=ih _ (hg.b e).1 (hg.b e).2
  unfold nG
  unfold nV
  rcases f with f | f | f | f
  ·simp only[f]
   exact ⟨.add ha.1 hc.1,fun i=>.add (ha.2 i) (hc.2 i)⟩
  ·simp only[f]
   exact ⟨.sub ha.1 hc.1,fun i=>.sub (ha.2 i) (hc.2 i)⟩
  ·simp only[f]
   exact ⟨.mul ha.1 hc.1,fun i=>.add (.mul ha.1 (hc.2 i)) (.mul hc.1 (ha.2 i))⟩
  ·simp only[f]
   have hd:=hd f
   exact ⟨.div hd ha.1 hc.1,fun i=>.div hd (.sub (ha.2 i) (.mul (.div hd ha.1 hc.1) (hc.2 i))) hc.1⟩
theorem in_jk{bp bx:List R2}(hl:bp.length=bx.length){V W:R2}{F G:Nat->R2}(h:In V W/\∀ i,In (F i) (G i)):InJ (jk V F bp.length) (jk W G bx.length):=by
 refine ⟨h.1,fun i=>?_⟩
 unfold jk
 dsimp only
 rw[hl,List.getD_eq_getElem?_getD,List.getD_eq_getElem?_getD,List.getElem?_map,List.getElem?_map]
 rcases Nat.lt_or_ge i bx.length with h3 | h3
 ·rw[List.getElem?_range h3];exact h.2 i
 ·rw[List.getElem?_eq_none (by simpa using h3)];exact .z2
section
variable {bp bx:List R2} {t:List qB} {z:Int} (hl:bp.length=bx.length) (hb:∀ i,In (bp.getD i z2) (bx.getD i z2)) (hup:lT z t t.length) (hd:dzT bx t=false)
include hl hb hup hd
theorem in_jU:∀ n,∀ k,k<n->k<t.length->InJ (nJ bp (jU bp t k) (t.getD k tz)) (nJ bx (jU bx t k) (t.getD k tz))
 |0,k,hk,_=>by omega
 |n+1,k,hk,hkt=>by
  have hg:=gd_of (hup k hkt) (gY t k)
  have ih:∀ a:Int,0<=a->a<k->InJ (jA (jU bp t k) a) (jA (jU bx t k) a):=fun a h0 h1=>by
   unfold jA
   rw[jU_at (by omega),jU_at (by omega)]
   exact in_jU n a.toNat (by omega) (by omega)
  refine in_jk hl (in_node hg hb ih fun h5=>?_)
  have h:=dz_no hd hkt
  unfold dzB at h
  rw[decide_eq_true h5,Bool.true_and] at h
  exact h
theorem in_last(h1:1<=t.length):InJ (kA bp t) (kA bx t):=by
 unfold kA
 rw[jU_at (by omega),jU_at (by omega)]
 exact in_jU hl hb hup hd t.length (t.length-1) (by omega) (by omega)
theorem in_dz:dzT bp t=false:=by
 unfold dzT
 rw[List.any_eq_false]
 intro k hk
 have hk:=List.mem_range.1 hk
 rw[Bool.not_eq_true]
 have h:=dz_no hd hk
 unfold dzB at *
 by_cases h5:(t.getD k tz).op=5
 ·rw[decide_eq_true h5,Bool.true_and] at *
  have hg:=gd_of (hup k hk) (gY t k)
  have hc:=hg.b (by rw[h5];decide)
  have hi:InJ (jA (jU bp t k) (t.getD k tz).b) (jA (jU bx t k) (t.getD k tz).b):=by
   unfold jA
   rw[jU_at (by omega),jU_at (by omega)]
   exact in_jU hl hb hup hd t.length _ (by omega) (by omega)
  exact zeroG_sub h ⟨hi.1.1,hi.1.2.2⟩
 ·rw[decide_eq_false h5,Bool.false_and]
end
def qE(q:List (List jR))(i j:Nat):Rat:=qS ((q.getD i []).getD j zr)
def bdJ(q:List (List jR))(gs:List R2)(i:Nat)(s:R2):Nat->R2
 |0=>s
 |j+1=>vJ (bdJ q gs i s j) (qP (yX (((2:Int):Rat)*qE q i j)) (qP (gs.getD i z2) (gs.getD j z2)))
def bdD(q:List (List jR))(gs:List R2)(i:Nat)(s:R2):R2:=vJ s (qP (yX (qE q i i)) (gsq (gs.getD i z2)))
def bdI(q:List (List jR))(gs:List R2):Nat->R2
 |0=>gw 0
 |i+1=>bdJ q gs i (bdD q gs i (bdI q gs i)) i
def bdR(q:List (List jR))(gs:List R2):R2:=bdI q gs gs.length
theorem qE_ql{q:List (List jR)}(hq:uY 6 q)(i j:Nat):QL (qE q i j) 6:=by
 unfold qE
 rw[List.getD_eq_getElem?_getD]
 rcases Nat.lt_or_ge j (q.getD i []).length with h | h
 ·rw[List.getElem?_eq_getElem h]
  have hr:xN 6 (q.getD i []):=by
   rcases Nat.lt_or_ge i q.length with h2 | h2
   ·exact vT (d:=[]) hq h2
   ·rw[List.getD_eq_getElem?_getD,List.getElem?_eq_none h2] at h;simp at h
  exact (hr.1 _ (List.getElem_mem _)).ql
 ·rw[List.getElem?_eq_none h]
  exact (fC (x:=zr) (by decide) (by decide) (by decide)).ql
section
variable {q:List (List jR)} {gs:List R2} (hq:uY 6 q) (hg:∀ y∈gs,GL 1048576 y)
include hq hg
theorem bdD_gl{i:Nat}{s:R2}{n:Nat}(hs:GL n s):GL (n+2097200) (bdD q gs i s):=by
 have h:=kZ hg (by decide) i
 exact lY hs (xJ (fQ (qE_ql hq i i)) (gl_sq h (Nat.le_refl _)) (Nat.le_refl _)) (by omega)
theorem bdJ_gl{i:Nat}{s:R2}{n:Nat}(hs:GL n s):∀ {j},GL (n+2097200*j) (bdJ q gs i s j)
 |0=>kW hs (by omega)
 |j+1=>by
  have h:=kZ hg (by decide) i
  have h2:=kZ hg (by decide) j
  exact lY (bdJ_gl hs) (xJ (fQ (qD (vS (z:=2) (n:=3) (xS)) (qE_ql hq i j) (Nat.le_refl _))) (xJ h h2 (Nat.le_refl _)) (Nat.le_refl _)) (by omega)
theorem bdI_gl:∀ {i},i<=4->GL (3+10486000*i) (bdI q gs i)
 |0,_=>gl_w (z:=0) (by decide) (by decide)
 |i+1,h=>kW (bdJ_gl hq hg (bdD_gl hq hg (bdI_gl (by omega)))) (by omega)
theorem bdI_26{i:Nat}(h:i<=4):GL 67108864 (bdI q gs i):=kW (bdI_gl hq hg h) (by omega)
theorem bdJ_26{i j:Nat}(h:i<4)(hj:j<=i):GL 67108864 (bdJ q gs i (bdD q gs i (bdI q gs i)) j):=kW (bdJ_gl hq hg (bdD_gl hq hg (bdI_gl hq hg (Nat.le_of_lt h)))) (by omega)
end
theorem q_can{q:List (List jR)}{m n i j:Nat}(hr:yL q m n)(hi:i<m)(hj:j<n):(q.getD i []).getD j zr=jN (qE q i j):=by
 obtain ⟨h1,h2⟩:=hr.at hi
 have e:=vrow_map h2
 have e1:=cP jN (List.map qS (q.getD i [])) 0 zr (j:=j) (by rw[List.length_map];omega)
 have e2:=cP qS (q.getD i []) zr 0 (j:=j) (by omega)
 rw[e,e2] at e1
 exact e1
def sJ(q:List (List jR))(u:Nat->Rat)(i:Nat)(s:Rat):Nat->Rat
 |0=>s
 |j+1=>sJ q u i s j+(((2:Int):Rat)*qE q i j)*(u i*u j)
def sI(q:List (List jR))(u:Nat->Rat):Nat->Rat
 |0=>((0:Int):Rat)
 |i+1=>sJ q u i (sI q u i+qE q i i*(u i*u i)) i
def Hs(y:R2)(x:Rat):Prop:=y.1<=x/\x<=y.2
theorem Hs.add{a b:R2}{x y:Rat}(h:Hs a x)(k:Hs b y):Hs (vJ a b) (x+y):=gV.1 (has_add h k)
theorem Hs.mul{a b:R2}{x y:Rat}(h:Hs a x)(k:Hs b y):Hs (qP a b) (x*y):=gV.1 (has_mul h k)
theorem Hs.sq{a:R2}{x:Rat}(h:Hs a x):Hs (gsq a) (x*x):=gV.1 (has_sq h)
theorem Hs.pt(x:Rat):Hs (yX x) x:=⟨Rat.le_refl,Rat.le_refl⟩
section
variable {q:List (List jR)} {gs:List R2} {u:Nat->Rat}
theorem bdJ_hs{i:Nat}{s:R2}{x:Rat}(hs:Hs s x)(hi:Hs (gs.getD i z2) (u i)):∀ {j},(∀ k,k<j->Hs (gs.getD k z2) (u k))->Hs (bdJ q gs i s j) (sJ q u i x j)
 |0,_=>hs
 |j+1,h=>.add (bdJ_hs hs hi fun k hk=>h k (by omega)) (.mul (.pt _) (.mul hi (h j (by omega))))
theorem bdI_hs:∀ {i},(∀ k,k<i->Hs (gs.getD k z2) (u k))->Hs (bdI q gs i) (sI q u i)
 |0,_=>⟨Rat.le_refl,Rat.le_refl⟩
 |i+1,h=>bdJ_hs (.add (bdI_hs fun k hk=>h k (by omega)) (.mul (.pt _) (.sq (h i (by omega))))) (h i (by omega)) fun k hk=>h k (by omega)
theorem sJ_sm{i:Nat}{x:Rat}:∀ {j},sJ q u i x j=x+sm (fun k=>(((2:Int):Rat)*qE q i k)*(u i*u k)) j
 |0=>by show x=x+0;rw[Rat.add_zero]
 |j+1=>by
  show sJ q u i x j+_=x+(sm _ j+_)
  rw[sJ_sm (j:=j),Rat.add_assoc]
theorem sm_tri{f:Nat->Nat->Rat}:∀ n,sm (fun i=>sm (fun j=>f i j) (n+1)) (n+1)=sm (fun i=>sm (fun j=>f i j) n) n+sm (fun i=>f i n) n+sm (fun j=>f n j) n+f n n:=fun n=>by
 show sm (fun i=>sm (fun j=>f i j) n+f i n) n+(sm (fun j=>f n j) n+f n n)=_
 rw[sm_add];grind
theorem sI_sm{n:Nat}(hs:∀ i j,i<n->j<i->qE q i j=qE q j i):∀ {i},i<=n->sI q u i=sm (fun a=>sm (fun b=>u a*(qE q a b*u b)) i) i
 |0,_=>rfl
 |i+1,h=>by
  have e1:sm (fun k=>(((2:Int):Rat)*qE q i k)*(u i*u k)) i=sm (fun a=>u a*(qE q a i*u i)) i+sm (fun b=>u i*(qE q i b*u b)) i:=by
   rw[<- sm_add]
   refine sm_congr fun k hk=>?_
   rw[<- hs i k (by omega) hk]
   show (2:Rat)*qE q i k*(u i*u k)=_
   grind
  show sJ q u i _ i=_
  rw[sJ_sm,sI_sm hs (Nat.le_of_succ_le h),e1,sm_tri];grind
theorem bd_cov{n:Nat}{g:List jR}(hr:yL q q.length n)(hq:q.length=n)(hs:symB q=true)(hl:g.length=n)(hn:gs.length=n)(h:∀ i,i<n->Hs (gs.getD i z2) (qS (g.getD i zr))):Hs (bdR q gs) (fG q g g):=by
 have e:fG q g g=sI q (fun i=>qS (g.getD i zr)) n:=by
  rw[covR_sm hr hq hl,sI_sm (n:=n) (fun i j hi hj=>sym_at hs (by omega) hj) (Nat.le_refl n)]
  exact sm_congr fun i hi=>by rw[<- sm_mul];rfl
 rw[e]
 unfold bdR
 rw[hn]
 exact bdI_hs h
end
def atG(y:R2)(k:Nat):Rat:=atQ y.1 y.2 k
def cJ(bv:List R2)(v:Nat->Nat):List Rat:=(List.range bv.length).map fun i=>atG (bv.getD i z2) (v i)
theorem nC(bv:List R2)(v:Nat->Nat):(cJ bv v).length=bv.length:=by unfold cJ;simp
theorem ptsG_at{bv:List R2}{v:Nat->Nat}{i:Nat}(h:i<bv.length):(cJ bv v).getD i 0=atG (bv.getD i z2) (v i):=by
 unfold cJ
 rw[List.getD_eq_getElem?_getD,List.getElem?_map,List.getElem?_range h];rfl
theorem ptsG_ql{bv:List R2}{v:Nat->Nat}(hb:∀ y∈bv,GL 6 y):∀ p∈cJ bv v,QL p 24:=fun p hp=>by
 obtain ⟨i,hi,rfl⟩:=List.mem_map.1 hp
 have h:=kZ hb (by decide) i
 exact qG (ql_at (v i) h.1 h.2.1) (by decide)
theorem ptsG_in{bv:List R2}{v:Nat->Nat}(hb:∀ y∈bv,GL 6 y)(i:Nat):In ((List.map yX (cJ bv v)).getD i z2) (bv.getD i z2):=by
 have h:=kZ hb (by decide) i
 rcases Nat.lt_or_ge i bv.length with hi | hi
 ·rw[cP yX (cJ bv v) 0 z2 (by rw[nC];exact hi),ptsG_at hi]
  have e:=at_in h.2.2 (v i)
  exact ⟨e.1,Rat.le_refl,e.2⟩
 ·rw[List.getD_eq_getElem?_getD,List.getElem?_eq_none (by rw[List.length_map,nC];exact hi),List.getD_eq_getElem?_getD,List.getElem?_eq_none hi];exact .z2
theorem pts_step{bv:List R2}{v:Nat->Nat}{i:Nat}(h:i<bv.length):((cJ bv v).take i).map jN++[jN (atG (bv.getD i z2) (v i))]=((cJ bv v).take (i+1)).map jN:=by
 have hl:=nC bv v
 rw[List.take_succ,List.map_append,List.getElem?_eq_getElem (by omega),<- ptsG_at h,List.getD_eq_getElem?_getD,List.getElem?_eq_getElem (by omega)];rfl
def a4(p:A4 Nat)(i:Nat):Nat:=match i with
 |0=>p.a0
 |1=>p.a1
 |2=>p.a2
 |_=>p.a3
theorem qE_two(a:Rat):a+a=((2:Int):Rat)*a:=by show _=(2:Rat)*a;grind
theorem bd_gl{q:List (List jR)}{bv:List R2}{u:JV}(hq:uY 6 q)(hj:nZ 1048576 bv.length u)(h4:bv.length<=4):GL 67108864 (bdR q u.g):=bdI_26 hq hj.2.1 (by rw[hj.2.2];exact h4)
def endC(x:jR):Bool:=(decide (1<((x.num.gs.length:Nat):Int))||decide (1<((x.den.gs.length:Nat):Int)))||(((x.den.gs.length:Nat):Int) == 1&&decide (1<((x.den.gs.getD 0 0:Nat):Int)))
def endM(x:jR)(m:Nat):Nat:=if endC x=true then max m (x.num.gs.length+x.den.gs.length) else m
theorem endM_y{x:jR}{m:Nat}(h:endC x=true):endM x m=max m (x.num.gs.length+x.den.gs.length):=if_pos h
theorem endM_n{x:jR}{m:Nat}(h:endC x=false):endM x m=m:=if_neg (by rw[h];decide)
def endJ(l:List jR)(m:Nat):Nat->Nat
 |0=>m
 |j+1=>endM (l.getD j zr) (endJ l m j)
def ltI(rb:List jL):Nat->Nat
 |0=>1
 |i+1=>endJ [(rb.getD i (jL.mk zr zr)).lo,(rb.getD i (jL.mk zr zr)).hi] (ltI rb i) 2
def sumW(l:List Int):Nat->Int
 |0=>0
 |j+1=>IntKind.i64.wrap (sumW l j+l.getD j 0)
def lM(rb:List jL)(t:List qB):Bool:=((((ltI rb rb.length:Nat):Int) == 1)||(((gK 8 t:Nat):Int) != 0))||decide (IntKind.i64.wrap (((ltI rb rb.length:Nat):Int)*sumW (eG 8 t) (eG 8 t).length)<=80)
theorem endM_le{x:jR}{m n:Nat}(h1:x.num.gs.length<=n)(h2:x.den.gs.length<=n)(hm:m<=2*n):endM x m<=2*n:=by
 unfold endM
 split
 ·rcases Nat.le_total m (x.num.gs.length+x.den.gs.length) with h | h
  ·rw[Nat.max_eq_right h];omega
  ·rw[Nat.max_eq_left h];exact hm
 ·exact hm
theorem end_len{n:Nat}{a:jL}(h:GOk n a)(h1:1<=n):∀ j,([a.lo,a.hi].getD j zr).num.gs.length<=n/\([a.lo,a.hi].getD j zr).den.gs.length<=n
 |0=>⟨h.1.n1,h.1.n2⟩
 |1=>⟨h.2.n1,h.2.n2⟩
 |j+2=>⟨Nat.zero_le _,Nat.zero_le _⟩
theorem bd_f{v:Bool}{n:Nat}(h:(!v||((n:Nat):Int) != ((0:Nat):Int))=false):(v&&decide (n=0))=true:=by
 rw[Bool.or_eq_false_iff,Bool.not_eq_false',bne_eq_false_iff_eq] at h
 rw[h.1,Bool.true_and,decide_eq_true_eq]
 omega
theorem tmL_le(z:Int)(t:List qB):(eG z t).length<=t.length:=by
 by_cases h:gK z t=0
 ·exact Nat.le_of_eq (tmL_len (by omega))
 ·unfold eG;rw[if_neg h];exact Nat.zero_le _
theorem qok_dig{n:Nat}{x:jR}(h:xP x<=n)(h1:1<=n):hP x (qS x) n:=by
 unfold xP at h
 exact fC h1 (by omega) (by omega)
theorem box_form{n:Nat}{rb:List jL}(h:∀ a∈rb,GOk n a)(hv:rb.all uJ=true):∃ bv:List R2,rb=List.map jY bv/\∀ y∈bv,GL n y:=by
 refine ⟨rb.map fun a=>(qS a.lo,qS a.hi),?_,fun y hy=>?_⟩
 ·rw[List.map_map]
  conv=>lhs;rw[<- List.map_id rb]
  exact List.map_congr_left fun a ha=>(validG_form (List.all_eq_true.1 hv a ha)).1
 ·obtain ⟨a,ha,rfl⟩:=List.mem_map.1 hy
  exact ⟨(h a ha).1.ql,(h a ha).2.ql,(validG_form (List.all_eq_true.1 hv a ha)).2⟩
end Go.Proofs.YtnajallgoaiahaaGreatDoor
namespace Go.Fid
section
variable {P:Program} {S:SL} {B:BS} {o:Oper} {T:TypeId} {x:Operand} {k:Nat}
theorem oLi{cs:List SV}{p:Nat}(hs:qX P T=some (false,1))(f:Nat->jZ)(m j:Nat)(ho:o.op=.load T x:=by exact rfl)(hx:ev (kK S) x=.ref k (p+j*1):=by exact rfl)(hb:kB B k=some cs:=by exact rfl)(hj:j<m:=by omega)
  (hf:∀ i,i<m->cs[p+i*1]?=some (.d (f i)):=by intro i hi;rcases i with _ | _ | _ | _ | i<;>first | rfl | omega):ROk P o S B k (.d (f j)):=⟨cs,e_ld1 ho hx hs (hf j hj),hb⟩
end
end Go.Fid
namespace Go.Proofs.YtnajallgoaiahaaGreatDoor
open Go.Fid
theorem cb106:callB Tryz.prog 106=true:=by kernel_rfl
theorem b_add(p:Rat)(hp:QL p 16)(a:R2)(ha:GL 2097300 a)(s:R2)(hsm:GL 67108864 s):xA Tryz.prog 106 [(.d (jJ (jN p))),(.d (jF (jY a))),(.ref 0 0)] [(0,some (bx (jF (jY s))))] (.d (.tup [])) [(0,some (bx (jF (jY (vJ s (qP (yX p) a))))))]:=by
 refine nA Tryz.func106 rfl cb106 rfl ?_
 refine jB<|kx [(3,(.ref 1 0)),(4,(.ref 2 0))] [(1,some (bx (jJ (jN p)))),(2,some (bx (jF (jY a))))] (zN (uU 1)<|zN (uU 2)<|zZ) ?_
 refine jB<|kx [(5,(.ref 3 0))] [(3,some (bx (jF (jY (yX p)))))] (zR (kJ jQ)<|zE (jV (i_ptC p (qG hp)))<|zM<|zE (oQd (jF (jL.mk (jN p) (jN p))) (jF (jY (yX p))) uX (by exact rfl))<|zE uX<|zN (qR 3 qJ qL)<|zT (qA jP)<|zM<|zZ) ?_
 refine jB<|kx [] [(3,some (bx (jF (jY (qP (yX p) a)))))] (zR (kJ jP)<|zR (kJ jP)<|zE (jV (i_mul ((yX p).1) ((yX p).2) a.1 a.2 (qG (fQ hp).1) (qG (fQ hp).2.1) (qG ha.1) (qG ha.2.1) (fQ hp).2.2 ha.2.2))<|zM<|zE (oQd (jF (jL.mk (jN (hC (((yX p).1)*a.1) [(((yX p).1)*a.2),(((yX p).2)*a.1),(((yX p).2)*a.2)])) (jN (nY (((yX p).1)*a.1) [(((yX p).1)*a.2),(((yX p).2)*a.1),(((yX p).2)*a.2)])))) (jF (jY (qP (yX p) a))) uX (by exact rfl))<|zE uX<|zT (qA jP)<|zZ) ?_
 refine kx [] [(0,some (bx (jF (jY (vJ s (qP (yX p) a))))))] (zR (kJ jP)<|zR (kJ jP)<|zE (jV (i_add s.1 s.2 ((qP (yX p) a).1) ((qP (yX p) a).2) (qG hsm.1) (qG hsm.2.1) (qG (xJ (k:=2097316) (fQ hp) ha).1) (qG (xJ (k:=2097316) (fQ hp) ha).2.1) hsm.2.2 (xJ (k:=2097316) (fQ hp) ha).2.2))<|zM<|zE (oQd (jF (jL.mk (jN (s.1+((qP (yX p) a).1))) (jN (s.2+((qP (yX p) a).2))))) (jF (jY (vJ s (qP (yX p) a)))) uX (by exact rfl))<|zE uX<|zT (qA jP)<|zZ) ?_
 refine ⟨yG (by kernel_rfl),gJ (by kernel_rfl),.inl ⟨_,.nil,?_⟩⟩
 rfl
theorem p_bnd(t:List qB)(ht:zL 1048576 t)(bv:List R2)(hbx:∀ x∈bv,GL 1048576 x)(q:List (List jR))(hq:uY 6 q)(hr:JRunP bv t)(hf:nP q bv.length=0)(hbl:bv.length<=1000000)(hrm:yL q q.length bv.length)(hbq:bv.length=q.length)(h4:bv.length<=4):jO Tryz.prog 49 [(.sl 83 7 (List.map kS t)),(.sl 61 8 (List.map jF (List.map jY bv))),(.sl 24 1 (List.map jT q))] (.tup [(jF (jY (bdR q (kA bv t).g))),(.val (.int .i64 (((0:Nat):Int))))]):=by
 have hjo:=hr.run.last
 have hgl:(kA bv t).g.length=bv.length:=hjo.2.2
 have hgG:∀ y∈(kA bv t).g,GL 1048576 y:=hjo.2.1
 obtain ⟨hfq,hfc,_⟩:=fit_of hf
 have hr0:yL q q.length (q.getD 0 []).length:=by rw[hfc];exact hrm
 have hq0:=aM hr0
 have hc0:=hr.run.c0
 let y2:=kH
 let y1:=(bx (jF (jL.mk y2 y2)))
 refine qY Tryz.func49 ?_
 refine jB<|kx [(6,(.ref 0 0))] [(0,some y1)] (zN (qR 0 qJ qL)<|zM<|zZ) ?_
 refine jB<|jB<|kx [(29,(vb false))] [] (zM<|zE (jV (p_val bv hbx hbl))<|zE gD<|zM<|zM<|zE (jV (m_chk q (gH hq)))<|zE (uP false mF (by exact bne_eq_false_iff_eq.2 (by rw[show (mZ q)=0 from hq0]<;>rfl)))<|zE xQ<|zZ) ?_
 refine kM ?_
 refine jC<|jB<|jB<|kx [(8,(jS (gK ((bv.length:Nat):Int) t)))] [] (zM<|zM<|zE (fO uA bv.length)<|zE (jV (j_chk t ht ((bv.length:Nat):Int)))<|zM<|zZ) ?_
 refine jB<|kx [(36,(vb false))] [] (zM<|zE (uP false mF (by exact bne_eq_false_iff_eq.2 (by rw[show (gK ((bv.length:Nat):Int) t)=0 from hc0]<;>rfl)))<|zZ) ?_
 refine kM ?_
 refine jC<|jB<|jB<|kx [(9,(jS (nP q bv.length)))] [] (zM<|zM<|zE (fO uA bv.length)<|zE (jV (p_fit q (gH hq) bv.length (by assumption)))<|zM<|zZ) ?_
 refine jB<|kx [(44,(vb false))] [] (zM<|zE (uP false mF (by exact bne_eq_false_iff_eq.2 (by rw[show (nP q bv.length)=0 from hf]<;>rfl)))<|zZ) ?_
 refine kM ?_
 refine jC<|jB<|kx [(10,(.ref 1 0)),(11,(jS 0))] [(1,some (bx (jI (qW (kA bv t)))))] (zM<|zM<|zE (jV (j_jets t ht bv hbx hr))<|zM<|zE uX<|zE uX<|zN (qR 1 mE cG)<|zT (qA gU)<|zM<|zZ) ?_
 refine jB<|jB<|kx [(54,(vb false))] [] (zM<|zE (uP false mF)<|zZ) ?_
 refine kM ?_
 refine jC<|jB<|kx [(12,(.ref 2 0))] [(2,some (bx (jF (jY (gw 0)))))] (zE (jV (bM 0))<|zE (jV (i_ptC ((0:Int):Rat) (qG (vS (z:=0) (vF)))))<|zM<|zE (oQd (jF (jL.mk (jN ((0:Int):Rat)) (jN ((0:Int):Rat)))) (jF (jY (gw 0))) uX (by exact rfl))<|zE uX<|zN (qR 2 qJ qL)<|zT (qA jP)<|zM<|zZ) ?_
 refine jB<|kx [(14,(.clo 106 [2]))] [] (zE (oMf [2])<|zM<|zZ) ?_
 refine jB<|jB<|kx [(64,(vl 61 8 jF (List.map jY ((kA bv t).g)))),(65,(jS (((kA bv t).g).length))),(66,(jS 0))] [] (zE (kV xO)<|zR (oQr (.sl 61 8 (List.map jF (List.map jY ((kA bv t).g)))) (.sl 61 8 (List.map jF (List.map jY ((kA bv t).g)))) (uE cB) (by exact rfl))<|zE (fO uA (((kA bv t).g).length))<|zM<|zZ) ?_
 refine jH<|kF (α:=Nat × R2) (fun (i,s)=>⟨[(2,(vl 24 1 jT q)),(6,(.ref 0 0)),(10,(.ref 1 0)),(12,(.ref 2 0)),(14,(.clo 106 [2])),(64,(vl 61 8 jF (List.map jY ((kA bv t).g)))),(65,(jS (((kA bv t).g).length))),(66,(jS i))],[(0,some y1),(1,some (bx (jI (qW (kA bv t))))),(2,some (bx (jF (jY s))))]⟩) (fun (i,s)=>i<=(kA bv t).g.length/\s=bdI q (kA bv t).g i) (fun (i,s)=>(kA bv t).g.length-i) (0,gw 0) wk ⟨Nat.zero_le _,rfl⟩ ?_
 rintro ⟨i,s⟩ ⟨hi,hs⟩
 refine jB<|kx [(67,(vb (decide (((i:Nat):Int)<((((kA bv t).g).length:Nat):Int)))))] [] (zE xK<|zZ) ?_
 refine jB<|jG rfl (fun h1=>?_) (fun h1=>?_)
 ·replace h1:=uV h1
  have hri:=(hrm.at (show i<q.length by omega)).1
  refine jC<|jB<|jH<|jB<|kx [(15,(jS i)),(16,(.ref 3 0))] [(3,some (bx (jF (jY (((kA bv t).g).getD i z2)))))] (zM<|zE (bC uA jY i z2)<|zE (yJ jP)<|zN (qR 3 qJ qL)<|zM<|zT (qA jP)<|zZ) ?_
  refine jB<|kx [(17,(.ref 4 0))] [(4,some (bx (jF (jL.mk (jN (sqL ((((kA bv t).g).getD i z2).1) ((((kA bv t).g).getD i z2).2))) (jN (sqH ((((kA bv t).g).getD i z2).1) ((((kA bv t).g).getD i z2).2)))))))] (zR (kJ jP)<|zE (jV (i_square ((((kA bv t).g).getD i z2).1) ((((kA bv t).g).getD i z2).2) (qG (kZ (hr.run.last).2.1 (by decide) i).1) (qG (kZ (hr.run.last).2.1 (by decide) i).2.1) (kZ (hr.run.last).2.1 (by decide) i).2.2))<|zM<|zE uX<|zE uX<|zN (qR 4 qJ qL)<|zT (qA jP)<|zM<|zZ) ?_
  refine jB<|kd [] [(2,some (bx (jF (jY (vJ s (qP (yX (qE q i i)) ((sqL ((((kA bv t).g).getD i z2).1) ((((kA bv t).g).getD i z2).2)),(sqH ((((kA bv t).g).getD i z2).1) ((((kA bv t).g).getD i z2).2)))))))))] mo (wM<|wM<|wM<|wE (yE yH i ([]:List (jR)))<|wE (yV cF)<|wM<|wE (yE uQ i y2 (L:=(q.getD i [])))<|wE (oQd (jJ ((q.getD i []).getD i y2)) (jJ (jN (qE q i i))) (yJ jQ) (by exact (congrArg jJ (q_can hrm (show i<q.length by omega) (show i<bv.length by omega)))))<|wR (kJ jP)<|wS [2] [] (.d (.tup [])) [(.d (jJ (jN (qE q i i)))),(.d (jF (jL.mk (jN (sqL ((((kA bv t).g).getD i z2).1) ((((kA bv t).g).getD i z2).2))) (jN (sqH ((((kA bv t).g).getD i z2).1) ((((kA bv t).g).getD i z2).2)))))),(.ref 2 0)] [(2,some (bx (jF (jY s))))] [(2,some (bx (jF (jY (vJ s (qP (yX (qE q i i)) ((sqL ((((kA bv t).g).getD i z2).1) ((((kA bv t).g).getD i z2).2)),(sqH ((((kA bv t).g).getD i z2).1) ((((kA bv t).g).getD i z2).2)))))))))] (b_add (qE q i i) (qG (qE_ql hq i i)) ((sqL ((((kA bv t).g).getD i z2).1) ((((kA bv t).g).getD i z2).2)),(sqH ((((kA bv t).g).getD i z2).1) ((((kA bv t).g).getD i z2).2))) (kW (⟨(ql_sqL (qD (k:=2097152) (kZ (hr.run.last).2.1 (by decide) i).1 (kZ (hr.run.last).2.1 (by decide) i).1) (qD (k:=2097152) (kZ (hr.run.last).2.1 (by decide) i).2.1 (kZ (hr.run.last).2.1 (by decide) i).2.1)),(ql_sqH (qD (k:=2097152) (kZ (hr.run.last).2.1 (by decide) i).1 (kZ (hr.run.last).2.1 (by decide) i).1) (qD (k:=2097152) (kZ (hr.run.last).2.1 (by decide) i).2.1 (kZ (hr.run.last).2.1 (by decide) i).2.1)),(sqL_le ((((kA bv t).g).getD i z2).1) ((((kA bv t).g).getD i z2).2))⟩)) s (show GL 67108864 s by rw[hs];exact bdI_26 hq hgG (show i<=4 by omega))) (.cons rfl (rnL_dat _ _) .nil) (.cons rfl (rnL_dat _ _) .nil) (by repeat first | exact .nil | refine .hid rfl ?_ | refine .none ?_ | refine .dat ?_ | refine .map ?_ | refine .cells (by kernel_rfl) ?_) (by repeat first | exact .nil | refine .dat ?_ | refine .map ?_ | refine .cells (by kernel_rfl) ?_) (hc:=aT (ex:=[.ref 2 0]) (by exact rfl) (.clo (kk:=[2]) (by kernel_rfl) (by kernel_rfl)) (by kernel_rfl))<|wZ) ?_
  refine jB<|kx [(86,(jS i)),(87,(jS 0))] [] (zM<|zM<|zZ) ?_
  refine jH<|kF (α:=Nat × R2) (fun (j,u)=>⟨[(2,(vl 24 1 jT q)),(6,(.ref 0 0)),(10,(.ref 1 0)),(12,(.ref 2 0)),(14,(.clo 106 [2])),(15,(jS i)),(16,(.ref 3 0)),(64,(vl 61 8 jF (List.map jY ((kA bv t).g)))),(65,(jS (((kA bv t).g).length))),(66,(jS i)),(86,(jS i)),(87,(jS j))],[(0,some y1),(1,some (bx (jI (qW (kA bv t))))),(2,some (bx (jF (jY u)))),(3,some (bx (jF (jY (((kA bv t).g).getD i z2)))))]⟩) (fun (j,u)=>j<=i/\u=bdJ q (kA bv t).g i (bdD q (kA bv t).g i s) j) (fun (j,u)=>i-j) (0,bdD q (kA bv t).g i s) wk ⟨Nat.zero_le _,rfl⟩ ?_
  rintro ⟨j,u⟩ ⟨hj,hu⟩
  refine jB<|kx [(88,(vb (decide (((j:Nat):Int)<((i:Nat):Int)))))] [] (zE xK<|zZ) ?_
  refine jB<|jG rfl (fun h2=>?_) (fun h2=>?_)
  ·replace h2:=uV h2
   refine jC<|jB<|jH<|jB<|kx [(19,(jS j))] [] (zM<|zM<|zZ) ?_
   refine jB<|kd [(20,(.ref 5 0))] [(5,some (bx (jF (jL.mk (jN (hC (((((kA bv t).g).getD i z2).1)*((((kA bv t).g).getD j z2).1)) [(((((kA bv t).g).getD i z2).1)*((((kA bv t).g).getD j z2).2)),(((((kA bv t).g).getD i z2).2)*((((kA bv t).g).getD j z2).1)),(((((kA bv t).g).getD i z2).2)*((((kA bv t).g).getD j z2).2))])) (jN (nY (((((kA bv t).g).getD i z2).1)*((((kA bv t).g).getD j z2).1)) [(((((kA bv t).g).getD i z2).1)*((((kA bv t).g).getD j z2).2)),(((((kA bv t).g).getD i z2).2)*((((kA bv t).g).getD j z2).1)),(((((kA bv t).g).getD i z2).2)*((((kA bv t).g).getD j z2).2))]))))))] mo (wR (kJ jP)<|wE (kV xO)<|wR (oQr (.sl 61 8 (List.map jF (List.map jY ((kA bv t).g)))) (.sl 61 8 (List.map jF (List.map jY ((kA bv t).g)))) (uE cB) (by exact rfl))<|wM<|wE (bC uA jY j z2)<|wE (yJ jP)<|wE (jV (i_mul ((((kA bv t).g).getD i z2).1) ((((kA bv t).g).getD i z2).2) ((((kA bv t).g).getD j z2).1) ((((kA bv t).g).getD j z2).2) (qG (kZ (hr.run.last).2.1 (by decide) i).1) (qG (kZ (hr.run.last).2.1 (by decide) i).2.1) (qG (kZ (hr.run.last).2.1 (by decide) j).1) (qG (kZ (hr.run.last).2.1 (by decide) j).2.1) (kZ (hr.run.last).2.1 (by decide) i).2.2 (kZ (hr.run.last).2.1 (by decide) j).2.2))<|wM<|wE uX<|wE uX<|wN (qR 5 qJ qL)<|wT (qA jP)<|wM<|wZ) ?_
   refine kd [] [(2,some (bx (jF (jY (vJ u (qP (yX (((2:Int):Rat)*(qE q i j))) ((hC (((((kA bv t).g).getD i z2).1)*((((kA bv t).g).getD j z2).1)) [(((((kA bv t).g).getD i z2).1)*((((kA bv t).g).getD j z2).2)),(((((kA bv t).g).getD i z2).2)*((((kA bv t).g).getD j z2).1)),(((((kA bv t).g).getD i z2).2)*((((kA bv t).g).getD j z2).2))]),(nY (((((kA bv t).g).getD i z2).1)*((((kA bv t).g).getD j z2).1)) [(((((kA bv t).g).getD i z2).1)*((((kA bv t).g).getD j z2).2)),(((((kA bv t).g).getD i z2).2)*((((kA bv t).g).getD j z2).1)),(((((kA bv t).g).getD i z2).2)*((((kA bv t).g).getD j z2).2))]))))))))] mo (wM<|wE (jV (bM 2))<|wM<|wM<|wE (yE yH i ([]:List (jR)))<|wE (yV cF)<|wM<|wE (yE uQ j y2 (L:=(q.getD i [])))<|wE (oQd (jJ ((q.getD i []).getD j y2)) (jJ (jN (qE q i j))) (yJ jQ) (by exact (congrArg jJ (q_can hrm (show i<q.length by omega) (show j<bv.length by omega)))))<|wE (jV (fK (jN ((2:Int):Rat)) (jN (qE q i j)) ((2:Int):Rat) (qE q i j) (jM (jW (vS (z:=2) (vF)))) (jM (jW (qE_ql hq i j)))))<|wR (kJ jP)<|wS [2] [] (.d (.tup [])) [(.d (jJ (jN (((2:Int):Rat)*(qE q i j))))),(.d (jF (jL.mk (jN (hC (((((kA bv t).g).getD i z2).1)*((((kA bv t).g).getD j z2).1)) [(((((kA bv t).g).getD i z2).1)*((((kA bv t).g).getD j z2).2)),(((((kA bv t).g).getD i z2).2)*((((kA bv t).g).getD j z2).1)),(((((kA bv t).g).getD i z2).2)*((((kA bv t).g).getD j z2).2))])) (jN (nY (((((kA bv t).g).getD i z2).1)*((((kA bv t).g).getD j z2).1)) [(((((kA bv t).g).getD i z2).1)*((((kA bv t).g).getD j z2).2)),(((((kA bv t).g).getD i z2).2)*((((kA bv t).g).getD j z2).1)),(((((kA bv t).g).getD i z2).2)*((((kA bv t).g).getD j z2).2))]))))),(.ref 2 0)] [(2,some (bx (jF (jY u))))] [(2,some (bx (jF (jY (vJ u (qP (yX (((2:Int):Rat)*(qE q i j))) ((hC (((((kA bv t).g).getD i z2).1)*((((kA bv t).g).getD j z2).1)) [(((((kA bv t).g).getD i z2).1)*((((kA bv t).g).getD j z2).2)),(((((kA bv t).g).getD i z2).2)*((((kA bv t).g).getD j z2).1)),(((((kA bv t).g).getD i z2).2)*((((kA bv t).g).getD j z2).2))]),(nY (((((kA bv t).g).getD i z2).1)*((((kA bv t).g).getD j z2).1)) [(((((kA bv t).g).getD i z2).1)*((((kA bv t).g).getD j z2).2)),(((((kA bv t).g).getD i z2).2)*((((kA bv t).g).getD j z2).1)),(((((kA bv t).g).getD i z2).2)*((((kA bv t).g).getD j z2).2))]))))))))] (b_add (((2:Int):Rat)*(qE q i j)) (qG (qD (k:=7) (vS (z:=2) (vF)) (qE_ql hq i j))) ((hC (((((kA bv t).g).getD i z2).1)*((((kA bv t).g).getD j z2).1)) [(((((kA bv t).g).getD i z2).1)*((((kA bv t).g).getD j z2).2)),(((((kA bv t).g).getD i z2).2)*((((kA bv t).g).getD j z2).1)),(((((kA bv t).g).getD i z2).2)*((((kA bv t).g).getD j z2).2))]),(nY (((((kA bv t).g).getD i z2).1)*((((kA bv t).g).getD j z2).1)) [(((((kA bv t).g).getD i z2).1)*((((kA bv t).g).getD j z2).2)),(((((kA bv t).g).getD i z2).2)*((((kA bv t).g).getD j z2).1)),(((((kA bv t).g).getD i z2).2)*((((kA bv t).g).getD j z2).2))])) (kW (⟨(ql_mnL (qD (k:=2097152) (kZ (hr.run.last).2.1 (by decide) i).1 (kZ (hr.run.last).2.1 (by decide) j).1) (List.forall_mem_cons.2 ⟨(qD (k:=2097152) (kZ (hr.run.last).2.1 (by decide) i).1 (kZ (hr.run.last).2.1 (by decide) j).2.1),(List.forall_mem_cons.2 ⟨(qD (k:=2097152) (kZ (hr.run.last).2.1 (by decide) i).2.1 (kZ (hr.run.last).2.1 (by decide) j).1),(List.forall_mem_cons.2 ⟨(qD (k:=2097152) (kZ (hr.run.last).2.1 (by decide) i).2.1 (kZ (hr.run.last).2.1 (by decide) j).2.1),(fun a h=>by cases h)⟩)⟩)⟩)),(ql_mxL (qD (k:=2097152) (kZ (hr.run.last).2.1 (by decide) i).1 (kZ (hr.run.last).2.1 (by decide) j).1) (List.forall_mem_cons.2 ⟨(qD (k:=2097152) (kZ (hr.run.last).2.1 (by decide) i).1 (kZ (hr.run.last).2.1 (by decide) j).2.1),(List.forall_mem_cons.2 ⟨(qD (k:=2097152) (kZ (hr.run.last).2.1 (by decide) i).2.1 (kZ (hr.run.last).2.1 (by decide) j).1),(List.forall_mem_cons.2 ⟨(qD (k:=2097152) (kZ (hr.run.last).2.1 (by decide) i).2.1 (kZ (hr.run.last).2.1 (by decide) j).2.1),(fun a h=>by cases h)⟩)⟩)⟩)),(dA (((((kA bv t).g).getD i z2).1)*((((kA bv t).g).getD j z2).1)) [(((((kA bv t).g).getD i z2).1)*((((kA bv t).g).getD j z2).2)),(((((kA bv t).g).getD i z2).2)*((((kA bv t).g).getD j z2).1)),(((((kA bv t).g).getD i z2).2)*((((kA bv t).g).getD j z2).2))])⟩)) u (show GL 67108864 u by rw[hu,hs];exact bdJ_26 hq hgG (show i<4 by omega) hj)) (.cons rfl (rnL_dat _ _) .nil) (.cons rfl (rnL_dat _ _) .nil) (by repeat first | exact .nil | refine .hid rfl ?_ | refine .none ?_ | refine .dat ?_ | refine .map ?_ | refine .cells (by kernel_rfl) ?_) (by repeat first | exact .nil | refine .dat ?_ | refine .map ?_ | refine .cells (by kernel_rfl) ?_) (hc:=aT (ex:=[.ref 2 0]) (by exact rfl) (.clo (kk:=[2]) (by kernel_rfl) (by kernel_rfl)) (by kernel_rfl))<|wZ) ?_
   refine kx [(87,(jS (j+1)))] [] (zE (vO (j+1))<|zM<|zZ) ?_
   exact ⟨(j+1,vJ u (qP (yX (((2:Int):Rat)*qE q i j)) (qP ((kA bv t).g.getD i z2) ((kA bv t).g.getD j z2)))),wk,⟨by omega,by rw[hu];rfl⟩,(by first|omega|(dsimp only;omega))⟩
  ·replace h2:=vB h2
   refine kD<|kx [(66,(jS (i+1)))] [] (zE (vO (i+1))<|zM<|zZ) ?_
   exact ⟨(i+1,u),wk,⟨by omega,by rw[hu,show j=i by omega,hs];rfl⟩,(by first|omega|(dsimp only;omega))⟩
 ·replace h1:=vB h1
  refine kD<|jB<|kx [(7,(jS 0))] [(0,some (bx (jF (jY s))))] (zR (kJ jP)<|zT (qA jP)<|zM<|zZ) ?_
  refine jE ⟨_,(kI (cs:=(bx (jF (jY s)))) (d:=(jF (jY s))) rfl rfl jP rfl rfl (.tmp (d:=(.val (.int .i64 (((0:Nat):Int))))) rfl .nil)),?_⟩
  rw[hs,show i=(kA bv t).g.length by omega];rfl
theorem p_bndR(t:List qB)(ht:zL 1048576 t)(rb:List jL)(hrb:∀ a∈rb,GOk 1048576 a)(q:List (List jR))(hq:uY 1048576 q)(hv1:((List.all rb uJ)&&decide (mZ q=0))=false)(hbl:rb.length<=1000000):jO Tryz.prog 49 [(.sl 83 7 (List.map kS t)),(.sl 61 8 (List.map jF rb)),(.sl 24 1 (List.map jT q))] (.tup [(jF (jL.mk kH kH)),(.val (.int .i64 (((1:Nat):Int))))]):=by
 let y1:=(bx (jF (jL.mk kH kH)))
 refine qY Tryz.func49 ?_
 refine jB<|kx [(6,(.ref 0 0))] [(0,some y1)] (zN (qR 0 qJ qL)<|zM<|zZ) ?_
 refine jB<|jB<|kx [(29,(vb (!(List.all rb uJ)||((((mZ q):Nat):Int) != ((0:Nat):Int)))))] [] ?_ ?_
 ·refine zM<|zE (jV (p_valR rb hrb (by omega)))<|zE gD<|zE (oV (vb (!(List.all rb uJ))) (qC (by kernel_rfl)))<|?_
  rcases hb1:(!(List.all rb uJ)) with _ | _
  ·exact zM<|zE (jV (m_chk q hq))<|zE mF<|zE dG<|zZ
  ·exact zK<|zK<|zK<|zE yR<|zZ
 refine jG rfl (fun h2=>?_) (fun h2=>?_)
 ·refine jB<|kx [(7,(jS 1))] [(0,some y1)] (zE (eD iJ qJ qL)<|zT (qA jP)<|zM<|zZ) ?_
  refine jE ⟨_,(kI (cs:=y1) (d:=(jF (jL.mk kH kH))) rfl rfl jP rfl rfl (.tmp (d:=(.val (.int .i64 (((1:Nat):Int))))) rfl .nil)),?_⟩
  rfl
 ·exact absurd (bd_f h2) (by rw[hv1];decide)
theorem p_bnd1(t:List qB)(ht:zL 1048576 t)(bv:List R2)(hbx:∀ x∈bv,GL 1048576 x)(q:List (List jR))(hq:uY 1048576 q)(hc:gK ((bv.length:Nat):Int) t≠0)(hr0:yL q q.length (q.getD 0 []).length)(hbl:bv.length<=1000000):jO Tryz.prog 49 [(.sl 83 7 (List.map kS t)),(.sl 61 8 (List.map jF (List.map jY bv))),(.sl 24 1 (List.map jT q))] (.tup [(jF (jL.mk kH kH)),(.val (.int .i64 ((((gK ((bv.length:Nat):Int) t):Nat):Int))))]):=by
 have hq0:=aM hr0
 let y1:=(bx (jF (jL.mk kH kH)))
 refine qY Tryz.func49 ?_
 refine jB<|kx [(6,(.ref 0 0))] [(0,some y1)] (zN (qR 0 qJ qL)<|zM<|zZ) ?_
 refine jB<|jB<|kx [(29,(vb false))] [] (zM<|zE (jV (p_val bv hbx hbl))<|zE gD<|zM<|zM<|zE (jV (m_chk q hq))<|zE (uP false mF (by exact bne_eq_false_iff_eq.2 (by rw[show (mZ q)=0 from hq0]<;>rfl)))<|zE xQ<|zZ) ?_
 refine kM ?_
 refine jC<|jB<|jB<|kx [(8,(jS (gK ((bv.length:Nat):Int) t)))] [] (zM<|zM<|zE (fO uA bv.length)<|zE (jV (j_chk t ht ((bv.length:Nat):Int)))<|zM<|zZ) ?_
 refine jB<|kx [(36,(vb true))] [] (zM<|zE (uP true mF (by exact bne_iff_ne.2 (by have hx:=hc;omega)))<|zZ) ?_
 refine uI ?_
 refine jB<|kx [(7,(jS (gK ((bv.length:Nat):Int) t)))] [(0,some y1)] (zE (eD iJ qJ qL)<|zM<|zT (qA jP)<|zM<|zZ) ?_
 refine jE ⟨_,(kI (cs:=y1) (d:=(jF (jL.mk kH kH))) rfl rfl jP rfl rfl (.tmp (d:=(.val (.int .i64 ((((gK ((bv.length:Nat):Int) t):Nat):Int))))) rfl .nil)),?_⟩
 rfl
theorem p_bnd2(t:List qB)(ht:zL 1048576 t)(bv:List R2)(hbx:∀ x∈bv,GL 1048576 x)(q:List (List jR))(hq:uY 1048576 q)(hc:gK ((bv.length:Nat):Int) t=0)(hf:nP q bv.length≠0)(hr0:yL q q.length (q.getD 0 []).length)(hbl:bv.length<=1000000):jO Tryz.prog 49 [(.sl 83 7 (List.map kS t)),(.sl 61 8 (List.map jF (List.map jY bv))),(.sl 24 1 (List.map jT q))] (.tup [(jF (jL.mk kH kH)),(.val (.int .i64 ((((nP q bv.length):Nat):Int))))]):=by
 have hq0:=aM hr0
 let y1:=(bx (jF (jL.mk kH kH)))
 refine qY Tryz.func49 ?_
 refine jB<|kx [(6,(.ref 0 0))] [(0,some y1)] (zN (qR 0 qJ qL)<|zM<|zZ) ?_
 refine jB<|jB<|kx [(29,(vb false))] [] (zM<|zE (jV (p_val bv hbx hbl))<|zE gD<|zM<|zM<|zE (jV (m_chk q hq))<|zE (uP false mF (by exact bne_eq_false_iff_eq.2 (by rw[show (mZ q)=0 from hq0]<;>rfl)))<|zE xQ<|zZ) ?_
 refine kM ?_
 refine jC<|jB<|jB<|kx [(8,(jS (gK ((bv.length:Nat):Int) t)))] [] (zM<|zM<|zE (fO uA bv.length)<|zE (jV (j_chk t ht ((bv.length:Nat):Int)))<|zM<|zZ) ?_
 refine jB<|kx [(36,(vb false))] [] (zM<|zE (uP false mF (by exact bne_eq_false_iff_eq.2 (by rw[show (gK ((bv.length:Nat):Int) t)=0 from hc]<;>rfl)))<|zZ) ?_
 refine kM ?_
 refine jC<|jB<|jB<|kx [(9,(jS (nP q bv.length)))] [] (zM<|zM<|zE (fO uA bv.length)<|zE (jV (p_fit q hq bv.length hr0))<|zM<|zZ) ?_
 refine jB<|kx [(44,(vb true))] [] (zM<|zE (uP true mF (by exact bne_iff_ne.2 (by have hx:=hf;omega)))<|zZ) ?_
 refine uI ?_
 refine jB<|kx [(7,(jS (nP q bv.length)))] [(0,some y1)] (zE (eD iJ qJ qL)<|zM<|zT (qA jP)<|zM<|zZ) ?_
 refine jE ⟨_,(kI (cs:=y1) (d:=(jF (jL.mk kH kH))) rfl rfl jP rfl rfl (.tmp (d:=(.val (.int .i64 ((((nP q bv.length):Nat):Int))))) rfl .nil)),?_⟩
 rfl
theorem p_bnd3(t:List qB)(ht:zL 1048576 t)(bv:List R2)(hbx:∀ x∈bv,GL 1048576 x)(q:List (List jR))(hq:uY 1048576 q)(hc:gK ((bv.length:Nat):Int) t=0)(hf:nP q bv.length=0)(hfe:∃ k,JFailP bv t k)(hr0:yL q q.length (q.getD 0 []).length)(hbl:bv.length<=1000000):jO Tryz.prog 49 [(.sl 83 7 (List.map kS t)),(.sl 61 8 (List.map jF (List.map jY bv))),(.sl 24 1 (List.map jT q))] (.tup [(jF (jL.mk kH kH)),(.val (.int .i64 (((14:Nat):Int))))]):=by
 have hq0:=aM hr0
 let y2:=(jL.mk kH kH)
 let y1:=(bx (jF y2))
 refine qY Tryz.func49 ?_
 refine jB<|kx [(6,(.ref 0 0))] [(0,some y1)] (zN (qR 0 qJ qL)<|zM<|zZ) ?_
 refine jB<|jB<|kx [(29,(vb false))] [] (zM<|zE (jV (p_val bv hbx hbl))<|zE gD<|zM<|zM<|zE (jV (m_chk q hq))<|zE (uP false mF (by exact bne_eq_false_iff_eq.2 (by rw[show (mZ q)=0 from hq0]<;>rfl)))<|zE xQ<|zZ) ?_
 refine kM ?_
 refine jC<|jB<|jB<|kx [(8,(jS (gK ((bv.length:Nat):Int) t)))] [] (zM<|zM<|zE (fO uA bv.length)<|zE (jV (j_chk t ht ((bv.length:Nat):Int)))<|zM<|zZ) ?_
 refine jB<|kx [(36,(vb false))] [] (zM<|zE (uP false mF (by exact bne_eq_false_iff_eq.2 (by rw[show (gK ((bv.length:Nat):Int) t)=0 from hc]<;>rfl)))<|zZ) ?_
 refine kM ?_
 refine jC<|jB<|jB<|kx [(9,(jS (nP q bv.length)))] [] (zM<|zM<|zE (fO uA bv.length)<|zE (jV (p_fit q hq bv.length hr0))<|zM<|zZ) ?_
 refine jB<|kx [(44,(vb false))] [] (zM<|zE (uP false mF (by exact bne_eq_false_iff_eq.2 (by rw[show (nP q bv.length)=0 from hf]<;>rfl)))<|zZ) ?_
 refine kM ?_
 refine jC<|jB<|kx [(10,(.ref 1 0)),(11,(jS 14))] [(1,some (bx (jI (vX.mk y2 [] []))))] (zM<|zM<|zE (jV (j_jetsF t ht bv hbx hfe))<|zM<|zE uX<|zE uX<|zN (qR 1 mE cG)<|zT (qA gU)<|zM<|zZ) ?_
 refine jB<|jB<|kx [(54,(vb true))] [] (zM<|zE (uP true mF)<|zZ) ?_
 refine uI ?_
 refine jB<|kx [(7,(jS 14))] [(0,some y1)] (zE (eD iJ qJ qL)<|zM<|zT (qA jP)<|zM<|zZ) ?_
 refine jE ⟨_,(kI (cs:=y1) (d:=(jF y2)) rfl rfl jP rfl rfl (.tmp (d:=(.val (.int .i64 (((14:Nat):Int))))) rfl .nil)),?_⟩
 rfl
theorem u_bnd(G:List R2)(hG:∀ y∈G,GL 1048576 y)(q:List (List jR))(hq:uY 6 q)(hrm:yL q q.length G.length)(hbq:G.length=q.length)(hG4:G.length<=4):jO Tryz.prog 52 [(.sl 61 8 (List.map jF (List.map jY G))),(.sl 24 1 (List.map jT q))] (jF (jY (bdR q G))):=by
 let y2:=kH
 let y1:=(bx (jF (jL.mk y2 y2)))
 refine qY Tryz.func52 ?_
 refine jB<|kx [(4,(.ref 0 0))] [(0,some y1)] (zN (qR 0 qJ qL)<|zZ) ?_
 refine jB<|kx [(5,(.ref 1 0))] [(1,some (bx (jF (jY (gw 0)))))] (zE (oQd (jF (jL.mk (jN ((0:Int):Rat)) (jN ((0:Int):Rat)))) (jF (jY (gw 0))) (jV (h_whole 0 0)) (by exact rfl))<|zN (qR 1 qJ qL)<|zT (qA jP)<|zZ) ?_
 refine jB<|jB<|kx [(10,(jS G.length)),(11,(jS 0))] [] (zM<|zE (fO uA G.length)<|zM<|zZ) ?_
 refine jH<|kF (α:=Nat × R2) (fun (i,s)=>⟨[(0,(vl 61 8 jF (List.map jY G))),(1,(vl 24 1 jT q)),(4,(.ref 0 0)),(5,(.ref 1 0)),(10,(jS G.length)),(11,(jS i))],[(0,some y1),(1,some (bx (jF (jY s))))]⟩) (fun (i,s)=>i<=G.length/\s=bdI q G i) (fun (i,s)=>G.length-i) (0,gw 0) wk ⟨Nat.zero_le _,rfl⟩ ?_
 rintro ⟨i,s⟩ ⟨hi,hs⟩
 refine jB<|kx [(12,(vb (decide (((i:Nat):Int)<((G.length:Nat):Int)))))] [] (zE xK<|zZ) ?_
 refine jB<|jG rfl (fun h1=>?_) (fun h1=>?_)
 ·replace h1:=uV h1
  have hri:=(hrm.at (show i<q.length by omega)).1
  refine jC<|jB<|jH<|jB<|kx [(6,(jS i))] [] (zM<|zM<|zZ) ?_
  refine jB<|kd [] [(1,some (bx (jF (jY (vJ s (qP (yX (qE q i i)) (gsq (G.getD i z2))))))))] mo (wR (kJ jP)<|wM<|wM<|wE (yE yH i ([]:List (jR)))<|wE (yV cF)<|wM<|wE (yE uQ i y2 (L:=(q.getD i [])))<|wE (oQd (jJ ((q.getD i []).getD i y2)) (jJ (jN (qE q i i))) (yJ jQ) (by exact (congrArg jJ (q_can hrm (show i<q.length by omega) (show i<G.length by omega)))))<|wE (oQd (jF (jL.mk (jN (qE q i i)) (jN (qE q i i)))) (jF (jY (yX (qE q i i)))) (jV (h_point (qE q i i) (qG (qE_ql hq i i)))) (by exact rfl))<|wM<|wM<|wE (bC uA jY i z2)<|wE (yJ jP)<|wE (jV (u_sq (G.getD i z2) (kW (kZ hG (by decide) i))))<|wE (jV (u_mul (yX (qE q i i)) (kW (fQ (qE_ql hq i i))) (gsq (G.getD i z2)) (kW (gl_sq (k:=2097152) (kZ hG (by decide) i)))))<|wE (jV (u_add s (show GL 67108864 s by rw[hs];exact bdI_26 hq hG (show i<=4 by omega)) (qP (yX (qE q i i)) (gsq (G.getD i z2))) (kW (xJ (k:=2097158) (fQ (qE_ql hq i i)) (gl_sq (k:=2097152) (kZ hG (by decide) i))))))<|wT (qA jP)<|wZ) ?_
  refine jB<|kx [(30,(jS i)),(31,(jS 0))] [] (zM<|zM<|zZ) ?_
  refine jH<|kF (α:=Nat × R2) (fun (j,u)=>⟨[(0,(vl 61 8 jF (List.map jY G))),(1,(vl 24 1 jT q)),(4,(.ref 0 0)),(5,(.ref 1 0)),(6,(jS i)),(10,(jS G.length)),(11,(jS i)),(30,(jS i)),(31,(jS j))],[(0,some y1),(1,some (bx (jF (jY u))))]⟩) (fun (j,u)=>j<=i/\u=bdJ q G i (bdD q G i s) j) (fun (j,u)=>i-j) (0,bdD q G i s) wk ⟨Nat.zero_le _,rfl⟩ ?_
  rintro ⟨j,u⟩ ⟨hj,hu⟩
  refine jB<|kx [(32,(vb (decide (((j:Nat):Int)<((i:Nat):Int)))))] [] (zE xK<|zZ) ?_
  refine jB<|jG rfl (fun h2=>?_) (fun h2=>?_)
  ·replace h2:=uV h2
   refine jC<|jB<|jH<|jB<|kx [(7,(jS j))] [] (zM<|zM<|zZ) ?_
   refine kd [] [(1,some (bx (jF (jY (vJ u (qP (yX (((2:Int):Rat)*qE q i j)) (qP (G.getD i z2) (G.getD j z2))))))))] mo (wR (kJ jP)<|wM<|wM<|wE (yE yH i ([]:List (jR)))<|wE (yV cF)<|wM<|wE (yE uQ j y2 (L:=(q.getD i [])))<|wE (yJ jQ)<|wM<|wM<|wE (yE yH i ([]:List (jR)))<|wE (yV cF)<|wM<|wE (yE uQ j y2 (L:=(q.getD i [])))<|wE (yJ jQ)<|wE (oQd (jJ (jN ((qS ((q.getD i []).getD j y2))+(qS ((q.getD i []).getD j y2))))) (jJ (jN (((2:Int):Rat)*qE q i j))) (jV (g_add ((q.getD i []).getD j y2) ((q.getD i []).getD j y2) (qS ((q.getD i []).getD j y2)) (qS ((q.getD i []).getD j y2)) (jM (xL (vT (d:=[]) hq (show i<q.length by omega)).1 (show j<(q.getD i []).length by omega))) (jM (xL (vT (d:=[]) hq (show i<q.length by omega)).1 (show j<(q.getD i []).length by omega))))) (by exact (congrArg (fun z=>jJ (jN z)) (qE_two _))))<|wE (oQd (jF (jL.mk (jN (((2:Int):Rat)*qE q i j)) (jN (((2:Int):Rat)*qE q i j)))) (jF (jY (yX (((2:Int):Rat)*qE q i j)))) (jV (h_point (((2:Int):Rat)*qE q i j) (qG (qD (k:=9) (vS (z:=2) (n:=3) (xS)) (qE_ql hq i j))))) (by exact rfl))<|wM<|wM<|wE (bC uA jY i z2)<|wE (yJ jP)<|wM<|wM<|wE (bC uA jY j z2)<|wE (yJ jP)<|wE (jV (u_mul (G.getD i z2) (kW (kZ hG (by decide) i)) (G.getD j z2) (kW (kZ hG (by decide) j))))<|wE (jV (u_mul (yX (((2:Int):Rat)*qE q i j)) (kW (fQ (qD (k:=9) (vS (z:=2) (n:=3) (xS)) (qE_ql hq i j)))) (qP (G.getD i z2) (G.getD j z2)) (kW (xJ (k:=2097152) (kZ hG (by decide) i) (kZ hG (by decide) j)))))<|wE (jV (u_add u (show GL 67108864 u by rw[hu,hs];exact bdJ_26 hq hG (show i<4 by omega) hj) (qP (yX (((2:Int):Rat)*qE q i j)) (qP (G.getD i z2) (G.getD j z2))) (kW (xJ (k:=2097161) (fQ (qD (k:=9) (vS (z:=2) (n:=3) (xS)) (qE_ql hq i j))) (xJ (k:=2097152) (kZ hG (by decide) i) (kZ hG (by decide) j))))))<|wT (qA jP)<|wZ) ?_
   refine kx [(31,(jS (j+1)))] [] (zE (vO (j+1))<|zM<|zZ) ?_
   exact ⟨(j+1,vJ u (qP (yX (((2:Int):Rat)*qE q i j)) (qP (G.getD i z2) (G.getD j z2)))),wk,⟨by omega,by rw[hu];rfl⟩,(by first|omega|(dsimp only;omega))⟩
  ·replace h2:=vB h2
   refine kD<|kx [(11,(jS (i+1)))] [] (zE (vO (i+1))<|zM<|zZ) ?_
   exact ⟨(i+1,u),wk,⟨by omega,by rw[hu,show j=i by omega,hs];rfl⟩,(by first|omega|(dsimp only;omega))⟩
 ·replace h1:=vB h1
  refine kD<|jB<|kx [] [(0,some (bx (jF (jY s))))] (zR (kJ jP)<|zT (qA jP)<|zZ) ?_
  refine jE ⟨_,(kI (cs:=(bx (jF (jY s)))) (d:=(jF (jY s))) rfl rfl jP rfl rfl .nil),?_⟩
  rw[hs,show i=G.length by omega];rfl
end Go.Proofs.YtnajallgoaiahaaGreatDoor
