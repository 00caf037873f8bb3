/- Part 12 of a proof: rules, plain facts, and functions walked. -/
import Derived.Test.YtciingpdmjepgabGreatDoorM11
import Derived.Test.YtciingpdmjepgabGreatDoorM8
import Derived.Test.YtciingpdmjepgabGreatDoorChecked
import Derived.LoopNIn
set_option linter.all false
namespace Go.Fid
abbrev vi (z:Int):SV:=.d (.val (.int .i64 z))
abbrev jS (n:Nat):SV:=.d (.val (.int .i64 (n:Int)))
abbrev zP (n:Nat):SV:=.d (.val (.int .u64 (n:Int)))
abbrev aH (n:Nat):SV:=.d (.val (.int .u32 (n:Int)))
abbrev vb (b:Bool):SV:=.d (.val (.bool b))
abbrev vl {α:Type} (E z:Nat) (F:α->jT) (L:List α):SV:=.d (.sl E z (L.map F))
abbrev bm {α:Type} (F:α->jT) (L:List α):List SV:=L.map (fun g=>SV.d (F g))
section
variable {P:Program} {n:Fr} {ops:Array Oper} {S S':SL} {B B':BS} {l:List Oper} {o:Oper} {news:List Nat} {acc0:List (List Nat × List Nat)}
end
theorem fillL_all{s:Nat}:∀ (ds:List jT) (k:Nat) (a z:List jT),a.length=k*s->z.length=ds.length*s->(∀ d∈ds,d.cells.length=s) ->
  fU (fun i=>some (i*s,s)) (a++z) ((ds.zipIdx k).map fun p=>(p.2,p.1.cells))=some (a++kR ds)
 |[],k,a,z,ha,hz,_=>by
  have:z=[]:=List.eq_nil_of_length_eq_zero (by simpa using hz)
  subst this;simp [fU,kR]
 |d::ds,k,a,z,ha,hz,hs=>by
  have hd:=hs d (by simp)
  have hz':z.length=s+ds.length*s:=by rw[hz,List.length_cons,Nat.add_mul];omega
  rw[List.zipIdx_cons,List.map_cons]
  simp only[fU]
  have h1:(Nat.beq d.cells.length s&&Nat.ble (k*s+d.cells.length) (a++z).length)=true:=by
   rw[Bool.and_eq_true]
   refine ⟨by rw[hd];exact Nat.beq_refl s,Nat.ble_eq_true_of_le ?_⟩
   rw[List.length_append,ha,hd];omega
  rw[h1,cond_true]
  have h2:patch (a++z) (k*s) d.cells=(a++d.cells)++z.drop s:=by
   unfold patch
   rw[<- ha,List.take_left,hd]
   congr 1
   rw[List.drop_append,List.drop_of_length_le (by omega),List.nil_append]
   congr 1;omega
  rw[h2,fillL_all ds (k+1) (a++d.cells) (z.drop s) (by rw[List.length_append,ha,hd,Nat.add_mul];omega) (by rw[List.length_drop];omega) (fun x hx=>hs x (by simp [hx])),nZ,List.append_assoc]
theorem xQ{α:Type}{s:Nat}(F:α->jT)(L:List α)(hF:∀ g,(F g).cells.length=s):∀ e∈L.map F,e.cells.length=s:=by
 intro e he
 obtain ⟨g,_,rfl⟩:=List.mem_map.1 he
 exact hF g
theorem yB{α:Type}{s:Nat}(F:α->jT)(L:List α)(hF:∀ g,(F g).cells.length=s){m:Nat}(h:L.length=m):(qP F L).take (m*s)=(kR (L.map F)).map .d:=by
 refine List.take_of_length_le ?_
 rw[List.length_map,nR F hF,h]
 exact Nat.le_refl _
theorem inside_of{p q r s:Rat}(h:r<=p/\q<=s):(decide (r<=p)&&decide (q<=s))=true:=by rw[decide_eq_true h.1,decide_eq_true h.2];rfl
def insQ(p q r s:Rat):Bool:=decide (r<=p)&&decide (q<=s)
theorem insQ_of{p q r s:Rat}(h1:r<=p)(h2:q<=s):insQ p q r s=true:=inside_of ⟨h1,h2⟩
theorem mnL_ge_all{l:List Rat}{p x:Rat}(h0:x<=p)(h:∀ q∈l,x<=q):x<=fM p l:=by
 rcases mnL_mem l p with e | e
 ·rw[e];exact h0
 ·exact h _ e
theorem mxL_le_all{l:List Rat}{p x:Rat}(h0:p<=x)(h:∀ q∈l,q<=x):eP p l<=x:=by
 rcases mxL_mem l p with e | e
 ·rw[e];exact h0
 ·exact h _ e
theorem mono_mul{p q r s a b c d:Rat}(h1:p<=a/\b<=q)(h2:r<=c/\d<=s)(hab:a<=b)(hcd:c<=d) :
  insQ (fM (a*c) [(a*d),(b*c),(b*d)]) (eP (a*c) [(a*d),(b*c),(b*d)]) (fM (p*r) [(p*s),(q*r),(q*s)]) (eP (p*r) [(p*s),(q*r),(q*s)])=true:=by
 have ha:p<=a/\a<=q:=⟨h1.1,Rat.le_trans hab h1.2⟩
 have hb:p<=b/\b<=q:=⟨Rat.le_trans h1.1 hab,h1.2⟩
 have hc:r<=c/\c<=s:=⟨h2.1,Rat.le_trans hcd h2.2⟩
 have hd:r<=d/\d<=s:=⟨Rat.le_trans h2.1 hcd,h2.2⟩
 have m1:=zB.1 (has_mul ha hc)
 have m2:=zB.1 (has_mul ha hd)
 have m3:=zB.1 (has_mul hb hc)
 have m4:=zB.1 (has_mul hb hd)
 refine insQ_of (mnL_ge_all m1.1 ?_) (mxL_le_all m1.2 ?_)<;>intro z hz<;>simp at hz<;>rcases hz with e | e | e<;>rw[e]
 ·exact m2.1
 ·exact m3.1
 ·exact m4.1
 ·exact m2.2
 ·exact m3.2
 ·exact m4.2
theorem mono_div{p q r s a b c d:Rat}(hz:mL r s=false)(h1:p<=a/\b<=q)(h2:r<=c/\d<=s)(hab:a<=b)(hcd:c<=d) :
  insQ (fM (a / c) [(a / d),(b / c),(b / d)]) (eP (a / c) [(a / d),(b / c),(b / d)]) (fM (p / r) [(p / s),(q / r),(q / s)]) (eP (p / r) [(p / s),(q / r),(q / s)])=true:=by
 have ha:p<=a/\a<=q:=⟨h1.1,Rat.le_trans hab h1.2⟩
 have hb:p<=b/\b<=q:=⟨Rat.le_trans h1.1 hab,h1.2⟩
 have hc:r<=c/\c<=s:=⟨h2.1,Rat.le_trans hcd h2.2⟩
 have hd:r<=d/\d<=s:=⟨Rat.le_trans h2.1 hcd,h2.2⟩
 have m1:=zB.1 (has_div hz ha hc)
 have m2:=zB.1 (has_div hz ha hd)
 have m3:=zB.1 (has_div hz hb hc)
 have m4:=zB.1 (has_div hz hb hd)
 refine insQ_of (mnL_ge_all m1.1 ?_) (mxL_le_all m1.2 ?_)<;>intro z hz<;>simp at hz<;>rcases hz with e | e | e<;>rw[e]
 ·exact m2.1
 ·exact m3.1
 ·exact m4.1
 ·exact m2.2
 ·exact m3.2
 ·exact m4.2
theorem mono_sq{p q a b:Rat}(h1:p<=a/\b<=q)(hab:a<=b):insQ (sqL a b) (sqH a b) (sqL p q) (sqH p q)=true:=by
 have ha:p<=a/\a<=q:=⟨h1.1,Rat.le_trans hab h1.2⟩
 have hb:p<=b/\b<=q:=⟨Rat.le_trans h1.1 hab,h1.2⟩
 have m1:=zB.1 (has_sq ha)
 have m2:=zB.1 (has_sq hb)
 refine insQ_of ?_ (mxL_le_all m1.2 (fun z hz=>by rw[List.mem_singleton] at hz;rw[hz];exact m2.2))
 have low:∀ x:Rat,a<=x/\x<=b->sqL p q<=x*x:=fun x hx=>(zB.1 (has_sq ⟨Rat.le_trans h1.1 hx.1,Rat.le_trans hx.2 h1.2⟩)).1
 show sqL p q<=sqL a b
 by_cases hz:mL a b=true
 ·have h0:=hz
  unfold mL at h0
  rw[Bool.and_eq_true,decide_eq_true_eq,decide_eq_true_eq] at h0
  rw[show sqL a b=_ from if_pos hz]
  have:=low 0 h0
  rwa [Rat.mul_zero] at this
 ·rw[show sqL a b=_ from if_neg hz]
  exact mnL_ge_all (low a ⟨Rat.le_refl,hab⟩) (fun z hz=>by rw[List.mem_singleton] at hz;rw[hz];exact low b ⟨hab,Rat.le_refl⟩)
theorem neg_valid{p q:Rat}(h:p<=q):-q<=-p:=Rat.neg_le_neg h
def kF(x:Rat × Rat):qB:=⟨jP x.1,jP x.2⟩
def GL(n:Nat)(x:Rat × Rat):Prop:=QL x.1 n/\QL x.2 n/\x.1<=x.2
theorem gl_getD{L:List (Rat × Rat)}{n:Nat}(h:∀ x∈L,GL n x)(h1:1<=n)(j:Nat):GL n (L.getD j (0,0)):=by
 rw[List.getD]
 cases hj:L[j]? with
 |none=>exact ⟨kS mW h1,kS mW h1,Rat.le_refl⟩
 |some q=>exact h q (List.mem_of_getElem? hj)
structure kI where
 op:Int
 a:Int
 b:Int
 n:kP
def zr:kP:=⟨⟨false,[]⟩,⟨false,[]⟩⟩
def tz:kI:=⟨0,0,0,zr⟩
structure xI where
 value:qB
 grad:List qB
 hess:List (List qB)
structure RMc where
 vars:Int
 order:Int
 places:Int
 jets:List xI
 failed:Bool
abbrev R2:=Rat × Rat
def z2:R2:=(0,0)
def gw(n:Int):R2:=((n:Rat),(n:Rat))
def xV(q:Rat):R2:=(q,q)
def jO(a b:R2):R2:=(a.1+b.1,a.2+b.2)
def dB(a b:R2):R2:=(a.1-b.2,a.2-b.1)
def gneg(a:R2):R2:=(-a.2,-a.1)
def jN(a b:R2):R2:=(fM (a.1*b.1) [(a.1*b.2),(a.2*b.1),(a.2*b.2)],eP (a.1*b.1) [(a.1*b.2),(a.2*b.1),(a.2*b.2)])
def gdiv(a b:R2):R2:=(fM (a.1 / b.1) [(a.1 / b.2),(a.2 / b.1),(a.2 / b.2)],eP (a.1 / b.1) [(a.1 / b.2),(a.2 / b.1),(a.2 / b.2)])
def gsq(a:R2):R2:=(sqL a.1 a.2,sqH a.1 a.2)
theorem qG{a:R2}{m n:Nat}(h:GL m a)(hm:m<=n:=by decide):GL n a:=⟨kS h.1 hm,kS h.2.1 hm,h.2.2⟩
theorem gl_pt{q:Rat}{m:Nat}(h:QL q m):GL m (xV q):=⟨h,h,Rat.le_refl⟩
theorem gl_w{z:Int}(h1:-9223372036854775808<=z)(h2:z<=9223372036854775807):GL 3 (gw z):=⟨mI (mR h1 h2) (by decide),mI (mR h1 h2) (by decide),Rat.le_refl⟩
theorem vL{a b:R2}{m n k:Nat}(ha:GL m a)(hb:GL n b)(h:m+n+1<=k:=by decide):GL k (jO a b):=⟨ql_add ha.1 hb.1 h,ql_add ha.2.1 hb.2.1 h,fV ha.2.2 hb.2.2⟩
theorem fN{a b:R2}{m n k:Nat}(ha:GL m a)(hb:GL n b)(h:m+n+1<=k:=by decide):GL k (dB a b):=⟨ql_sub ha.1 hb.2.1 h,ql_sub ha.2.1 hb.1 h,sub_valid ha.2.2 hb.2.2⟩
theorem gl_neg{a:R2}{m:Nat}(ha:GL m a):GL m (gneg a):=⟨nM ha.2.1,nM ha.1,neg_valid ha.2.2⟩
theorem ql_of4{a b c d:Rat}{k:Nat}(h1:QL a k)(h2:QL b k)(h3:QL c k)(h4:QL d k):QL (fM a [b,c,d]) k/\QL (eP a [b,c,d]) k:=by
 have ml:∀ z∈[b,c,d],QL z k:=by
  intro z hz;simp at hz;rcases hz with e | e | e<;>rw[e]<;>assumption
 exact ⟨ql_mnL h1 ml,ql_mxL h1 ml⟩
theorem qN{a b:R2}{m n k:Nat}(ha:GL m a)(hb:GL n b)(h:m+n<=k:=by decide):GL k (jN a b):=by
 obtain ⟨h1,h2⟩:=ql_of4 (vW ha.1 hb.1 h) (vW ha.1 hb.2.1 h) (vW ha.2.1 hb.1 h) (vW ha.2.1 hb.2.1 h)
 exact ⟨h1,h2,dX _ _⟩
theorem gl_div{a b:R2}{m n k:Nat}(ha:GL m a)(hb:GL n b)(h:m+n<=k:=by decide):GL k (gdiv a b):=by
 obtain ⟨h1,h2⟩:=ql_of4 (ql_div ha.1 hb.1 h) (ql_div ha.1 hb.2.1 h) (ql_div ha.2.1 hb.1 h) (ql_div ha.2.1 hb.2.1 h)
 exact ⟨h1,h2,dX _ _⟩
theorem gl_sq{a:R2}{m k:Nat}(ha:GL m a)(h:m+m<=k):GL k (gsq a):=⟨ql_sqL (vW ha.1 ha.1 h) (vW ha.2.1 ha.2.1 h),ql_sqH (vW ha.1 ha.1 h) (vW ha.2.1 ha.2.1 h),sqL_le _ _⟩
theorem aA{L:List R2}{n:Nat}(h:∀ x∈L,GL n x)(h1:1<=n)(j:Nat):GL n (L.getD j z2):=gl_getD h h1 j
structure JV where
 v:R2
 g:List R2
def jz:JV:=⟨z2,[]⟩
def ofJ(x:JV):xI:=⟨kF x.v,x.g.map kF,[]⟩
def JOk(N n:Nat)(x:JV):Prop:=GL N x.v/\(∀ y∈x.g,GL N y)/\x.g.length=n
theorem JOk.at{N n:Nat}{x:JV}(h:JOk N n x)(h1:1<=N)(j:Nat):GL N (x.g.getD j z2):=aA h.2.1 h1 j
theorem dW{α β:Type}(f:α->β)(l:List α)(d:α)(e:β){j:Nat}(h:j<l.length):(l.map f).getD j e=f (l.getD j d):=by
 rw[List.getD_eq_getElem?_getD,List.getElem?_map,List.getD_eq_getElem?_getD,List.getElem?_eq_getElem h];rfl
def jk(V:R2)(G:Nat->R2)(n:Nat):JV:=⟨V,(List.range n).map G⟩
theorem jk_ok{V:R2}{G:Nat->R2}{N n:Nat}(hV:GL N V)(hG:∀ i,i<n->GL N (G i)):JOk N n (jk V G n):=by
 refine ⟨hV,fun y hy=>?_,by simp [jk]⟩
 obtain ⟨i,hi,rfl⟩:=List.mem_map.1 hy
 exact hG i (List.mem_range.1 hi)
def jA(L:List JV)(z:Int):JV:=L.getD z.toNat jz
def nV(bx:List R2)(L:List JV)(x:kI):R2 :=
 if x.op=0 then xV (xZ x.n)
 else if x.op=1 then bx.getD x.a.toNat z2
 else if x.op=2 then jO (jA L x.a).v (jA L x.b).v
 else if x.op=3 then dB (jA L x.a).v (jA L x.b).v
 else if x.op=4 then jN (jA L x.a).v (jA L x.b).v
 else if x.op=6 then dB (gw 0) (jA L x.a).v
 else if x.op=7 then gsq (jA L x.a).v
 else gdiv (jA L x.a).v (jA L x.b).v
def nG(bx:List R2)(L:List JV)(x:kI)(i:Nat):R2 :=
 if x.op=0 then gw 0
 else if x.op=1 then (if (i:Int)=x.a then gw 1 else gw 0)
 else if x.op=2 then jO ((jA L x.a).g.getD i z2) ((jA L x.b).g.getD i z2)
 else if x.op=3 then dB ((jA L x.a).g.getD i z2) ((jA L x.b).g.getD i z2)
 else if x.op=4 then jO (jN (jA L x.a).v ((jA L x.b).g.getD i z2)) (jN (jA L x.b).v ((jA L x.a).g.getD i z2))
 else if x.op=6 then dB (gw 0) ((jA L x.a).g.getD i z2)
 else if x.op=7 then jN (gw 2) (jN (jA L x.a).v ((jA L x.a).g.getD i z2))
 else gdiv (dB ((jA L x.a).g.getD i z2) (jN (nV bx L x) ((jA L x.b).g.getD i z2))) (jA L x.b).v
def nJ(bx:List R2)(L:List JV)(x:kI):JV:=jk (nV bx L x) (nG bx L x) bx.length
def jU(bx:List R2)(t:List kI):Nat->List JV
 |0=>[]
 |k+1=>jU bx t k++[nJ bx (jU bx t k) (t.getD k tz)]
theorem aS(bx:List R2)(t:List kI):∀ k,(jU bx t k).length=k
 |0=>rfl
 |k+1=>by rw[jU,List.length_append,aS bx t k];rfl
end Go.Fid
namespace Go.Proofs.YtciingpdmjepgabGreatDoor
open Go.Fid
def jM(x:kO):jT:=.agg [.val (.bool x.neg),.sl 74 1 (x.gs.map jC)]
def jK(x:kP):jT:=.agg [.val (.bool x.num.neg),.sl 74 1 (x.num.gs.map jC),.val (.bool x.den.neg),.sl 74 1 (x.den.gs.map jC)]
def jJ(x:qB):jT:=.agg [.val (.bool x.lo.num.neg),.sl 74 1 (x.lo.num.gs.map jC),.val (.bool x.lo.den.neg),.sl 74 1 (x.lo.den.gs.map jC),.val (.bool x.hi.num.neg),.sl 74 1 (x.hi.num.gs.map jC),.val (.bool x.hi.den.neg),.sl 74 1 (x.hi.den.gs.map jC)]
def qE(x:kI):jT:=.agg [.val (.int .i64 x.op),.val (.int .i64 x.a),.val (.int .i64 x.b),.val (.bool x.n.num.neg),.sl 74 1 (x.n.num.gs.map jC),.val (.bool x.n.den.neg),.sl 74 1 (x.n.den.gs.map jC)]
def jV(l:List (qB)):jT:=.sl 44 8 (l.map jJ)
def jD(x:xI):jT:=.agg [.val (.bool x.value.lo.num.neg),.sl 74 1 (x.value.lo.num.gs.map jC),.val (.bool x.value.lo.den.neg),.sl 74 1 (x.value.lo.den.gs.map jC),.val (.bool x.value.hi.num.neg),.sl 74 1 (x.value.hi.num.gs.map jC),.val (.bool x.value.hi.den.neg),.sl 74 1 (x.value.hi.den.gs.map jC),.sl 44 8 (x.grad.map jJ),.sl 45 1 (x.hess.map jV)]
theorem mo:Tryz.prog.follows .mixedOrders=true:=by kernel_rfl
end Go.Proofs.YtciingpdmjepgabGreatDoor
namespace Go.Fid
open Go.RowKit (Below)
def fA(P:Program)(n:Fr)(c:Code)(Q:Exit->PS->Prop):Nat->PS->Prop
 |0,_=>False
 |m+1,st=>dR P n c (PThen (fA P n c Q m) Q) st
theorem vB{P:Program}{n:Fr}{c:Code}{Q:Exit->PS->Prop}{st:PS}(m:Nat)(h:fA P n c Q m st):dR P n (.loop c) Q st:=fun C a w N hn hs=>by
 refine wpIn_loop_rounds m ?_
 have key:∀ m st a w,cI C a w st->fA P n c Q m st->Code.roundsIn (fen n) N P c (fun e a' w'=>∃ st',cI C a' w' st'/\Q e st') m a w:=by
  intro m
  induction m with
  |zero=>intro st a w _ h;exact h.elim
  |succ m ih=>
   intro st a w hs h
   refine wpIn_mono (h C a w N hn hs) fun e a' w' ⟨s,h1,h2⟩=>?_
   cases e with
   |normal=>exact ih s a' w' h1 h2
   |_=>exact ⟨s,h1,h2⟩
 exact key m st a w hs h
theorem vT{P:Program}{n:Fr}{c:Code}{Q:Exit->PS->Prop}{st:PS}{m:Nat}(h:dR P n c (PThen (fA P n c Q m) Q) st):fA P n c Q (m+1) st:=h
theorem vO{P:Program}{n:Fr}{c:Code}{Q:Exit->PS->Prop}{s st:PS}{m:Nat}(hw:qQ s st)(h:dR P n c (PThen (fA P n c Q m) Q) st):PThen (fA P n c Q (m+1)) Q .normal s :=
 show dR P n c (PThen (fA P n c Q m) Q) s from fun C a w N hn hs=>h C a w N hn (hw C a w hs)
section
variable {P:Program} {o:Oper} {S:Nat->SV}
theorem e_nckr{x:Operand}{k q:Nat}(ho:o.op=.nilCheck x)(hx:ev S x=.ref k q):uC P o S [] (.ref k q) :=
 uC.same fun a' w D β hop _=>by
  have hp:=hop x (by simp [ho,Op.operands])
  rw[hx] at hp
  obtain ⟨b,h1,h2⟩:=hp
  exact ⟨.pointer (some ⟨b,q,none⟩),by simp [execOp,ho,h2],b,h1,rfl⟩
inductive xM (E:TypeId):jT->Prop
 |val (v:Value):xM E (.val v)
 |sl {t:TypeId} {s:Nat} {es:List jT} (h:t≠E) (hs:∀ (i:Nat) d,(kR es)[i]?=some d->xM E d):xM E (.sl t s es)
 |agg {cs:List jT} (hs:∀ (i:Nat) d,cs[i]?=some d->xM E d):xM E (.agg cs)
 |tup {cs:List jT} (hs:∀ (i:Nat) d,cs[i]?=some d->xM E d):xM E (.tup cs)
 |cptr {t:TypeId} {cs:List jT} {off:Nat} (h:t≠E) (hs:∀ (i:Nat) d,cs[i]?=some d->xM E d):xM E (.cptr t cs off)
 |clo {f:FuncId} {aD:List jT} (hs:∀ (i:Nat) d,aD[i]?=some d->xM E d):xM E (.clo f aD)
theorem avo_nil{E:TypeId}:∀ (i:Nat) d,([]:List jT)[i]?=some d->xM E d:=fun i d h=>by simp at h
theorem cV{E:TypeId}{x:jT}{l:List jT}(h:xM E x)(hl:∀ (i:Nat) d,l[i]?=some d->xM E d):∀ (i:Nat) d,(x::l)[i]?=some d->xM E d:=fun i d hd=>by
 rcases i with _ | i
 ·simp at hd;subst hd;exact h
 ·exact hl i d (by simpa using hd)
theorem avo_vals{α:Type}{E t:TypeId}{s:Nat}{F:α->Value}(h:t≠E)(l:List α):xM E (.sl t s (l.map fun x=>jT.val (F x))) :=
 .sl h (fun i d hd=>by
  have:d∈kR (l.map fun x=>jT.val (F x)):=List.mem_of_getElem? hd
  simp only[kR,List.mem_flatMap,List.mem_map] at this
  obtain ⟨x,⟨y,_,rfl⟩,hx⟩:=this
  simp only[jT.cells,List.mem_singleton] at hx
  subst hx;exact .val _)
theorem xM.rep{E:TypeId}{w:World}{D D':kV}(hk:∀ t g o,t≠E->D t g o->D' t g o){v:Value}{r:jT}(ha:xM E r)(h:uN w D v r):uN w D' v r:=by
 induction h with
 |val v=>exact .val v
 |sl g off u hn hc hm hs hao hD hu h1 hr ih=>
  cases ha with
  |sl hne has=>exact .sl g off u hn hc hm hs hao (fun i hi=>hk _ _ _ hne (hD i hi)) hu h1 (fun i d hd=>ih i d hd (has i d hd))
 |agg vs hl h1 hr ih=>
  cases ha with
  |agg has=>exact .agg vs hl h1 (fun i v d hv hd=>ih i v d hv hd (has i d hd))
 |tup vs hl hr ih=>
  cases ha with
  |tup has=>exact .tup vs hl (fun i v d hv hd=>ih i v d hv hd (has i d hd))
 |cptr g o u hD hu h1 hr ih=>
  cases ha with
  |cptr hne has=>exact .cptr g o u (fun i hi=>hk _ _ _ hne (hD i hi)) hu h1 (fun i d hd=>ih i d hd (has i d hd))
 |clo vs hl hr ih=>
  cases ha with
  |clo has=>exact .clo vs hl (fun i v d hv hd=>ih i v d hv hd (has i d hd))
inductive mK (k:Nat) (E:TypeId) (s q m:Nat) (es:List jT):List SV->List jT->Prop
 |nil:mK k E s q m es [] []
 |d {x:jT} {zs:List SV} {ds:List jT} (h:mK k E s q m es zs ds):mK k E s q m es (.d x::zs) (x::ds)
 |v {zs:List SV} {ds:List jT} (h:mK k E s q m es zs ds):mK k E s q m es (.view k q m::zs) (.sl E s es::ds)
theorem mK.len{k E s q m:Nat}{es:List jT}{zs:List SV}{ds:List jT}(h:mK k E s q m es zs ds):zs.length=ds.length:=by
 induction h with
 |nil=>rfl
 |d h ih=>simp [ih]
 |v h ih=>simp [ih]
theorem mK.rep{k E s q m:Nat}{es:List jT}{w:World}{D D':kV}{β:kY}(h1:∀ v x,uN w D v x->uN w D' v x)(h2:∀ v,qC w D β v (.view k q m)->uN w D' v (.sl E s es)){zs:List SV}{ds:List jT}(h:mK k E s q m es zs ds) :
  ∀ {vs:List Value},vs.length=zs.length->(∀ (i:Nat) v x,vs[i]?=some v->zs[i]?=some x->qC w D β v x)->∀ (i:Nat) v d,vs[i]?=some v->ds[i]?=some d->uN w D' v d:=by
 induction h with
 |nil=>intro vs _ _ i v d _ hd;simp at hd
 |d h ih=>
  intro vs hl hr i v d' hv hd
  rcases vs with _ | ⟨v0,vs⟩
  ·simp at hl
  ·rcases i with _ | i
   ·simp at hv hd;subst hv;subst hd;exact h1 _ _ (hr 0 _ _ rfl rfl)
   ·exact ih (by simpa using hl) (fun i v x h3 h4=>hr (i+1) v x (by simpa using h3) (by simpa using h4)) i v d' (by simpa using hv) (by simpa using hd)
 |v h ih=>
  intro vs hl hr i v d' hv hd
  rcases vs with _ | ⟨v0,vs⟩
  ·simp at hl
  ·rcases i with _ | i
   ·simp at hv hd;subst hv;subst hd;exact h2 _ (hr 0 _ _ rfl rfl)
   ·exact ih (by simpa using hl) (fun i v x h3 h4=>hr (i+1) v x (by simpa using h3) (by simpa using h4)) i v d' (by simpa using hv) (by simpa using hd)
end
def up:SL->SL->SL
 |[],S=>S
 |p::D,S=>p::up D S
def upB:BS->BS->BS
 |[],S=>S
 |p::D,S=>p::upB D S
def inS(D:SL)(t:Nat):Bool:=D.any fun p=>Nat.beq p.1 t
def inB(D:BS)(t:Nat):Bool:=D.any fun p=>Nat.beq p.1 t
def isJ:SV->Bool
 |.junk=>true
 |_=>false
theorem isJ_eq{x:SV}(h:isJ x=true):x=.junk:=by cases x<;>first | rfl | cases h
theorem sget_up(D S:SL)(t:Nat):kA (up D S) t=bif inS D t then kA D t else kA S t:=by
 induction D with
 |nil=>rfl
 |cons p D ih=>
  obtain ⟨j,x⟩:=p
  show kA ((j,x)::up D S) t=bif (Nat.beq j t||inS D t) then _ else _
  rw[qM,qM,ih]
  by_cases h:j=t
  ·subst h;simp
  ·have:Nat.beq j t=false:=by rw[<- Bool.not_eq_true];exact fun e=>h (Nat.eq_of_beq_eq_true e)
   rw[if_neg h,if_neg h,this,Bool.false_or]
theorem bget_up(D S:BS)(t:Nat):jY (upB D S) t=bif inB D t then jY D t else jY S t:=by
 induction D with
 |nil=>rfl
 |cons p D ih=>
  obtain ⟨j,x⟩:=p
  show jY ((j,x)::upB D S) t=bif (Nat.beq j t||inB D t) then _ else _
  rw[jI,jI,ih]
  by_cases h:j=t
  ·subst h;simp
  ·have:Nat.beq j t=false:=by rw[<- Bool.not_eq_true];exact fun e=>h (Nat.eq_of_beq_eq_true e)
   rw[if_neg h,if_neg h,this,Bool.false_or]
theorem sget_out{D:SL}{t:Nat}(h:inS D t=false):kA D t=.junk:=by
 induction D with
 |nil=>rfl
 |cons p D ih=>
  obtain ⟨j,x⟩:=p
  simp only[inS,List.any_cons,Bool.or_eq_false_iff] at h
  rw[qM,if_neg (fun e=>by subst e;simp at h),ih h.2]
theorem up_app(W S:SL):up W S=W++S:=by
 induction W with
 |nil=>rfl
 |cons p W ih=>show p::up W S=p::(W++S);rw[ih]
theorem upB_app(W S:BS):upB W S=W++S:=by
 induction W with
 |nil=>rfl
 |cons p W ih=>show p::upB W S=p::(W++S);rw[ih]
structure FinS (S0 D Sf:SL):Prop where
 d:D.map (fun p=>kA Sf p.1)=D.map (·.2)
 k:Sf.drop (Sf.length-S0.length)=S0
 j:((Sf.take (Sf.length-S0.length)).all fun p=>inS D p.1||isJ (kA S0 p.1))=true
structure FinB (B0 E Bf:BS):Prop where
 d:(E.filter fun p=>p.2.isSome).map (fun p=>jY Bf p.1)=(E.filter fun p=>p.2.isSome).map (·.2)
 k:Bf.drop (Bf.length-B0.length)=B0
 j:((Bf.take (Bf.length-B0.length)).all fun p=>inB E p.1)=true
structure FinF (S0 D Sf:SL):Prop where
 d:D.map (fun p=>kA Sf p.1)=D.map (·.2)
 j:((S0.filter fun p=>!inS D p.1).map fun p=>kA S0 p.1)=((S0.filter fun p=>!inS D p.1).map fun p=>kA Sf p.1)
theorem FinS.get{S0 D Sf:SL}(h:FinS S0 D Sf)(t:Nat):kA (up D S0) t=.junk\/kA (up D S0) t=kA Sf t:=by
 rw[sget_up]
 cases hD:inS D t with
 |true=>exact sget_eq_or h.d t
 |false=>
  rw[cond_false]
  have e:Sf=up (Sf.take (Sf.length-S0.length)) S0:=by rw[up_app];conv=>lhs;rw[<- List.take_append_drop (Sf.length-S0.length) Sf,h.k]
  cases hW:inS (Sf.take (Sf.length-S0.length)) t with
  |false=>right;conv=>rhs;rw[e,sget_up,hW,cond_false]
  |true=>
   left
   simp only[inS,List.any_eq_true] at hW
   obtain ⟨p,hp,hpt⟩:=hW
   have:=List.all_eq_true.1 h.j p hp
   rw[Nat.eq_of_beq_eq_true hpt,hD,Bool.false_or] at this
   exact isJ_eq this
theorem FinF.get{S0 D Sf:SL}(h:FinF S0 D Sf)(t:Nat):kA (up D S0) t=.junk\/kA (up D S0) t=kA Sf t:=by
 rw[sget_up]
 cases hD:inS D t with
 |true=>exact sget_eq_or h.d t
 |false=>
  rw[cond_false]
  cases hS:inS S0 t with
  |false=>left;exact sget_out hS
  |true=>
   right
   simp only[inS,List.any_eq_true] at hS
   obtain ⟨p,hp,hpt⟩:=hS
   have hpt:=Nat.eq_of_beq_eq_true hpt
   subst hpt
   exact List.map_inj_left.1 h.j p (List.mem_filter.2 ⟨hp,by rw[hD];rfl⟩)
theorem FinB.get{B0 E Bf:BS}(h:FinB B0 E Bf){k:Nat}{c:List SV}(hc:jY (upB E B0) k=some c):jY Bf k=some c:=by
 rw[bget_up] at hc
 cases hD:inB E k with
 |true=>
  rw[hD,cond_true] at hc
  exact List.map_inj_left.1 h.d (k,some c) (List.mem_filter.2 ⟨eI hc,rfl⟩)
 |false=>
  rw[hD,cond_false] at hc
  have e:Bf=upB (Bf.take (Bf.length-B0.length)) B0:=by rw[upB_app];conv=>lhs;rw[<- List.take_append_drop (Bf.length-B0.length) Bf,h.k]
  cases hW:inB (Bf.take (Bf.length-B0.length)) k with
  |false=>rw[e,bget_up,hW,cond_false];exact hc
  |true=>
   simp only[inB,List.any_eq_true] at hW
   obtain ⟨p,hp,hpt⟩:=hW
   have:=List.all_eq_true.1 h.j p hp
   rw[Nat.eq_of_beq_eq_true hpt,hD] at this
   cases this
theorem sim_get{S B S' B'}(h1:∀ t,kA S' t=.junk\/kA S' t=kA S t)(h2:∀ k c,jY B' k=some c->jY B k=some c):qQ ⟨S,B⟩ ⟨S',B'⟩:=fun C a w ⟨D,β,hs⟩=>
 ⟨D,β,hs.base,⟨fun k cs hk=>hs.mem.ok k cs (h2 _ _ hk),fun k1 k2 c1 c2 q1 q2=>hs.mem.inj k1 k2 c1 c2 (h2 _ _ q1) (h2 _ _ q2)⟩,fun k c hk=>hs.high k c (h2 _ _ hk),fun t=>by
  rcases h1 t with h | h
  ·show qC w D β _ (kA S' t)
   rw[h];trivial
  ·show qC w D β _ (kA S' t)
   rw[h];exact hs.slots t⟩
theorem wk{st:PS}{l:SL}{b:BS}(h1:l.map (fun p=>kA st.sl p.1)=l.map (·.2):=by kernel_rfl)(h2:b.map (fun p=>jY st.bs p.1)=b.map (·.2):=by kernel_rfl):qQ st ⟨l,b⟩:=weak h1 h2
def SK(P:Program)(n:Fr)(ops:Array Oper)(K:SL->BS->Prop)(S:SL)(B:BS)(l:List Oper):Prop:=∃ st1,Steps P n ops ⟨S,B⟩ l st1/\K st1.sl st1.bs
def DK(P:Program)(n:Fr)(ops:Array Oper)(K:SL->BS->Prop)(news:List Nat)(acc0:List (List Nat × List Nat))(S:SL)(B:BS)(l:List Oper):Prop :=
 ∃ st1 acc,DSteps P n ops news ⟨S,B⟩ l acc st1/\orderB ops (acc0++acc)=true/\K st1.sl st1.bs
def KS(S0:SL)(B0:BS)(D:SL)(E:BS)(Sf:SL)(Bf:BS):Prop:=FinS S0 D Sf/\FinB B0 E Bf
def KF(S0:SL)(B0:BS)(D:SL)(E:BS)(Sf:SL)(Bf:BS):Prop:=FinF S0 D Sf/\FinB B0 E Bf
def dO(o:Oper):Tmp:=o.dst.getD 0
def goK(n:Fr)(ops:Array Oper)(S:SL)(o:Oper):Bool:=match o.dst with
 |some d=>match vR ops S o with
  |some true=>yH n (some d)
  |_=>false
 |none=>false
theorem zI{n:Fr}{ops:Array Oper}{S:SL}{o:Oper}(h:goK n ops S o=true):o.dst=some (dO o)/\vR ops S o=some true/\yH n (some (dO o))=true:=by
 unfold goK at h
 unfold dO
 split at h
 ·rename_i d hd
  split at h
  ·rename_i hg;rw[hd];exact ⟨rfl,hg,h⟩
  ·cases h
 ·cases h
def goF(n:Fr)(ops:Array Oper)(S:SL)(o:Oper):Bool:=match o.dst with
 |some d=>match vR ops S o with
  |some false=>yH n (some d)
  |_=>false
 |none=>false
theorem goF_spec{n:Fr}{ops:Array Oper}{S:SL}{o:Oper}(h:goF n ops S o=true):o.dst=some (dO o)/\vR ops S o=some false/\yH n (some (dO o))=true:=by
 unfold goF at h
 unfold dO
 split at h
 ·rename_i d hd
  split at h
  ·rename_i hg;rw[hd];exact ⟨rfl,hg,h⟩
  ·cases h
 ·cases h
def goT(ops:Array Oper)(S:SL)(o:Oper):Bool:=match o.dst with
 |some _=>false
 |none=>match vR ops S o with
  |some true=>true
  |_=>false
theorem goT_spec{ops:Array Oper}{S:SL}{o:Oper}(h:goT ops S o=true):o.dst=none/\vR ops S o=some true:=by
 unfold goT at h
 split at h
 ·cases h
 ·rename_i hd
  split at h
  ·rename_i hg;exact ⟨hd,hg⟩
  ·cases h
def mvV(S:SL)(o:Oper):SV:=match o.op with
 |.move x=>ev (kA S) x
 |.assign x=>ev (kA S) x
 |_=>.junk
def mvK(o:Oper):Bool:=match o.op with
 |.move _=>true
 |.assign _=>true
 |_=>false
def ROk(P:Program)(o:Oper)(S:SL)(B:BS)(k:Nat)(x:SV):Prop:=∃ cs,uC P o (kA S) [(k,cs)] x/\jY B k=some cs
def TK(P:Program)(o:Oper)(S:SL)(B:BS)(k:Nat)(cs:List SV):Prop:=∃ old,TOk P o (kA S) k old cs/\jY B k=some old
section
variable {P:Program} {n:Fr} {ops:Array Oper} {K:SL->BS->Prop} {S:SL} {B:BS} {l:List Oper} {o:Oper} {news:List Nat} {acc0:List (List Nat × List Nat)}
theorem qF(h:mvK o=true):uC P o (kA S) [] (mvV S o):=by
 unfold mvK at h
 unfold mvV
 split at h
 ·rename_i x hx;exact e_move (.inl hx)
 ·rename_i x hx;exact e_move (.inr hx)
 ·cases h
theorem zE{x:SV}(h:uC P o (kA S) [] x)(r:SK P n ops K ((dO o,x)::S) B l)(g:goK n ops S o=true:=by kernel_rfl):SK P n ops K S B (o::l):=by
 obtain ⟨st1,r1,r2⟩:=r
 obtain ⟨hd,hg,hb⟩:=zI g
 have hs:=Step.e (P:=P) (n:=n) (ops:=ops) (st:=⟨S,B⟩) (o:=o) h hg (by rw[hd];exact hb) (by simp)
 rw[hd] at hs
 exact ⟨st1,.cons hs r1,r2⟩
theorem zM(r:SK P n ops K ((dO o,mvV S o)::S) B l)(h:mvK o=true:=by kernel_rfl)(g:goK n ops S o=true:=by kernel_rfl):SK P n ops K S B (o::l):=zE (qF h) r g
theorem zR{k:Nat}{x:SV}(h:ROk P o S B k x)(r:SK P n ops K ((dO o,x)::S) B l)(g:goK n ops S o=true:=by kernel_rfl):SK P n ops K S B (o::l):=by
 obtain ⟨st1,r1,r2⟩:=r
 obtain ⟨cs,h,hbk⟩:=h
 obtain ⟨hd,hg,hb⟩:=zI g
 have hs:=Step.e (P:=P) (n:=n) (ops:=ops) (st:=⟨S,B⟩) (o:=o) h hg (by rw[hd];exact hb) (by simpa using hbk)
 rw[hd] at hs
 exact ⟨st1,.cons hs r1,r2⟩
theorem zN{k:Nat}{cs:List SV}{x:SV}(h:NOk P o (kA S) k cs x)(r:SK P n ops K ((dO o,x)::S) ((k,some cs)::B) l)(g:goK n ops S o=true:=by kernel_rfl)(hf:zU k ⟨S,B⟩=true:=by kernel_rfl):SK P n ops K S B (o::l):=by
 obtain ⟨st1,r1,r2⟩:=r
 obtain ⟨hd,hg,hb⟩:=zI g
 have hs:=Step.n (P:=P) (n:=n) (ops:=ops) (st:=⟨S,B⟩) (o:=o) h hg (by rw[hd];exact hb) hf
 rw[hd] at hs
 exact ⟨st1,.cons hs r1,r2⟩
theorem zH{k:Nat}{cs:List SV}{x:SV}(h:NOk P o (kA S) k cs x)(r:SK P n ops K ((dO o,x)::S) ((k,some cs)::B) l)(g:goK n ops S o=true:=by kernel_rfl)(h1:(S.all fun p=>!p.2.names k)=true:=by kernel_rfl)
  (h2:FrB k B:=by repeat first | exact frb_nil _ | refine frb_map rfl ?_ | refine frb_d rfl ?_ | refine frb_cs rfl rfl ?_ | refine frb_none rfl ?_):SK P n ops K S B (o::l):=zN h r g (freshB_of h1 h2)
theorem zT{k:Nat}{cs:List SV}(h:TK P o S B k cs)(r:SK P n ops K S ((k,some cs)::B) l)(g:goT ops S o=true:=by kernel_rfl):SK P n ops K S B (o::l):=by
 obtain ⟨st1,r1,r2⟩:=r
 obtain ⟨old,h,hb⟩:=h
 obtain ⟨hd,hg⟩:=goT_spec g
 have hs:=Step.t (P:=P) (n:=n) (ops:=ops) (st:=⟨S,B⟩) (o:=o) h hg (by rw[hd];rfl) hb
 rw[hd] at hs
 exact ⟨st1,.cons hs r1,r2⟩
theorem zK(r:SK P n ops K ((dO o,.d (.tup []))::S) B l)(g:goF n ops S o=true:=by kernel_rfl):SK P n ops K S B (o::l):=by
 obtain ⟨st1,r1,r2⟩:=r
 obtain ⟨hd,hg,hb⟩:=goF_spec g
 have hs:=Step.skip (P:=P) (n:=n) (ops:=ops) (st:=⟨S,B⟩) (o:=o) hg (by rw[hd];exact hb)
 rw[hd] at hs
 exact ⟨st1,.cons hs r1,r2⟩
theorem zX{S1:SL}{B1:BS}(h:∀ (C:Ctx) (a:Act) (w:World) (Q:Exit->Act->World->Prop),C.n=n->cI C a w ⟨S,B⟩->o.wp P a w (fun a' w'=>cI C a' w' ⟨S1,B1⟩) Q)(hg:vR ops S o=some true)(r:SK P n ops K S1 B1 l):SK P n ops K S B (o::l):=by
 obtain ⟨st1,r1,r2⟩:=r
 exact ⟨st1,.cons (.sem h hg) r1,r2⟩
section
variable {S0:SL} {B0:BS} {D:SL} {E:BS}
theorem zZ(h1:D.map (fun p=>kA S p.1)=D.map (·.2):=by kernel_rfl)(h2:S.drop (S.length-S0.length)=S0:=by kernel_rfl)(h3:((S.take (S.length-S0.length)).all fun p=>inS D p.1||isJ (kA S0 p.1))=true:=by kernel_rfl)
  (h4:(E.filter fun p=>p.2.isSome).map (fun p=>jY B p.1)=(E.filter fun p=>p.2.isSome).map (·.2):=by kernel_rfl) (h5:B.drop (B.length-B0.length)=B0:=by kernel_rfl) (h6:((B.take (B.length-B0.length)).all fun p=>inB E p.1)=true:=by kernel_rfl):SK P n ops (KS S0 B0 D E) S B [] :=
 ⟨⟨S,B⟩,.nil,⟨h1,h2,h3⟩,⟨h4,h5,h6⟩⟩
theorem zF(h1:D.map (fun p=>kA S p.1)=D.map (·.2):=by kernel_rfl)(h2:((S0.filter fun p=>!inS D p.1).map fun p=>kA S0 p.1)=((S0.filter fun p=>!inS D p.1).map fun p=>kA S p.1):=by kernel_rfl)
  (h4:(E.filter fun p=>p.2.isSome).map (fun p=>jY B p.1)=(E.filter fun p=>p.2.isSome).map (·.2):=by kernel_rfl) (h5:B.drop (B.length-B0.length)=B0:=by kernel_rfl) (h6:((B.take (B.length-B0.length)).all fun p=>inB E p.1)=true:=by kernel_rfl):SK P n ops (KF S0 B0 D E) S B [] :=
 ⟨⟨S,B⟩,.nil,⟨h1,h2⟩,⟨h4,h5,h6⟩⟩
theorem wZ(h1:D.map (fun p=>kA S p.1)=D.map (·.2):=by kernel_rfl)(h2:S.drop (S.length-S0.length)=S0:=by kernel_rfl)(h3:((S.take (S.length-S0.length)).all fun p=>inS D p.1||isJ (kA S0 p.1))=true:=by kernel_rfl)
  (h4:(E.filter fun p=>p.2.isSome).map (fun p=>jY B p.1)=(E.filter fun p=>p.2.isSome).map (·.2):=by kernel_rfl) (h5:B.drop (B.length-B0.length)=B0:=by kernel_rfl) (h6:((B.take (B.length-B0.length)).all fun p=>inB E p.1)=true:=by kernel_rfl) (h7:orderB ops acc0=true:=by kernel_rfl):DK P n ops (KS S0 B0 D E) news acc0 S B [] :=
 ⟨⟨S,B⟩,[],.nil,by simpa using h7,⟨h1,h2,h3⟩,⟨h4,h5,h6⟩⟩
theorem kx{id:Nat}{Q:Exit->PS->Prop}(D:SL)(E:BS)(h:SK P n l.toArray (KS S0 B0 D E) S0 B0 l)(hq:Q .normal ⟨up D S0,upB E B0⟩)(hp:l.all yU=true:=by kernel_rfl):dR P n (.region id l.toArray false) Q ⟨S0,B0⟩:=fun C a w N hn hs=>by
 obtain ⟨st1,h1,h2,h3⟩:=h
 subst hn
 exact wpIn_region_lit (steps_sound (C:=C) h1 hp rfl (fun a' w' hs'=>⟨_,sim_get h2.get (fun k c=>h3.get) C a' w' hs',hq⟩) hs)
theorem kf{id:Nat}{Q:Exit->PS->Prop}(D:SL)(E:BS)(h:SK P n l.toArray (KF S0 B0 D E) S0 B0 l)(hq:Q .normal ⟨up D S0,upB E B0⟩)(hp:l.all yU=true:=by kernel_rfl):dR P n (.region id l.toArray false) Q ⟨S0,B0⟩:=fun C a w N hn hs=>by
 obtain ⟨st1,h1,h2,h3⟩:=h
 subst hn
 exact wpIn_region_lit (steps_sound (C:=C) h1 hp rfl (fun a' w' hs'=>⟨_,sim_get h2.get (fun k c=>h3.get) C a' w' hs',hq⟩) hs)
theorem kd{id:Nat}{Q:Exit->PS->Prop}(D:SL)(E:BS)(hm:P.follows .mixedOrders=true)(h:DK P n l.toArray (KS S0 B0 D E) [] [] S0 B0 l)(hq:Q .normal ⟨up D S0,upB E B0⟩)(hb:backB l.toArray=true:=by kernel_rfl)(hp:l.all yU=true:=by kernel_rfl):dR P n (.region id l.toArray true) Q ⟨S0,B0⟩:=fun C a w N hn hs=>by
 obtain ⟨st1,acc,h1,h0,h2,h3⟩:=h
 subst hn
 exact wpIn_region_any hm (draw_sound (C:=C) rfl (by simpa using h1) (by simpa using h0) hb (by simpa using hp) (fun a' w' hs'=>⟨_,sim_get h2.get (fun k c=>h3.get) C a' w' hs',hq⟩) hs)
end
theorem wE{x:SV}(h:uC P o (kA S) [] x)(r:DK P n ops K news (acc0++[([],[])]) ((dO o,x)::S) B l)(g:goK n ops S o=true:=by kernel_rfl)(hn:clearR ops S o news x=true:=by kernel_rfl):DK P n ops K news acc0 S B (o::l):=by
 obtain ⟨st1,acc,r1,r0,r2⟩:=r
 obtain ⟨hd,hg,hb⟩:=zI g
 have hs:=hH.e (P:=P) (n:=n) (ops:=ops) (news:=news) (st:=⟨S,B⟩) (o:=o) h hg (by rw[hd];exact hb) (by simp) hn
 rw[hd] at hs
 exact ⟨st1,([],[])::acc,.cons hs r1,by simpa using r0,r2⟩
theorem wM(r:DK P n ops K news (acc0++[([],[])]) ((dO o,mvV S o)::S) B l)(h:mvK o=true:=by kernel_rfl)(g:goK n ops S o=true:=by kernel_rfl)(hn:clearR ops S o news (mvV S o)=true:=by kernel_rfl):DK P n ops K news acc0 S B (o::l):=wE (qF h) r g hn
theorem wR{k:Nat}{x:SV}(h:ROk P o S B k x)(r:DK P n ops K news (acc0++[([k],[])]) ((dO o,x)::S) B l)(g:goK n ops S o=true:=by kernel_rfl)(hn:clearR ops S o news x=true:=by kernel_rfl):DK P n ops K news acc0 S B (o::l):=by
 obtain ⟨st1,acc,r1,r0,r2⟩:=r
 obtain ⟨cs,h,hbk⟩:=h
 obtain ⟨hd,hg,hb⟩:=zI g
 have hs:=hH.e (P:=P) (n:=n) (ops:=ops) (news:=news) (st:=⟨S,B⟩) (o:=o) h hg (by rw[hd];exact hb) (by simpa using hbk) hn
 rw[hd] at hs
 exact ⟨st1,([k],[])::acc,.cons hs r1,by simpa using r0,r2⟩
theorem wN{k:Nat}{cs:List SV}{x:SV}(h:NOk P o (kA S) k cs x)(r:DK P n ops K (k::news) (acc0++[([],[k])]) ((dO o,x)::S) ((k,some cs)::B) l)(g:goK n ops S o=true:=by kernel_rfl)(hf:zU k ⟨S,B⟩=true:=by kernel_rfl)(hn:clear1 news x=true:=by kernel_rfl)(hc:clearL news cs=true:=by kernel_rfl):DK P n ops K news acc0 S B (o::l):=by
 obtain ⟨st1,acc,r1,r0,r2⟩:=r
 obtain ⟨hd,hg,hb⟩:=zI g
 have hs:=hH.n (P:=P) (n:=n) (ops:=ops) (news:=news) (st:=⟨S,B⟩) (o:=o) h hg (by rw[hd];exact hb) hf hn hc
 rw[hd] at hs
 exact ⟨st1,([],[k])::acc,.cons hs r1,by simpa using r0,r2⟩
theorem wT{k:Nat}{cs:List SV}(h:TK P o S B k cs)(r:DK P n ops K news (acc0++[([k],[k])]) S ((k,some cs)::B) l)(g:goT ops S o=true:=by kernel_rfl)(hc:clearLR ops S o news cs=true:=by kernel_rfl):DK P n ops K news acc0 S B (o::l):=by
 obtain ⟨st1,acc,r1,r0,r2⟩:=r
 obtain ⟨old,h,hb⟩:=h
 obtain ⟨hd,hg⟩:=goT_spec g
 have hs:=hH.t (P:=P) (n:=n) (ops:=ops) (news:=news) (st:=⟨S,B⟩) (o:=o) h hg (by rw[hd];rfl) hb hc
 rw[hd] at hs
 exact ⟨st1,([k],[k])::acc,.cons hs r1,by simpa using r0,r2⟩
theorem wK(r:DK P n ops K news (acc0++[([],[])]) ((dO o,.d (.tup []))::S) B l)(g:goF n ops S o=true:=by kernel_rfl):DK P n ops K news acc0 S B (o::l):=by
 obtain ⟨st1,acc,r1,r0,r2⟩:=r
 obtain ⟨hd,hg,hb⟩:=goF_spec g
 have hs:=hH.skip (P:=P) (n:=n) (ops:=ops) (news:=news) (st:=⟨S,B⟩) (o:=o) hg (by rw[hd];exact hb)
 rw[hd] at hs
 exact ⟨st1,([],[])::acc,.cons hs r1,by simpa using r0,r2⟩
end
end Go.Fid
