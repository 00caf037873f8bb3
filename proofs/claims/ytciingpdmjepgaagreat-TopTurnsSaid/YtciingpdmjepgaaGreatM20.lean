/- Part 20 of a proof: rules, plain facts, and functions walked. -/
import Derived.Test.YtciingpdmjepgaaGreatM19
import Derived.Test.YtciingpdmjepgaaGreatM10
import Derived.Test.YtciingpdmjepgaaGreatM18
import Derived.Test.YtciingpdmjepgaaGreatM11
set_option linter.all false
set_option maxRecDepth 4000
namespace Go.Fid
inductive R2 {α β:Type} (R:α->β->Prop):List α->List β->Prop where
 |nil:R2 R [] []
 |cons {a:α} {b:β} {l:List α} {m:List β}:R a b->R2 R l m->R2 R (a::l) (b::m)
theorem R2.length{α β:Type}{R:α->β->Prop}{l:List α}{m:List β}(h:R2 R l m):l.length=m.length:=by
 induction h with
 |nil=>rfl
 |cons _ _ ih=>simp [ih]
theorem R2.get{α β:Type}{R:α->β->Prop}{l:List α}{m:List β}(h:R2 R l m)(d:α)(e:β):∀ i,i<l.length->R (l.getD i d) (m.getD i e):=by
 induction h with
 |nil=>intro i hi;exact absurd hi (Nat.not_lt_zero _)
 |cons h1 _ ih=>
  intro i hi
  cases i with
  |zero=>exact h1
  |succ i=>simpa using ih i (by simpa using hi)
theorem R2.of{α β:Type}{R:α->β->Prop}(d:α)(e:β):∀ {l:List α} {m:List β},l.length=m.length->(∀ i,i<l.length->R (l.getD i d) (m.getD i e))->R2 R l m
 |[],[],_,_=>.nil
 |[],_::_,h,_=>by simp at h
 |_::_,[],h,_=>by simp at h
 |a::l,b::m,h,k=>.cons (k 0 (by simp)) (R2.of d e (by simpa using h) fun i hi=>by simpa using k (i+1) (by simpa using hi))
theorem R2.map{α β γ δ:Type}{R:α->β->Prop}{S:γ->δ->Prop}{f:α->γ}{g:β->δ}{l:List α}{m:List β}(h:R2 R l m)(hf:∀ a b,R a b->S (f a) (g b)):R2 S (l.map f) (m.map g):=by
 induction h with
 |nil=>exact .nil
 |cons h1 _ ih=>exact .cons (hf _ _ h1) ih
theorem R2.same{α γ δ:Type}{S:γ->δ->Prop}{f:α->γ}{g:α->δ}(l:List α)(h:∀ a∈l,S (f a) (g a)):R2 S (l.map f) (l.map g):=by
 induction l with
 |nil=>exact .nil
 |cons a l ih=>exact .cons (h a (.head _)) (ih fun b hb=>h b (.tail _ hb))
theorem R2.app{α β:Type}{R:α->β->Prop}{l l':List α}{m m':List β}(h:R2 R l m)(h':R2 R l' m'):R2 R (l++l') (m++m'):=by
 induction h with
 |nil=>exact h'
 |cons h1 _ ih=>exact .cons h1 ih
theorem R2.flat{α β:Type}{R:α->β->Prop}{T:List (List α)}{U:List (List β)}(h:R2 (R2 R) T U):R2 R T.flatten U.flatten:=by
 induction h with
 |nil=>exact .nil
 |cons h1 _ ih=>exact h1.app ih
theorem R2.take{α β:Type}{R:α->β->Prop}{l:List α}{m:List β}(h:R2 R l m):∀ n,R2 R (l.take n) (m.take n):=by
 induction h with
 |nil=>intro n;simp;exact .nil
 |cons h1 _ ih=>
  intro n
  cases n with
  |zero=>exact .nil
  |succ n=>exact .cons h1 (ih n)
theorem R2.drop{α β:Type}{R:α->β->Prop}{l:List α}{m:List β}(h:R2 R l m):∀ n,R2 R (l.drop n) (m.drop n):=by
 induction h with
 |nil=>intro n;simp;exact .nil
 |cons h1 h2 ih=>
  intro n
  cases n with
  |zero=>exact .cons h1 h2
  |succ n=>exact ih n
theorem R2.rows{R:Int->Int->Prop}{l m:List Int}(h:R2 R l m)(w n:Nat):R2 (R2 R) (rowsOf w n l) (rowsOf w n m):=R2.same _ fun y _=>(h.drop _).take _
theorem R2.lo{R:Int->Int->Prop}(hR:∀ a b c d,R a b->R c d->R ((a+c).fdiv 2) ((b+d).fdiv 2)):∀ {l m:List Int},R2 R l m->R2 R (loS l) (loS m)
 |[],_,.nil=>.nil
 |[_],_,.cons h1 .nil=>.cons h1 .nil
 |_::_::_,_,.cons h1 (.cons h2 h3)=>.cons (hR _ _ _ _ h1 h2) (R2.lo hR h3)
theorem R2.hi{R S:Int->Int->Prop}(hR:∀ a b c d,R a b->R c d->S (a-c) (b-d)):∀ {l m:List Int},R2 R l m->R2 S (hiS l) (hiS m)
 |[],_,.nil=>.nil
 |[_],_,.cons h1 .nil=>.nil
 |_::_::_,_,.cons h1 (.cons h2 h3)=>.cons (hR _ _ _ _ h1 h2) (R2.hi hR h3)
theorem R2.col{R:Int->Int->Prop}{w j:Nat}(hj:j<w):∀ {T U:List (List Int)},R2 (R2 R) T U->Rect w T->R2 R (T.map fun r=>r.getD j 0) (U.map fun r=>r.getD j 0)
 |_,_,.nil,_=>.nil
 |_,_,.cons h1 h2,hT=>.cons (h1.get 0 0 j (by rw[hT _ (.head _)];exact hj)) (R2.col hj h2 fun r hr=>hT r (.tail _ hr))
theorem R2.tr{R:Int->Int->Prop}{w:Nat}{T U:List (List Int)}(h:R2 (R2 R) T U)(hT:Rect w T):R2 (R2 R) (Go.Fid.tr w T) (Go.Fid.tr w U):=R2.same _ fun j hj=>R2.col (List.mem_range.1 hj) h hT
theorem R2.rect{R:Int->Int->Prop}{w:Nat}:∀ {T U:List (List Int)},R2 (R2 R) T U->Rect w T->Rect w U
 |_,_,.nil,_=>fun r hr=>by simp at hr
 |_,_,.cons h1 h2,hT=>fun r hr=>by
  rcases List.mem_cons.1 hr with e | e
  ·rw[e,<- h1.length];exact hT _ (.head _)
  ·exact R2.rect h2 (fun r hr=>hT r (.tail _ hr)) r e
theorem R2.trP{R:Int->Int->Prop}{w:Nat}{T U:List (List Int)}(h:R2 (R2 R) T U)(hT:Rect w T):R2 (R2 R) (Go.Fid.trP T) (Go.Fid.trP U):=by
 by_cases h0:0<T.length
 ·rw[trP_eq hT (ne_len h0),trP_eq (h.rect hT) (ne_len (by rw[<- h.length];exact h0))]
  exact h.tr hT
 ·have e1:=List.eq_nil_of_length_eq_zero (show T.length=0 by omega)
  have e2:=List.eq_nil_of_length_eq_zero (show U.length=0 by have:=h.length;omega)
  rw[e1,e2];exact .nil
theorem trP_rect{w:Nat}{T:List (List Int)}(hT:Rect w T):Rect T.length (Go.Fid.trP T):=by
 by_cases h0:0<T.length
 ·rw[trP_eq hT (ne_len h0)];exact tr_rect _ _
 ·rw[List.eq_nil_of_length_eq_zero (show T.length=0 by omega)]
  intro r hr;simp [Go.Fid.trP,Go.Fid.tr] at hr
theorem R2.low{R:Int->Int->Prop}(hR:∀ a b c d,R a b->R c d->R ((a+c).fdiv 2) ((b+d).fdiv 2)){w h:Nat}{px qx:List Int}(hl:px.length=w*h)(hpq:R2 R px qx):R2 R (bLow w h px) (bLow w h qx):=by
 have r0:=rowsOf_rect hl
 have t0:=hpq.rows w h
 have t1:=t0.map (S:=R2 R) (f:=loS) (g:=loS) fun a b q=>q.lo hR
 have r1:=rect_lo r0
 have t2:=t1.trP r1
 have r2:=trP_rect r1
 have t3:=t2.map (S:=R2 R) (f:=loS) (g:=loS) fun a b q=>q.lo hR
 have r3:=rect_lo r2
 exact (t3.trP r3).flat
open Go.RowKit (Below)
section
variable {P:Program} {n:Fr} {ops:Array Oper} {K:SL->BS->Prop} {S S0 S1:SL} {B B0 B1:BS} {l:List Oper} {o:Oper} {D:SL}
def KI(S1:SL)(B1:BS)(S:SL)(B:BS):Prop:=kP ⟨S,B⟩ ⟨S1,B1⟩
theorem zI(h:kP ⟨S,B⟩ ⟨S1,B1⟩):SK P n ops (KI S1 B1) S B []:=⟨⟨S,B⟩,.nil,h⟩
end
section
variable {P:Program} {S:SL} {B:BS} {o:Oper} {x y:Operand} {k:Nat} {T:TypeId}
end
section
variable {P:Program} {o:Oper}
theorem oQd{S:Nat->SV}{z:SV}(d d2:jW)(h:qU P o S [] z)(e:d=d2)(e0:z=.d d:=by kernel_rfl):qU P o S [] (.d d2):=e▸e0▸h
theorem oQr{S:SL}{B:BS}{k:Nat}{z:SV}(d d2:jW)(h:ROk P o S B k z)(e:d=d2)(e0:z=.d d:=by kernel_rfl):ROk P o S B k (.d d2):=e▸e0▸h
end
theorem clrn_nil(k j:Nat):Clr k [(j,none)]:=dN (clr_nil k)
theorem clrn_hide{k j:Nat}{c:Option (List SV)}{bs:BS}(h:Clr k ((j,none)::bs)):Clr k ((j,none)::(j,c)::bs):=fun i x hi hb=>h i x hi (by
 rw[jJ] at hb ⊢
 split at hb
 ·cases hb
 ·rename_i hne;rw[jJ,if_neg hne] at hb;rw[if_neg hne];exact hb)
theorem clrn_at{k j q:Nat}{c:Option (List SV)}{bs:BS}(hc:∀ x,q≠k->c=some x->kY k x=false)(h:Clr k ((j,none)::bs)):Clr k ((j,none)::(q,c)::bs):=fun i x hi hb=>by
 rw[jJ] at hb
 split at hb
 ·cases hb
 ·rename_i hne
  rw[jJ] at hb
  split at hb
  ·rename_i hq;exact hc x (fun e=>hi (hq.symm.trans e)) hb
  ·exact h i x hi (by rw[jJ,if_neg hne];exact hb)
theorem clrn_self{k j:Nat}{x:Option (List SV)}{bs:BS}(h:Clr k ((j,none)::bs)):Clr k ((j,none)::(k,x)::bs):=clrn_at (fun _ e _=>absurd rfl e) h
theorem clrn_none{k j q:Nat}{bs:BS}(h:Clr k ((j,none)::bs)):Clr k ((j,none)::(q,none)::bs):=clrn_at (fun _ _ e=>by cases e) h
theorem clrn_cons{k j q:Nat}{cs:List SV}{bs:BS}(hc:kY k cs=false)(h:Clr k ((j,none)::bs)):Clr k ((j,none)::(q,some cs)::bs):=clrn_at (fun x _ e=>by injection e with e;subst e;exact hc) h
theorem clrn_map{α:Type}{k j q:Nat}{f:α->jW}{l:List α}{bs:BS}(h:Clr k ((j,none)::bs)):Clr k ((j,none)::(q,some (l.map (fun g=>SV.d (f g))))::bs):=clrn_cons (hH k f l) h
theorem clrn_d{k j q:Nat}{l:List jW}{bs:BS}(h:Clr k ((j,none)::bs)):Clr k ((j,none)::(q,some (l.map SV.d))::bs):=clrn_cons (hH k id l) h
theorem clrn_bx{k j q:Nat}{d:jW}{bs:BS}(h:Clr k ((j,none)::bs)):Clr k ((j,none)::(q,some (bx d))::bs):=clrn_d h
theorem den_pos(u:Rat):((u.den:Nat):Int)≠0:=by have:=u.den_pos;omega
end Go.Fid
namespace Go.Proofs.YtciingpdmjepgaaGreat
open Go.Fid
theorem f_counted(x:kR)(a:Int)(hx:xI x a 68719476736):jU Tryz.prog 68 [(jL x)] (jL (kG a)):=by
 refine vD Tryz.func68 ?_
 refine jA<|kx [(1,(.ref 0 0)),(2,(.ref 1 0))] [(0,some (bx (jL x))),(1,some (bx (jL (kR.mk false []))))] (zN (yB 0)<|zN (vL 1 vY vZ)<|zZ) ?_
 refine jA<|jA<|kx [(4,(vb (qS x)))] [] (zR (qE jP)<|zE (kD (t_valid x (Nat.le_trans hx.l (by decide))))<|zZ) ?_
 refine jF (b:=(qS x)) rfl (fun h1=>?_) (fun h1=>?_)
 ·refine jA<|kx [] [(1,some (bx (jL x)))] (zR (qE jP)<|zT (qO jP)<|zZ) ?_
  refine jG ⟨_,(qK (cs:=(bx (jL x))) (d:=(jL x)) rfl rfl jP rfl rfl .nil),?_⟩
  rw[<- hx.v,ofZ_toZ h1];rfl
 ·refine jD<|jA<|kx [] [(1,some (bx (jL (kG 0))))] (zE (kD (nI 0))<|zT (qO jP)<|zZ) ?_
  refine jG ⟨_,(qK (cs:=(bx (jL (kG 0)))) (d:=(jL (kG 0))) rfl rfl jP rfl rfl .nil),?_⟩
  rw[<- hx.v,toZ_bad h1,ofZ_zero];rfl
theorem f_newO(num:kR)(a:Int)(hnum:xI num a 68719476736)(den:kR)(b:Int)(hden:xI den b 68719476736)(hb:b≠0):jU Tryz.prog 44 [(jL num),(jL den)] (.tup [(qA (gQ (Rat.divInt a b))),(.val (.int .i64 (0)))]):=by
 refine vD Tryz.func44 ?_
 refine jA<|kx [(2,(.ref 0 0)),(3,(.ref 1 0)),(4,(.ref 2 0))] [(0,some (bx (jL num))),(1,some (bx (jL den))),(2,some (bx (qA oZr)))] (zN (yB 0)<|zN (yB 1)<|zN (vL 2 eM fG)<|zM<|zZ) ?_
 refine jA<|kd [] [(0,some (bx (jL (kG a)))),(1,some (bx (jL (kG b))))] mo (wR (qE jP)<|wE (kD (f_counted num a hnum))<|wR (qE jP)<|wE (kD (f_counted den b hden))<|wT (qO jP)<|wT (qO jP)<|wZ) ?_
 refine jA<|jA<|kx [(12,(vb false))] [] (zR (qE jP)<|zE (kD (dY (nO (xI.ln hden))))<|zE (gI false zW (by exact beq_eq_false_iff_ne.2 (signI_ne hb)))<|zZ) ?_
 refine uU ?_
 refine jD<|jA<|kx [(5,(jN 0))] [(2,some (bx (qA (gQ (Rat.divInt a b)))))] (zR (qE jP)<|zR (qE jP)<|zE (kD (f_reduced (kG a) (kG b) a b (nO (xI.ln hnum)) (nO (xI.ln hden)) (by assumption)))<|zT (qO xG)<|zM<|zZ) ?_
 refine jG ⟨_,(qK (cs:=(bx (qA (gQ (Rat.divInt a b))))) (d:=(qA (gQ (Rat.divInt a b)))) rfl rfl xG rfl rfl (.tmp (d:=(.val (.int .i64 (0)))) rfl .nil)),?_⟩
 rfl
end Go.Proofs.YtciingpdmjepgaaGreat
namespace Go.Fid
end Go.Fid
