/- Part 23 of a proof: rules, plain facts, and functions walked. -/
import Derived.Test.YtciingpdmjepgaaGreatM12
import Derived.Test.YtciingpdmjepgaaGreatM4
import Derived.Test.YtciingpdmjepgaaGreatM22
import Derived.Test.YtciingpdmjepgaaGreatM21
import Derived.Test.YtciingpdmjepgaaGreatM8
set_option linter.all false
set_option maxRecDepth 4000
namespace Go.Fid
def rngB(n:Int)(x:jE):Bool:=((decide (x.fr<0)||decide (n<=x.fr))||decide (x.to_<0))||decide (n<=x.to_)
theorem rngB_t{n:Int}{x:jE}(h:rngB n x=true):edgC n x=2:=by
 simp only[rngB,Bool.or_eq_true,decide_eq_true_eq] at h
 exact if_neg (by omega)
theorem rngB_f{n:Int}{x:jE}(h:rngB n x=false):0<=x.fr/\x.fr<n/\0<=x.to_/\x.to_<n:=by
 simp only[rngB,Bool.or_eq_false_iff,decide_eq_false_iff_not] at h
 omega
theorem edgC_d{n:Int}{x:jE}(h:rngB n x=false)(e:x.fr=x.to_):edgC n x=13:=by
 unfold edgC;rw[if_pos (rngB_f h),if_pos e]
theorem edgC_q{n:Int}{x:jE}(h:rngB n x=false)(e:x.fr≠x.to_):edgC n x=yD x.turn.a x.turn.b x.turn.c x.turn.d:=by
 unfold edgC;rw[if_pos (rngB_f h),if_neg e]
def limB(n:Int)(es:List jE):Bool:=(decide (n<1)||decide (64<n))||decide (256<((es.length:Nat):Int))
theorem limB_t{n:Int}{es:List jE}(h:limB n es=true):zP n es=3:=by
 simp only[limB,Bool.or_eq_true,decide_eq_true_eq] at h
 exact lopC_lim (by omega)
theorem limB_f{n:Int}{es:List jE}(h:limB n es=false):zP n es=edsC n es/\1<=n/\n<=64/\es.length<=256:=by
 simp only[limB,Bool.or_eq_false_iff,decide_eq_false_iff_not] at h
 exact ⟨lopC_eds (by omega) (by omega) (by omega),by omega,by omega,by omega⟩
def okUp(n:Int)(es:List jE)(k:Nat):Prop:=∀ i,i<k->edgC n (es.getD i e0)=0
theorem okUp_0(n:Int)(es:List jE):okUp n es 0:=fun i hi=>by omega
theorem okUp_s{n:Int}{es:List jE}{k:Nat}(h:okUp n es k)(h1:edgC n (es.getD k e0)=0):okUp n es (k+1):=fun i hi=>by
 by_cases e:i=k
 ·subst e;exact h1
 ·exact h i (by omega)
theorem lop_bad{n:Int}{es:List jE}{k c:Nat}(hl:limB n es=false)(hk:k<es.length)(hv:okUp n es k)(h:edgC n (es.getD k e0)=c)(hc:c≠0):zP n es=c:=by
 rw[(limB_f hl).1,edsC_at hk hv (by rw[h];exact hc),h]
theorem lop_end{n:Int}{es:List jE}{k:Nat}(hl:limB n es=false)(hk:k=es.length)(hv:okUp n es k):zP n es=0:=by
 subst hk;rw[(limB_f hl).1,edsC_end hv]
theorem eD{a:Nat}(h:((a:Nat):Int)≠0):a≠0:=fun e=>h (by rw[e];rfl)
def Tok(es:List jE):Prop:=∀ x∈es,mK x.turn
theorem Tok.at{es:List jE}(h:Tok es){k:Nat}(hk:k<es.length):mK (es.getD k e0).turn:=by
 rw[List.getD_eq_getElem?_getD,List.getElem?_eq_getElem hk]
 exact h _ (List.getElem_mem hk)
def sIx(k:Int):Nat:=if 0<=k then k.toNat else (-1-k).toNat
def stE(es:List jE)(k:Int):jE:=es.getD (sIx k) e0
def stF(es:List jE)(k:Int):Int:=if 0<=k then (stE es k).fr else (stE es k).to_
def stT(es:List jE)(k:Int):Int:=if 0<=k then (stE es k).to_ else (stE es k).fr
def stQ(es:List jE)(k:Int):jB:=if 0<=k then (stE es k).turn else qV (uK (stE es k).turn)
def inE(es:List jE)(k:Int):Prop:=-((es.length:Nat):Int)<=k/\k<((es.length:Nat):Int)
instance {es:List jE} {k:Int}:Decidable (inE es k):=by unfold inE;infer_instance
def arV(es:List jE)(ws:List Int):Nat->jB
 |0=>q1
 |k+1=>qV (jX (stQ es (ws.getD k 0)) (arV es ws k))
def arX(es:List jE)(ws:List Int)(k:Nat):Nat:=qC (jX (stQ es (ws.getD k 0)) (arV es ws k))
def arOk(es:List jE)(ws:List Int):Prop:=∀ i,i<ws.length->arX es ws i=0
instance {es:List jE} {ws:List Int}:Decidable (arOk es ws):=by unfold arOk;infer_instance
def aroC(es:List jE)(ws:List Int):Nat:=if arOk es ws then 0 else 3
def wIn(es:List jE)(ws:List Int):Prop:=∀ k∈ws,inE es k
def clP(es:List jE)(ws:List Int):Prop:=∀ i,i<ws.length->stF es (ws.getD ((i+1) % ws.length) 0)=stT es (ws.getD i 0)
instance {es:List jE} {ws:List Int}:Decidable (clP es ws):=by unfold clP;infer_instance
instance {es:List jE} {ws:List Int}:Decidable (wIn es ws):=by unfold wIn;infer_instance
end Go.Fid
namespace Go.Fid
def ini(i:Nat):List Int:=(List.range i).map fun k=>((k:Nat):Int)
theorem ini_len(i:Nat):(ini i).length=i:=by simp [ini]
theorem ini_s(i:Nat):ini i++[((i:Nat):Int)]=ini (i+1):=by simp [ini,List.range_succ]
def RlUp(a b:Int)(p:List Int)(xB:List Nat)(q:List Int):Prop:=q.length=p.length/\∀ j,j<p.length->q.getD j 0=if j∈xB then rl a b (p.getD j 0) else p.getD j 0
theorem RlUp_0(a b:Int)(p:List Int):RlUp a b p [] p:=⟨rfl,fun j hj=>by simp⟩
theorem RlUp_y{a b:Int}{p q:List Int}{xB:List Nat}{k:Nat}(h:RlUp a b p xB q)(hk:k<p.length)(hn:k∉xB)(he:q.getD k 0=b):RlUp a b p (xB++[k]) (q.set k a):=by
 refine ⟨by rw[List.length_set];exact h.1,fun j hj=>?_⟩
 have h1:=h.2 j hj
 by_cases e:k=j
 ·subst e
  rw[List.getD_eq_getElem?_getD,List.getElem?_set_self (by rw[h.1];exact hk)]
  rw[h1,if_neg hn] at he
  simp only[List.mem_append,List.mem_singleton,or_true,if_true,Option.getD_some]
  unfold rl;rw[if_pos he]
 ·rw[List.getD_eq_getElem?_getD,List.getElem?_set_ne e,<- List.getD_eq_getElem?_getD,h1]
  simp only[List.mem_append,List.mem_singleton,show ¬ j=k from fun x=>e x.symm,or_false]
theorem RlUp_n{a b:Int}{p q:List Int}{xB:List Nat}{k:Nat}(h:RlUp a b p xB q)(hk:k<p.length)(hn:k∉xB)(he:¬ q.getD k 0=b):RlUp a b p (xB++[k]) q:=by
 refine ⟨h.1,fun j hj=>?_⟩
 have h1:=h.2 j hj
 by_cases e:k=j
 ·subst e
  rw[h1,if_neg hn] at he
  rw[h1,if_neg hn]
  simp only[List.mem_append,List.mem_singleton,or_true,if_true]
  unfold rl;rw[if_neg he]
 ·rw[h1]
  simp only[List.mem_append,List.mem_singleton,show ¬ j=k from fun x=>e x.symm,or_false]
theorem RlUp_end{a b:Int}{p q:List Int}{xB:List Nat}(h:RlUp a b p xB q)(hs:∀ k,k<q.length->k∈xB):q=mrg false a b p:=by
 apply List.ext_getElem?
 intro j
 by_cases hj:j<p.length
 ·have h1:=h.2 j hj
  rw[if_pos (hs j (by rw[h.1];exact hj))] at h1
  have e2:=gE (g:=false) (a:=a) (b:=b) hj
  rw[List.getD_eq_getElem?_getD,List.getElem?_eq_getElem (by rw[h.1];exact hj)] at h1
  rw[List.getD_eq_getElem?_getD,List.getElem?_eq_getElem (by rw[mrg_len];exact hj)] at e2
  rw[List.getElem?_eq_getElem (by rw[h.1];exact hj),List.getElem?_eq_getElem (by rw[mrg_len];exact hj)]
  simp only[Option.getD_some] at h1 e2
  rw[h1,e2];rfl
 ·rw[List.getElem?_eq_none (by rw[h.1];omega),List.getElem?_eq_none (by rw[mrg_len];omega)]
def unseen(n:Nat)(xB:List Nat):Nat:=(List.range n).countP fun j=>!(xB.contains j)
theorem unseen_lt{n k:Nat}{xB:List Nat}(hk:k<n)(hn:k∉xB):unseen n (xB++[k])<unseen n xB:=by
 unfold unseen
 refine countP_lt (i:=k) (fun x _ hx=>?_) (by simpa using hk) (by simpa using hn) (by simp)
 simp only[Bool.not_eq_true',List.contains_eq_mem,decide_eq_false_iff_not,List.mem_append,not_or] at hx ⊢
 exact hx.1
theorem pA_in{n:Nat}{es:List jE}{k:Nat}(h:xP n es)(hk:k<es.length)(g:Bool):0<=(es.getD k e0).fr/\(es.getD k e0).fr.toNat<(kV g n es k).length/\0<=(es.getD k e0).to_/\(es.getD k e0).to_.toNat<(kV g n es k).length:=by
 have h1:=eL h hk
 have h2:=h1.f0;have h3:=h1.f1;have h4:=h1.t0;have h5:=h1.t1
 rw[gV];omega
end Go.Fid
namespace Go.Proofs.YtciingpdmjepgaaGreat
open Go.Fid
theorem eF:uJ Tryz.prog 39=some (56,6):=by kernel_rfl
theorem fo56_0:uF Tryz.prog 56 0=some 0:=by kernel_rfl
theorem fo56_1:uF Tryz.prog 56 1=some 1:=by kernel_rfl
theorem fo56_2:uF Tryz.prog 56 2=some 2:=by kernel_rfl
theorem sh56:kQ Tryz.prog 56=some (true,6):=by kernel_rfl
theorem ze56:uO Tryz.prog 56=some [.int .i64 0,.int .i64 0,.int .i64 0,.int .i64 0,.int .i64 0,.int .i64 0]:=by kernel_rfl
theorem zo56:nH [.int .i64 0,.int .i64 0,.int .i64 0,.int .i64 0,.int .i64 0,.int .i64 0] [.val (.int .i64 0),.val (.int .i64 0),.val (.int .i64 0),.val (.int .i64 0),.val (.int .i64 0),.val (.int .i64 0)]:=by simp [nH,Value.oneCell']
theorem l_check(n:Int)(es:List jE)(hb:es.length<=1000000):jU Tryz.prog 19 [(.val (.int .i64 (n))),(.sl 56 6 (List.map kC es))] (.val (.int .i64 ((((zP n es):Nat):Int)))):=by
 refine vD Tryz.func19 ?_
 refine jA<|kx [] [] (zM<|zZ) ?_
 refine jA<|jA<|kx [(18,(vb ((decide (n<1)||decide (64<n))||decide (256<((es.length:Nat):Int)))))] [] ?_ ?_
 ·refine zM<|zE uT<|zE (oV (vb (decide (n<1))) (kA (by kernel_rfl)))<|?_
  rcases hb1:(decide (n<1)) with _ | _
  ·replace hb1:=uZ hb1
   refine zM<|zE cC<|zE zG<|zE (oV (vb (false||decide (64<n))) (kA (by kernel_rfl)))<|?_
   rcases hb2:(false||decide (64<n)) with _ | _
   ·replace hb2:=uZ (p:=(64<n)) hb2
    exact zM<|zE (vV eF)<|zE cC<|zE zG<|zZ
   ·replace hb2:=uY (p:=(64<n)) hb2
    exact zK<|zK<|zK<|zE uP<|zZ
  ·replace hb1:=uY hb1
   exact zK<|zK<|zE uP<|zM<|zK<|zK<|zK<|zE uP<|zZ
 refine jF rfl (fun h3=>?_) (fun h3=>?_)
 ·refine jA<|kx [(4,(jN 3))] [] (zM<|zZ) ?_
  refine jG ⟨_,(.tmp (d:=(.val (.int .i64 (3)))) rfl .nil),?_⟩
  rw[limB_t h3];rfl
 ·refine jD<|jA<|jA<|kx [(19,(vl 56 6 kC es)),(20,(jN es.length)),(21,(jN 0))] [] (zM<|zE (vV eF)<|zM<|zZ) ?_
  refine jH<|kF (α:=Nat) (fun k=>⟨[(0,(vi n)),(19,(vl 56 6 kC es)),(20,(jN es.length)),(21,(jN k))],[]⟩) (fun k=>k<=es.length/\okUp n es k) (fun k=>es.length-k) 0 wk ⟨Nat.zero_le _,okUp_0 _ _⟩ ?_
  rintro k ⟨hk,hv⟩
  refine jA<|kx [(22,(vb (decide (((k:Nat):Int)<((es.length:Nat):Int)))))] [] (zE uT<|zZ) ?_
  refine jA<|jF rfl (fun h4=>?_) (fun h4=>?_)
  ·replace h4:=uY h4
   refine jD<|jA<|jH<|jA<|kx [(6,(.ref 0 0))] [(0,some (bx (kC (es.getD k (jE.mk 0 0 (jB.mk 0 0 0 0))))))] (zE (nA eF k (jE.mk 0 0 (jB.mk 0 0 0 0)))<|zE (oCa sh56)<|zN (vL 0 ze56 zo56)<|zT (qO sh56)<|zZ) ?_
   refine jA<|jA<|kx [(44,(vb (((decide ((es.getD k (jE.mk 0 0 (jB.mk 0 0 0 0))).fr<0)||decide (n<=(es.getD k (jE.mk 0 0 (jB.mk 0 0 0 0))).fr))||decide ((es.getD k (jE.mk 0 0 (jB.mk 0 0 0 0))).to_<0))||decide (n<=(es.getD k (jE.mk 0 0 (jB.mk 0 0 0 0))).to_))))] [] ?_ ?_
   ·refine zE (jY fo56_0)<|zR (jZ kK)<|zE uT<|zE (oV (vb (decide ((es.getD k (jE.mk 0 0 (jB.mk 0 0 0 0))).fr<0))) (kA (by kernel_rfl)))<|?_
    rcases hb5:(decide ((es.getD k (jE.mk 0 0 (jB.mk 0 0 0 0))).fr<0)) with _ | _
    ·replace hb5:=uZ hb5
     refine zE (jY fo56_0)<|zR (jZ kK)<|zM<|zE oGe<|zE zG<|zE (oV (vb (false||decide (n<=(es.getD k (jE.mk 0 0 (jB.mk 0 0 0 0))).fr))) (kA (by kernel_rfl)))<|?_
     rcases hb6:(false||decide (n<=(es.getD k (jE.mk 0 0 (jB.mk 0 0 0 0))).fr)) with _ | _
     ·replace hb6:=uZ (p:=(n<=(es.getD k (jE.mk 0 0 (jB.mk 0 0 0 0))).fr)) hb6
      refine zE (jY fo56_1)<|zR (jZ kK)<|zE uT<|zE zG<|zE (oV (vb (false||decide ((es.getD k (jE.mk 0 0 (jB.mk 0 0 0 0))).to_<0))) (kA (by kernel_rfl)))<|?_
      rcases hb7:(false||decide ((es.getD k (jE.mk 0 0 (jB.mk 0 0 0 0))).to_<0)) with _ | _
      ·replace hb7:=uZ (p:=((es.getD k (jE.mk 0 0 (jB.mk 0 0 0 0))).to_<0)) hb7
       exact zE (jY fo56_1)<|zR (jZ kK)<|zM<|zE oGe<|zE zG<|zZ
      ·replace hb7:=uY (p:=((es.getD k (jE.mk 0 0 (jB.mk 0 0 0 0))).to_<0)) hb7
       exact zK<|zK<|zK<|zK<|zE uP<|zZ
     ·replace hb6:=uY (p:=(n<=(es.getD k (jE.mk 0 0 (jB.mk 0 0 0 0))).fr)) hb6
      exact zK<|zK<|zK<|zE uP<|zM<|zK<|zK<|zK<|zK<|zE uP<|zZ
    ·replace hb5:=uY hb5
     exact zK<|zK<|zK<|zK<|zE uP<|zM<|zK<|zK<|zK<|zE uP<|zM<|zK<|zK<|zK<|zK<|zE uP<|zZ
   refine jF rfl (fun h8=>?_) (fun h8=>?_)
   ·refine jA<|kx [(4,(jN 2))] [] (zM<|zZ) ?_
    refine jG ⟨_,(.tmp (d:=(.val (.int .i64 (2)))) rfl .nil),?_⟩
    rw[lop_bad (k:=k) h3 (by omega) hv (rngB_t h8) (by decide)];rfl
   ·refine jD<|jA<|jA<|kx [(49,(vb ((es.getD k (jE.mk 0 0 (jB.mk 0 0 0 0))).fr == (es.getD k (jE.mk 0 0 (jB.mk 0 0 0 0))).to_)))] [] (zE (jY fo56_0)<|zR (jZ kK)<|zE (jY fo56_1)<|zR (jZ kK)<|zE zW<|zZ) ?_
    refine jF rfl (fun h9=>?_) (fun h9=>?_)
    ·replace h9:=eq_of_beq h9
     refine jA<|kx [(4,(jN 13))] [] (zM<|zZ) ?_
     refine jG ⟨_,(.tmp (d:=(.val (.int .i64 (13)))) rfl .nil),?_⟩
     rw[lop_bad (k:=k) h3 (by omega) hv (edgC_d h8 h9) (by decide)];rfl
    ·replace h9:=ne_of_beq_false h9
     refine jD<|jA<|kx [(7,(jN (yD (((es.getD k (jE.mk 0 0 (jB.mk 0 0 0 0))).turn).a) (((es.getD k (jE.mk 0 0 (jB.mk 0 0 0 0))).turn).b) (((es.getD k (jE.mk 0 0 (jB.mk 0 0 0 0))).turn).c) (((es.getD k (jE.mk 0 0 (jB.mk 0 0 0 0))).turn).d))))] [] (zE (jY fo56_2)<|zR (qE qQ)<|zE (kD (q_chk (((es.getD k (jE.mk 0 0 (jB.mk 0 0 0 0))).turn).a) (((es.getD k (jE.mk 0 0 (jB.mk 0 0 0 0))).turn).b) (((es.getD k (jE.mk 0 0 (jB.mk 0 0 0 0))).turn).c) (((es.getD k (jE.mk 0 0 (jB.mk 0 0 0 0))).turn).d)))<|zM<|zZ) ?_
     refine jA<|kx [(54,(vb ((((yD (((es.getD k (jE.mk 0 0 (jB.mk 0 0 0 0))).turn).a) (((es.getD k (jE.mk 0 0 (jB.mk 0 0 0 0))).turn).b) (((es.getD k (jE.mk 0 0 (jB.mk 0 0 0 0))).turn).c) (((es.getD k (jE.mk 0 0 (jB.mk 0 0 0 0))).turn).d)):Nat):Int) != 0)))] [] (zM<|zE xX<|zZ) ?_
     refine jF rfl (fun h10=>?_) (fun h10=>?_)
     ·replace h10:=bne_iff_ne.1 h10
      refine jA<|kx [(4,(jN (yD (((es.getD k (jE.mk 0 0 (jB.mk 0 0 0 0))).turn).a) (((es.getD k (jE.mk 0 0 (jB.mk 0 0 0 0))).turn).b) (((es.getD k (jE.mk 0 0 (jB.mk 0 0 0 0))).turn).c) (((es.getD k (jE.mk 0 0 (jB.mk 0 0 0 0))).turn).d))))] [] (zM<|zM<|zZ) ?_
      refine jG ⟨_,(.tmp (d:=(.val (.int .i64 ((((yD (((es.getD k (jE.mk 0 0 (jB.mk 0 0 0 0))).turn).a) (((es.getD k (jE.mk 0 0 (jB.mk 0 0 0 0))).turn).b) (((es.getD k (jE.mk 0 0 (jB.mk 0 0 0 0))).turn).c) (((es.getD k (jE.mk 0 0 (jB.mk 0 0 0 0))).turn).d)):Nat):Int))))) rfl .nil),?_⟩
      rw[lop_bad (k:=k) h3 (by omega) hv (edgC_q h8 h9) (eD h10)];rfl
     ·replace h10:=bne_eq_false_iff_eq.1 h10
      refine jD<|kx [(21,(jN (k+1)))] [] (zE (uL (k+1))<|zM<|zZ) ?_
      exact ⟨(k+1),wk,⟨by omega,okUp_s hv ((edgC_q h8 h9).trans (by omega))⟩,(by omega)⟩
  ·replace h4:=uZ h4
   refine jS<|jA<|kx [(4,(jN 0))] [] (zM<|zZ) ?_
   refine jG ⟨_,(.tmp (d:=(.val (.int .i64 (0)))) rfl .nil),?_⟩
   rw[lop_end (k:=k) h3 (by omega) hv];rfl
theorem l_one :jU Tryz.prog 40 [] (jI q1):=by
 refine vD Tryz.func40 ?_
 refine jA<|kx [(0,(.ref 0 0))] [(0,some (bx (jI (jB.mk 0 0 0 0))))] (zN (vL 0 gK gS)<|zZ) ?_
 refine jA<|kx [] [(0,some (bx (jI (jB.mk 1 0 0 0))))] (zE (oBd pl28 gK gS)<|zT (qO qQ)<|zZ) ?_
 refine jG ⟨_,(qK (cs:=(bx (jI (jB.mk 1 0 0 0)))) (d:=(jI (jB.mk 1 0 0 0))) rfl rfl qQ rfl rfl .nil),?_⟩
 rfl
end Go.Proofs.YtciingpdmjepgaaGreat
namespace Go.Fid
def jnB(p q a b:Int):Bool:=((p == a)&&(q == b))||((p == b)&&(q == a))
def hsB(p q a:Int):Bool:=(p == a)||(q == a)
def alI(p node k:Int):Int:=if p=node then k else -1-k
def pTr(a b p q r s:Int):Bool :=
 if jnB p q a b=true then false else if hsB p q b=true then jnB r s (a+b-b) (p+q-b) else if hsB p q a=true then jnB r s (a+b-a) (p+q-a) else false
def pWk(a b p q r s j k:Int):Int × Int :=
 if hsB p q b=true then (alI p b j,alI r (p+q-b) k) else (alI r b k,alI p (p+q-a) j)
def trB(es:List jE)(i j k:Nat):Bool:=pTr (es.getD i e0).fr (es.getD i e0).to_ (es.getD j e0).fr (es.getD j e0).to_ (es.getD k e0).fr (es.getD k e0).to_
def wkP(es:List jE)(i j k:Nat):Int × Int:=pWk (es.getD i e0).fr (es.getD i e0).to_ (es.getD j e0).fr (es.getD j e0).to_ (es.getD k e0).fr (es.getD k e0).to_ ((j:Nat):Int) ((k:Nat):Int)
abbrev T3:=Nat × Nat × Nat
def tIn(es:List jE)(i j K:Nat):List T3:=((List.range K).filter fun m=>decide (j<m)&&trB es i j m).map fun m=>(i,j,m)
def tMid(es:List jE)(i J:Nat):List T3:=(List.range J).flatMap fun m=>if i<m then tIn es i m es.length else []
def tAll(es:List jE)(I:Nat):List T3:=(List.range I).flatMap fun m=>tMid es m es.length
def tris(es:List jE):List T3:=tAll es es.length
abbrev zQ:jB:=⟨0,0,0,0⟩
def parL(n:Nat)(es:List jE):List Int:=kV true n es es.length
theorem q_nz{q:jB}(h:cU q):q≠zQ:=qnz_iff.1 h
section
variable {n:Nat} {es:List jE}
theorem aV_nz(h:xP n es)(j:Nat):cU (aV n es j):=tV_nz h (Nat.le_refl _) j
theorem aV_sat(h:xP n es){i:Nat}(hi:(i:Int)∈jK n es):yR (aV n es (es.getD i e0).fr.toNat) (jX (aV n es (es.getD i e0).to_.toNat) (es.getD i e0).turn):=tV_sat h (Nat.le_refl _) hi
theorem aV_back(h:xP n es){i:Nat}(hi:(i:Int)∈jK n es)(hl:i<es.length):yR (jX (aV n es (es.getD i e0).fr.toNat) (uK (es.getD i e0).turn)) (aV n es (es.getD i e0).to_.toNat):=by
 have hx:=eL h hl
 refine ((aV_sat h hi).mul (yR.refl _)).trans ?_
 rw[vJ,qmul_cj,gZ,qmul_1]
 exact yR.sc (hZ.1 hx.q.1) _
theorem ab_yes(h:xP n es){j:Nat}{u:jB}(hu:cU u)(he:yR u (aV n es j))(hc:qC u=0):cS (yE (aV n es j))/\qV u=yE (aV n es j):=by
 have e:=(aA hu (aV_nz h j)).2 he
 have hf:=qC_0.1 hc
 rw[e] at hf
 exact ⟨hf,by rw[qV_c0 hc,e]⟩
theorem ab_no(h:xP n es){j:Nat}{u:jB}(hj:j<n)(hu:cU u)(he:yR u (aV n es j))(hc:qC u≠0):mH n es=3/\vK n es=[]/\qC u=3:=by
 have e:=(aA hu (aV_nz h j)).2 he
 have hn:¬ aFit n es:=fun hf=>hc (qC_0.2 (by rw[e];exact hf j hj))
 exact ⟨if_neg hn,if_neg hn,(qC_01 u).resolve_left hc⟩
def uX(out:List jB)(j:Nat):jB:=out.getD j zQ
def AbI(n:Nat)(es:List jE)(out:List jB):Prop:=out.length=n/\∀ j,j<n->uX out j=zQ\/(cS (yE (aV n es j))/\uX out j=yE (aV n es j))
theorem AbI.at(h:xP n es){out:List jB}(ho:AbI n es out){j:Nat}(hj:j<n)(hz:uX out j≠zQ):mK (uX out j)/\uX out j=yE (aV n es j):=by
 rcases ho.2 j hj with e | ⟨e1,e2⟩
 ·exact absurd e hz
 ·rw[e2];exact ⟨⟨qcan_nz (aV_nz h j),e1⟩,rfl⟩
theorem aE{out:List jB}{i j:Nat}{v:jB}(hi:i<out.length):uX (out.set i v) j=if i=j then v else uX out j:=by
 unfold uX
 by_cases e:i=j
 ·subst e;rw[if_pos rfl,List.getD_eq_getElem?_getD,List.getElem?_set_self hi];rfl
 ·rw[if_neg e,List.getD_eq_getElem?_getD,List.getElem?_set_ne e,<- List.getD_eq_getElem?_getD]
theorem AbI.set{out:List jB}(ho:AbI n es out){j:Nat}{v:jB}(hj:j<n)(h1:cS (yE (aV n es j)))(h2:v=yE (aV n es j)):AbI n es (out.set j v):=by
 refine ⟨by rw[List.length_set];exact ho.1,fun i hi=>?_⟩
 rw[aE (by rw[ho.1];exact hj)]
 split
 ·rename_i e;subst e;exact .inr ⟨h1,h2⟩
 ·exact ho.2 i hi
def zq(out:List jB):Nat:=out.countP fun q=>decide (q=zQ)
theorem zq_set{out:List jB}{j:Nat}{v:jB}(hj:j<out.length)(h1:uX out j=zQ)(h2:v≠zQ):zq (out.set j v)<zq out:=by
 unfold zq
 have hv:decide (v=zQ)=false:=decide_eq_false h2
 have:∀ (l:List jB) (j:Nat),j<l.length->l.getD j zQ=zQ->(l.set j v).countP (fun q=>decide (q=zQ))<l.countP fun q=>decide (q=zQ):=by
  intro l
  induction l with
  |nil=>intro j hj;simp at hj
  |cons x l ih=>
   intro j hj hx
   cases j with
   |zero=>
    simp only[List.getD_cons_zero] at hx
    subst hx
    rw[List.set_cons_zero,List.countP_cons,List.countP_cons,if_neg (by rw[hv];simp),if_pos (by simp)];omega
   |succ j=>
    simp only[List.getD_cons_succ] at hx
    rw[List.set_cons_succ,List.countP_cons,List.countP_cons]
    have:=ih j (by simpa using hj) hx
    omega
 exact this out j hj h1
theorem ab_all(h:xP n es){out:List jB}(ho:AbI n es out)(hr:∀ j,j<n->(parL n es).getD j 0=j->uX out j≠zQ)
  (hc:∀ i:Nat,(i:Int)∈jK n es->(uX out (es.getD i e0).fr.toNat≠zQ↔uX out (es.getD i e0).to_.toNat≠zQ)):out=vK n es/\mH n es=0:=by
 have hall:∀ j,j<n->uX out j≠zQ:=fun j hj=>by
  have rj:=cG h (Nat.le_refl es.length) hj
  have e1:=tPar_root h (Nat.le_refl es.length) hj
  have hrn:((kV true n es es.length).getD j 0).toNat<n:=by omega
  have h1:=hr _ hrn (by unfold parL;omega)
  exact (cF h (fun i=>uX out i≠zQ) (Nat.le_refl es.length) hc hrn hj e1).1 h1
 have hf:aFit n es:=fun j hj=>by
  rcases ho.2 j hj with e | ⟨e1,_⟩
  ·exact absurd e (hall j hj)
  ·exact e1
 refine ⟨?_,if_pos hf⟩
 unfold vK
 rw[if_pos hf]
 apply List.ext_getElem?
 intro j
 by_cases hj:j<n
 ·have e:=(ho.at h hj (hall j hj)).2
  unfold uX at e
  rw[List.getD_eq_getElem?_getD,List.getElem?_eq_getElem (by rw[ho.1];exact hj)] at e
  rw[List.getElem?_eq_getElem (by rw[ho.1];exact hj),List.getElem?_map,List.getElem?_range hj]
  exact congrArg some e
 ·rw[List.getElem?_eq_none (by rw[ho.1];omega),List.getElem?_eq_none (by simp;omega)]
theorem ab_fwd(h:xP n es){out:List jB}(ho:AbI n es out){i:Nat}(hi:(i:Int)∈jK n es)(hl:i<es.length)(hz:uX out (es.getD i e0).fr.toNat≠zQ) :
  cU (jX (uX out (es.getD i e0).fr.toNat) (qV (uK (es.getD i e0).turn)))/\yR (jX (uX out (es.getD i e0).fr.toNat) (qV (uK (es.getD i e0).turn))) (aV n es (es.getD i e0).to_.toNat):=by
 have hx:=eL h hl
 have hf:(es.getD i e0).fr.toNat<n:=by have:=hx.f0;have:=hx.f1;omega
 obtain ⟨g1,g2⟩:=ho.at h hf hz
 have e:=qV_eq (yN hx.q.1) (cI hx.q)
 refine ⟨xU g1.1 (e.symm.nz (yN hx.q.1)),?_⟩
 refine yR.trans ?_ (aV_back h hi hl)
 rw[g2]
 exact (eX (aV_nz h _)).mul e
theorem ab_bwd(h:xP n es){out:List jB}(ho:AbI n es out){i:Nat}(hi:(i:Int)∈jK n es)(hl:i<es.length)(hz:uX out (es.getD i e0).to_.toNat≠zQ) :
  cU (jX (uX out (es.getD i e0).to_.toNat) (es.getD i e0).turn)/\yR (jX (uX out (es.getD i e0).to_.toNat) (es.getD i e0).turn) (aV n es (es.getD i e0).fr.toNat):=by
 have hx:=eL h hl
 have hf:(es.getD i e0).to_.toNat<n:=by have:=hx.t0;have:=hx.t1;omega
 obtain ⟨g1,g2⟩:=ho.at h hf hz
 refine ⟨xU g1.1 hx.q.1,?_⟩
 refine yR.trans ?_ (aV_sat h hi).symm
 rw[g2]
 exact (eX (aV_nz h _)).mul (yR.refl _)
end
def AbR(n:Nat)(es:List jE)(out:List jB):Prop:=AbI n es out/\∀ j,j<n->(parL n es).getD j 0=j->uX out j≠zQ
def clE(es:List jE)(out:List jB)(i:Nat):Prop:=uX out (es.getD i e0).fr.toNat≠zQ↔uX out (es.getD i e0).to_.toNat≠zQ
def AbC(es:List jE)(tk:List Int)(out:List jB)(m:Nat):Prop:=∀ q,q<m->clE es out (tk.getD q 0).toNat
def AbW(n:Nat)(es:List jE)(tk:List Int)(o0 out:List jB)(ag:Bool)(m:Nat):Prop:=AbR n es out/\(ag=true->zq out<zq o0)/\(ag=false->out=o0/\AbC es tk out m)
section
variable {n:Nat} {es:List jE} {tk:List Int} {o0 out:List jB} {ag:Bool} {m:Nat}
theorem AbW.skip(h:AbW n es tk o0 out ag m)(hc:clE es out (tk.getD m 0).toNat):AbW n es tk o0 out ag (m+1):=by
 refine ⟨h.1,h.2.1,fun e=>⟨(h.2.2 e).1,fun q hq=>?_⟩⟩
 by_cases hqm:q=m
 ·subst hqm;exact hc
 ·exact (h.2.2 e).2 q (by omega)
theorem AbW.zq_le(h:AbW n es tk o0 out ag m):zq out<=zq o0:=by
 cases hag:ag with
 |true=>exact Nat.le_of_lt (h.2.1 hag)
 |false=>rw[(h.2.2 hag).1];exact Nat.le_refl _
theorem AbW.put(h:AbW n es tk o0 out ag m){j m':Nat}{v:jB}(hj:j<n)(hz:uX out j=zQ)(hv:v≠zQ)(h1:cS (yE (aV n es j)))(h2:v=yE (aV n es j)):AbW n es tk o0 (out.set j v) true m':=by
 have hl:j<out.length:=by rw[h.1.1.1];exact hj
 refine ⟨⟨h.1.1.set hj h1 h2,fun i hi hr=>?_⟩,fun _=>Nat.lt_of_lt_of_le (zq_set hl hz hv) h.zq_le,fun e=>by cases e⟩
 rw[aE hl]
 split
 ·exact hv
 ·exact h.1.2 i hi hr
theorem tre_at{k:Nat}(hk:k<(jK n es).length):∃ i:Nat,i<es.length/\(jK n es).getD k 0=i/\(i:Int)∈jK n es:=by
 have hm:(jK n es).getD k 0∈jK n es:=by
  rw[List.getD_eq_getElem?_getD,List.getElem?_eq_getElem hk];exact List.getElem_mem hk
 obtain ⟨i,h1,h2⟩:=cL hm
 exact ⟨i,h1,h2,h2▸hm⟩
end
theorem q1_nz:q1≠zQ:=by decide
theorem can_nzq{n:Nat}{es:List jE}(h:xP n es)(j:Nat):yE (aV n es j)≠zQ:=q_nz (qcan_nz (aV_nz h j))
def okL{α:Type}(c:Nat)(l:List α):List α:=if c=0 then l else []
def okC(c d:Nat):Nat:=if c=0 then d else c
theorem okL_0{α:Type}{c:Nat}{l:List α}(h:c=0):okL c l=l:=if_pos h
theorem okL_n{α:Type}{c:Nat}{l:List α}(h:c≠0):okL c l=[]:=if_neg h
theorem okC_0{c d:Nat}(h:c=0):okC c d=d:=if_pos h
theorem okC_n{c d:Nat}(h:c≠0):okC c d=c:=if_neg h
def fIx{α:Type}(f:α->Bool):List α->Nat->Int
 |[],_=>-1
 |x::r,i=>bif f x then ((i:Nat):Int) else fIx f r (i+1)
theorem fIx_step{α:Type}(d:α)(f:α->Bool)(l:List α)(k:Nat)(h:k<l.length)(hf:f (l.getD k d)=false):fIx f (l.drop k) k=fIx f (l.drop (k+1)) (k+1):=by
 rw[List.drop_eq_getElem_cons h,fIx,show f l[k]=false by rw[<- hf,List.getD_eq_getElem?_getD,List.getElem?_eq_getElem h];rfl];rfl
theorem fIx_at{α:Type}(d:α)(f:α->Bool)(l:List α)(k:Nat)(h:k<l.length)(hf:f (l.getD k d)=true):fIx f (l.drop k) k=((k:Nat):Int):=by
 rw[List.drop_eq_getElem_cons h,fIx,show f l[k]=true by rw[<- hf,List.getD_eq_getElem?_getD,List.getElem?_eq_getElem h];rfl];rfl
theorem fIx_end{α:Type}(f:α->Bool)(l:List α)(k:Nat)(h:l.length<=k):fIx f (l.drop k) k=-1:=by rw[List.drop_eq_nil_of_le h];rfl
theorem fIx_any{α:Type}(f:α->Bool):∀ (l:List α) (i:Nat),decide (0<=fIx f l i)=l.any f
 |[],i=>by simp [fIx]
 |x::r,i=>by
  rw[fIx,List.any_cons]
  cases hx:f x with
  |true=>simp
  |false=>simp only[cond_false,Bool.false_or];exact fIx_any f r (i+1)
def ebt(ts:List jB)(x:jE):jB:=jX (qV (uK (uX ts x.to_.toNat))) (uX ts x.fr.toNat)
def erX(ts:List jB)(x:jE):Rat:=chQ x.turn (qV (ebt ts x))
def erOk(es:List jE)(ts:List jB):Prop:=∀ x∈es,qC (ebt ts x)=0
instance (es:List jE) (ts:List jB):Decidable (erOk es ts):=List.decidableBAll _ _
def erL(es:List jE)(ts:List jB):List Rat:=if erOk es ts then es.map (erX ts) else []
def erC(es:List jE)(ts:List jB):Nat:=if erOk es ts then 0 else 3
def erUp(es:List jE)(ts:List jB)(k:Nat):Prop:=∀ i,i<k->qC (ebt ts (es.getD i e0))=0
def TsOk(n:Nat)(ts:List jB):Prop:=ts.length=n/\∀ q∈ts,mK q
section
variable {n:Nat} {es:List jE} {ts:List jB}
theorem TsOk.at(h:TsOk n ts){j:Nat}(hj:j<n):mK (uX ts j):=by
 unfold uX
 rw[List.getD_eq_getElem?_getD,List.getElem?_eq_getElem (by rw[h.1];exact hj)]
 exact h.2 _ (List.getElem_mem _)
theorem ebt_nz(ht:TsOk n ts)(he:xP n es){k:Nat}(hk:k<es.length):cU (ebt ts (es.getD k e0)):=by
 have hx:=eL he hk
 have x0:=hx.f0;have x1:=hx.f1;have x2:=hx.t0;have x3:=hx.t1
 have h1:=ht.at (j:=(es.getD k e0).to_.toNat) (by omega)
 have h2:=ht.at (j:=(es.getD k e0).fr.toNat) (by omega)
 exact xU (cM (yN h1.1) (cI h1)).1 h2.1
theorem erUp_0(es:List jE)(ts:List jB):erUp es ts 0:=fun i hi=>by omega
theorem erUp_s{k:Nat}(h:erUp es ts k)(h1:qC (ebt ts (es.getD k e0))=0):erUp es ts (k+1):=fun i hi=>by
 by_cases e:i=k
 ·subst e;exact h1
 ·exact h i (by omega)
theorem mem_getD{k:Nat}(hk:k<es.length):es.getD k e0∈es:=by
 rw[List.getD_eq_getElem?_getD,List.getElem?_eq_getElem hk];exact List.getElem_mem _
theorem er_no{k:Nat}(hk:k<es.length)(h:qC (ebt ts (es.getD k e0))≠0):erL es ts=[]/\erC es ts=3/\qC (ebt ts (es.getD k e0))=3:=by
 have hn:¬ erOk es ts:=fun e=>h (e _ (mem_getD hk))
 exact ⟨if_neg hn,if_neg hn,(qC_01 _).resolve_left h⟩
theorem er_yes{k:Nat}(hk:k=es.length)(h:erUp es ts k):erL es ts=(es.take k).map (erX ts)/\erC es ts=0/\erOk es ts:=by
 have hn:erOk es ts:=fun x hx=>by
  obtain ⟨i,hi,rfl⟩:=List.getElem_of_mem hx
  have:=h i (by omega)
  rwa [List.getD_eq_getElem?_getD,List.getElem?_eq_getElem hi] at this
 subst hk
 exact ⟨by rw[List.take_length];exact if_pos hn,if_pos hn,hn⟩
theorem er_push{o:List vO}{k:Nat}(hk:k<es.length)(h:o=List.map gQ (List.map (erX ts) (es.take k))):o++[gQ (erX ts (es.getD k e0))]=List.map gQ (List.map (erX ts) (es.take (k+1))):=by
 rw[h,List.take_add_one,List.getElem?_eq_getElem hk,List.map_append,List.map_append,List.getD_eq_getElem?_getD,List.getElem?_eq_getElem hk];rfl
end
def rqC(q:jB):Nat:=yD q.a q.b q.c q.d
def rtC:List jB->Nat
 |[]=>0
 |q::l=>if rqC q=0 then rtC l else rqC q
def rtUp(ts:List jB)(k:Nat):Prop:=∀ i,i<k->rqC (uX ts i)=0
theorem rtUp_0(ts:List jB):rtUp ts 0:=fun i hi=>by omega
theorem rtUp_s{ts:List jB}{k:Nat}(h:rtUp ts k)(h1:rqC (uX ts k)=0):rtUp ts (k+1):=fun i hi=>by
 by_cases e:i=k
 ·subst e;exact h1
 ·exact h i (by omega)
theorem rt_at:∀ {ts:List jB} {k:Nat},k<ts.length->rtUp ts k->rqC (uX ts k)≠0->rtC ts=rqC (uX ts k)
 |[],_,h,_,_=>by simp at h
 |q::l,0,_,_,h=>if_neg h
 |q::l,k+1,hk,hu,h=>by
  have h0:rqC q=0:=hu 0 (by omega)
  show (if rqC q=0 then rtC l else rqC q)=_
  rw[if_pos h0]
  exact rt_at (ts:=l) (k:=k) (by simpa using hk) (fun i hi=>by simpa [uX] using hu (i+1) (by omega)) (by simpa [uX] using h)
theorem rt_end:∀ {ts:List jB},(∀ i,i<ts.length->rqC (uX ts i)=0)->rtC ts=0
 |[],_=>rfl
 |q::l,h=>by
  show (if rqC q=0 then rtC l else rqC q)=0
  rw[if_pos (show rqC q=0 from h 0 (by simp))]
  exact rt_end (fun i hi=>by simpa [uX] using h (i+1) (by simpa using hi))
theorem rtC_0:∀ {ts:List jB},rtC ts=0↔∀ q∈ts,mK q
 |[]=>by simp [rtC]
 |q::l=>by
  have ih:=rtC_0 (ts:=l)
  show (if rqC q=0 then rtC l else rqC q)=0↔_
  by_cases h:rqC q=0
  ·rw[if_pos h,ih,List.forall_mem_cons]
   exact ⟨fun e=>⟨gF.2 h,e⟩,fun e=>e.2⟩
  ·rw[if_neg h,List.forall_mem_cons]
   exact ⟨fun e=>absurd e h,fun e=>absurd (gF.1 e.1) h⟩
def ersC(z:Int)(es:List jE)(ts:List jB):Nat:=okC (zP z es) (if ((ts.length:Nat):Int)=z then okC (rtC ts) (erC es ts) else 4)
def ersV(z:Int)(es:List jE)(ts:List jB):List Rat:=okL (ersC z es ts) (erL es ts)
def alS(es:List jE)(ts:List jB):Bool:=es.all fun x=>sameQ (qV (ebt ts x)) x.turn
def cnC(n:Nat)(es:List jE):Nat:=okC (mH n es) (erC es (vK n es))
def cnV(n:Nat)(es:List jE):Bool:=if cnC n es=0 then alS es (vK n es) else false
def fV(z:Int)(es:List jE):Nat:=okC (zP z es) (cnC z.toNat es)
def conV(z:Int)(es:List jE):Bool:=if zP z es=0 then cnV z.toNat es else false
theorem cn_1{n:Nat}{es:List jE}(h:mH n es≠0):cnC n es=mH n es/\cnV n es=false:=by
 have e:cnC n es=mH n es:=okC_n h
 exact ⟨e,if_neg (by rw[e];exact h)⟩
theorem cn_2{n:Nat}{es:List jE}(h:mH n es=0)(h2:erC es (vK n es)≠0):cnC n es=erC es (vK n es)/\cnV n es=false:=by
 have e:cnC n es=erC es (vK n es):=okC_0 h
 exact ⟨e,if_neg (by rw[e];exact h2)⟩
theorem cn_3{n:Nat}{es:List jE}(h:mH n es=0)(h2:erC es (vK n es)=0):cnC n es=0/\cnV n es=alS es (vK n es):=by
 have e:cnC n es=0:=(okC_0 h).trans h2
 exact ⟨e,if_pos e⟩
theorem con_n{z:Int}{es:List jE}(h:zP z es≠0):fV z es=zP z es/\conV z es=false:=⟨okC_n h,if_neg h⟩
theorem con_0{z:Int}{es:List jE}(h:zP z es=0):fV z es=cnC z.toNat es/\conV z es=cnV z.toNat es:=⟨okC_0 h,if_pos h⟩
theorem abs_ok{n:Nat}{es:List jE}(h:xP n es)(hc:mH n es=0):TsOk n (vK n es):=by
 have hf:aFit n es:=by
  unfold mH at hc
  split at hc
  ·assumption
  ·cases hc
 have he:vK n es=(List.range n).map fun j=>yE (aV n es j):=if_pos hf
 rw[he]
 refine ⟨by simp,fun q hq=>?_⟩
 obtain ⟨j,hj,rfl⟩:=List.mem_map.1 hq
 exact ⟨qcan_nz (aV_nz h j),hf j (List.mem_range.1 hj)⟩
theorem abs_n{n:Nat}{es:List jE}(hc:mH n es≠0):vK n es=[]/\mH n es=3:=by
 have hf:¬ aFit n es:=fun hf=>hc (if_pos hf)
 exact ⟨if_neg hf,if_neg hf⟩
theorem alS_take{es:List jE}{ts:List jB}{k:Nat}(hk:k<es.length):alS (es.take (k+1)) ts=(alS (es.take k) ts&&sameQ (qV (ebt ts (es.getD k e0))) (es.getD k e0).turn):=by
 unfold alS
 rw[List.take_add_one,List.getElem?_eq_getElem hk,List.getD_eq_getElem?_getD,List.getElem?_eq_getElem hk,List.all_append];simp
def wt(es:List jE)(t:T3):List Int:=[((t.1:Nat):Int),(wkP es t.1 t.2.1 t.2.2).1,(wkP es t.1 t.2.1 t.2.2).2]
abbrev z3:T3:=(0,0,0)
def seOk(es:List jE):Prop:=∀ t∈tris es,aroC es (wt es t)=0
instance (es:List jE):Decidable (seOk es):=List.decidableBAll _ _
section
variable {P:Program} {S:SL} {B:BS} {o:Oper} {x y:Operand} {k:Nat} {T:TypeId}
theorem aF{α:Type}{F:α->jW}{s:Nat}(hF:∀ g,(F g).cells.length=s)(L:List α):(flat (L.map F)).length=L.length*s:=by
 rw[uN (s:=s) (fun e he=>by obtain ⟨g,_,rfl⟩:=List.mem_map.1 he;exact hF g),List.length_map]
theorem bxs_cell{α:Type}{F:α->jW}{s:Nat}(hF:∀ g,(F g).cells.length=s){L:List α}{j r:Nat}(d:α)(hj:j<L.length)(hr:r<s):(flat (L.map F))[j*s+r]?=(F (L.getD j d)).cells[r]? :=
 flat_get (s:=s) (e:=F (L.getD j d)) (fun e he=>by obtain ⟨g,_,rfl⟩:=List.mem_map.1 he;exact hF g) (by simp [List.getD_eq_getElem?_getD,List.getElem?_eq_getElem hj]) hr
theorem bxs_room{j n s:Nat}(h:j<n):j*s+s<=n*s:=by
 have:=Nat.mul_le_mul_right s (show j+1<=n from h)
 rwa [Nat.add_mul,Nat.one_mul] at this
theorem bxs_cut{α:Type}{F:α->jW}{s:Nat}(hF:∀ g,(F g).cells.length=s){L:List α}{j:Nat}(d:α)(hj:j<L.length):((xQ F L).drop (j*s)).take s=(F (L.getD j d)).cells.map SV.d:=by
 apply List.ext_getElem?
 intro r
 unfold xQ
 rw[List.getElem?_take]
 split
 ·rename_i hr
  rw[List.getElem?_drop,List.getElem?_map,bxs_cell hF d hj hr,List.getElem?_map]
 ·rename_i hr
  rw[List.getElem?_eq_none (by rw[List.length_map,hF];omega)]
theorem oLA{α:Type}{F:α->jW}{L:List α}{s:Nat}(hs:kQ P T=some (true,s))(j:Nat)(d:α)(ho:o.op=.load T x:=by exact rfl)(hx:ev (jR S) x=.ref k (j*s):=by exact rfl)(hb:jV B k=some (xQ F L):=by exact rfl)(hF:∀ g,(F g).cells.length=s:=by intro g;kernel_rfl)(hG:∀ g,xJ true ((F g).cells.map SV.d)=.d (F g):=by intro g;kernel_rfl)(h1:j<L.length:=by omega):ROk P o S B k (.d (F (L.getD j d))):=by
 have h:=e_load_ref (P:=P) (cs:=xQ F L) ho hx hs (fun h=>by cases h) (by unfold xQ;rw[List.length_map,aF hF];exact bxs_room h1) (hO _)
 rw[bxs_cut hF d h1,hG] at h
 exact ⟨_,h,hb⟩
theorem bxs_set{α:Type}{F:α->jW}{s:Nat}(hF:∀ g,(F g).cells.length=s){L:List α}{j:Nat}(v:α)(hj:j<L.length):patch (xQ F L) (j*s) ((F v).cells.map SV.d)=xQ F (L.set j v):=by
 have hl:=aF hF L
 have hl2:=aF hF (L.set j v)
 rw[List.length_set] at hl2
 have hrm:=bxs_room (s:=s) hj
 apply List.ext_getElem?
 intro i
 have hb1:(xQ F L).length=L.length*s:=by unfold xQ;rw[List.length_map,hl]
 have hb2:(xQ F (L.set j v)).length=L.length*s:=by unfold xQ;rw[List.length_map,hl2]
 rw[yK (by rw[List.length_map,hF,hb1];exact hrm)]
 by_cases hi:i<L.length*s
 ·have hs0:0<s:=by
   rcases Nat.eq_zero_or_pos s with h | h
   ·subst h;simp at hi
   ·exact h
  have hq:i / s<L.length:=Nat.div_lt_of_lt_mul (by rw[Nat.mul_comm];exact hi)
  have hr:i % s<s:=Nat.mod_lt _ hs0
  have he:i=(i / s)*s+i % s:=by rw[Nat.mul_comm];exact (Nat.div_add_mod i s).symm
  have e1:(xQ F (L.set j v))[i]?=((F ((L.set j v).getD (i / s) v)).cells[i % s]?).map SV.d:=by
   unfold xQ;rw[List.getElem?_map];conv=>lhs;rw[he]
   rw[bxs_cell hF v (by rw[List.length_set];exact hq) hr]
  have e2:(xQ F L)[i]?=((F (L.getD (i / s) v)).cells[i % s]?).map SV.d:=by
   unfold xQ;rw[List.getElem?_map];conv=>lhs;rw[he]
   rw[bxs_cell hF v hq hr]
  rw[e1,e2,List.length_map,hF]
  by_cases hc:i / s=j
  ·have h3:j*s<=i/\i<j*s+s:=by subst hc;omega
   rw[if_neg (by omega),if_pos h3.2]
   have h4:(L.set j v).getD (i / s) v=v:=by rw[hc,List.getD_eq_getElem?_getD,List.getElem?_set_self hj];rfl
   rw[h4,List.getElem?_map,show i-j*s=i % s by subst hc;omega]
  ·have h3:¬ (j*s<=i/\i<j*s+s):=fun h=>hc (by
    have a1:j<=i / s:=(Nat.le_div_iff_mul_le hs0).2 h.1
    have a2:i / s<j+1:=Nat.div_lt_of_lt_mul (by rw[Nat.mul_comm,Nat.add_mul,Nat.one_mul];exact h.2)
    omega)
   have h4:(L.set j v).getD (i / s) v=L.getD (i / s) v:=by rw[List.getD_eq_getElem?_getD,List.getElem?_set_ne (fun e=>hc e.symm),<- List.getD_eq_getElem?_getD]
   rw[h4]
   split
   ·rfl
   ·rw[if_neg (fun h=>h3 ⟨by omega,h⟩)]
 ·have n1:(xQ F (L.set j v))[i]?=none:=List.getElem?_eq_none (by rw[hb2];omega)
  have n2:(xQ F L)[i]?=none:=List.getElem?_eq_none (by rw[hb1];omega)
  rw[n1,n2,List.length_map,hF,if_neg (by omega),if_neg (by omega)]
theorem oSA{α:Type}{F:α->jW}{L:List α}{s:Nat}(hs:kQ P T=some (true,s))(j:Nat)(v:α)(ho:o.op=.store T x y:=by exact rfl)(hx:ev (jR S) x=.ref k (j*s):=by exact rfl)(hb:jV B k=some (xQ F L):=by exact rfl)(hy:ev (jR S) y=.d (F v):=by kernel_rfl)(h2:(F v).ok1=true:=by kernel_rfl)(hF:∀ g,(F g).cells.length=s:=by intro g;kernel_rfl)(h1:j<L.length:=by omega):TK P o S B k (xQ F (L.set j v)):=by
 have h:=t_store (P:=P) (old:=xQ F L) ho hx hy hs (.inl ⟨F v,rfl,h2,rfl⟩) (by rw[List.length_map,hF]) (by unfold xQ;rw[List.length_map,aF hF];exact bxs_room h1) (hO _)
 rw[bxs_set hF v h1] at h
 exact ⟨_,h,hb⟩
theorem flat_repl{α:Type}(F:α->jW)(z:α){zd:List jW}(h:zd=(F z).cells):∀ M,(List.replicate M zd).flatten.map SV.d=xQ F (List.replicate M z)
 |0=>rfl
 |M+1=>by
  have ih:=flat_repl F z h M
  unfold xQ at ih ⊢
  rw[List.replicate_succ,List.flatten_cons,List.map_append,ih,List.replicate_succ,List.map_cons,mL,List.map_append,h]
theorem oMkS{S:Nat->SV}{α:Type}{E:TypeId}{s bytes:Nat}{kl kc:IntKind}{m n:Int}{zv:List Value}{zd:List jW}(b:Nat)(F:α->jW)(z:α)(N M:Nat)(hT:uJ P T=some (E,s))(hz:uO P E=some zv)(hzd:nH zv zd)(hby:xD P E=some bytes)(ho:o.op=.makeSlice T x y:=by exact rfl)
  (hl:ev S x=.d (.val (.int kl m)):=by exact rfl) (hc:ev S y=.d (.val (.int kc n)):=by exact rfl) (hlN:m=((N:Nat):Int):=by omega) (hcM:n=((M:Nat):Int):=by omega) (hzl:Nat.beq zd.length s=true:=by kernel_rfl) (hnm:N<=M:=by omega) (hb:bytes*M<=281474976710656:=by omega) (hm:M<=maxLen:=by unfold maxLen;omega) (hzF:zd=(F z).cells:=by kernel_rfl) :
  NOk P o S b (xQ F (List.replicate M z)) (.own b E s N):=by
 subst hlN;subst hcM
 exact n_mks b ho hT hz hzd (Nat.eq_of_beq_eq_true hzl) hby hl hc hnm hb hm (flat_repl F z hzF M)
end
section
variable {P:Program} {o:Oper}
theorem t_stc{S:Nat->SV}{T:TypeId}{x y:Operand}{k:Nat}{u z:SV}(ho:o.op=.store T x y)(hx:ev S x=.ref k 0)(hy:ev S y=z)(h1:z.ptr=true)(hs:kQ P T=some (false,1))(hm:yL [u]=false):TOk P o S k [u] [z] :=
 fun a w D β Q hop hb hD=>by
  have hp:=hop x (by simp [ho,Op.operands])
  have hq:=hop y (by simp [ho,Op.operands])
  rw[hx] at hp
  rw[hy] at hq
  obtain ⟨b,hb1,hv⟩:=hp
  have bI:(a.eval y).oneCell'=true/\(a.eval y).cells=#[a.eval y]:=by
   cases z with
   |ref j o'=>obtain ⟨b,_,h2⟩:=hq;rw[h2];exact ⟨rfl,rfl⟩
   |clo f ks=>obtain ⟨vs,h2,_⟩:=hq;rw[h2];exact ⟨rfl,rfl⟩
   |d x=>cases h1
   |own=>cases h1
   |emp=>cases h1
   |view=>cases h1
   |mp=>cases h1
   |mo=>cases h1
   |pr=>cases h1
   |refx=>cases h1
   |mpx=>cases h1
   |bnd=>cases h1
   |ownx=>cases h1
   |junk=>cases h1
  rcases hb with hb | ⟨b',vs,T',hb2,h2,h3,h4,h5⟩
  ·have hb2:=(hb.cells hm).1;rw[hb1] at hb2;cases hb2
  ·obtain rfl:b'=b:=by rw[hb1] at hb2;injection hb2 with h;exact h.symm
   obtain ⟨d,i,s1,s2,s3,s4⟩:=shape_of hs
   simp only[List.length_singleton] at h3
   have hst:=run_storeCells_at P b' 0 T' [a.eval y] 0 vs w h2 (by simp;omega) (by intro v hv;rcases List.mem_singleton.1 hv with rfl;exact bI.1)
   have hrun:(execOp a.eval o).run P w=.ok .skip (w.setRow b' (patch vs.toList 0 [a.eval y]).toArray):=by
    have hsz:(#[a.eval y]:Array Value).size=i.size:=by simp;omega
    simp only[execOp,ho,hv,Instr.storeAt,Instr.sureAddr,storeVar,bI.2,Sem.run_bind,Sem.run_pure,Result.andThen_ok,uA s2,ne_eq,hsz,not_true_eq_false,if_false]
    simp [patch] at hst ⊢
    rw[hst];rfl
   have hw:=aK w b' (patch vs.toList 0 [a.eval y]).toArray (fun vs' T f h=>by
    rw[h2] at h
    injection h with h
    injection h with h
    subst h
    have:=zU (l:=vs.toList) (off:=0) (new:=[a.eval y]) (by simp;omega)
    simpa using this)
   refine wp_skip_ hrun ⟨rfl,b',hb1,hw,h5,?_⟩
   refine .inr ⟨b',_,T',hb1,setRow_heap w b' vs _ T' _ h2,?_,fun j x hx=>?_,h5⟩
   ·have p1:=zU (l:=vs.toList) (off:=0) (new:=[a.eval y]) (by simp;omega)
    simp only[List.size_toArray,List.length_singleton]
    simp only[Array.length_toList] at p1
    omega
   ·cases j with
    |zero=>
     simp only[List.getElem?_cons_zero,Option.some.injEq] at hx
     subst hx
     exact ⟨a.eval y,by simp [patch],bI.1,hw.repS h5 hq⟩
    |succ j=>simp at hx
theorem oSc{S:SL}{B:BS}{T:TypeId}{x y:Operand}{k:Nat}{u z:SV}(hs:kQ P T=some (false,1))(ho:o.op=.store T x y:=by exact rfl)(hx:ev (jR S) x=.ref k 0:=by exact rfl)(hy:ev (jR S) y=z:=by exact rfl)(h1:z.ptr=true:=by kernel_rfl)(hb:jV B k=some [u]:=by exact rfl)(hm:yL [u]=false:=by kernel_rfl):TK P o S B k [z]:=⟨_,t_stc ho hx hy h1 hs hm,hb⟩
end
section
variable {P:Program}
theorem run_as(k:IntKind){E:TypeId}{j:IntKind}(hE:P.underlying E=some (.int j))(d:Nat)(w:World)(ms ns:List Int):∀ (m i:Nat),ms.length=i+m->ns.length=i+m ->
  Sem.run P (forIn (List.range' i m) ((none,()):Option Bool × Unit) fun f _=>do
       let a <- part E (List.map (Value.int k) ms).toArray f
       let b <- part E (List.map (Value.int k) ns).toArray f
       let c <- Op.equalIn (d+1) E a b
       if c=false then pure (ForInStep.done (some false,())) else pure (ForInStep.yield (none,()))) w=.ok (if ms.drop i=ns.drop i then (none,()) else (some false,())) w
 |0,i,h1,h2=>by
  have e1:ms.drop i=[]:=List.drop_eq_nil_of_le (by omega)
  have e2:ns.drop i=[]:=List.drop_eq_nil_of_le (by omega)
  rw[e1,e2];simp
 |m+1,i,h1,h2=>by
  have b1:i<ms.length:=by omega
  have b2:i<ns.length:=by omega
  have ih:=run_as k hE d w ms ns m (i+1) (by omega) (by omega)
  have e1:=List.drop_eq_getElem_cons b1
  have e2:=List.drop_eq_getElem_cons b2
  simp only[List.range'_succ,List.forIn_cons,Sem.run_bind,gC hE (List.getElem?_eq_getElem b1),gC hE (List.getElem?_eq_getElem b2),Result.andThen_ok,run_eqInt hE]
  by_cases he:ms[i]=ns[i]
  ·have hx:(ms.drop i=ns.drop i)=(ms.drop (i+1)=ns.drop (i+1)):=by
    rw[e1,e2,he]
    exact propext ⟨fun h=>(List.cons.inj h).2,fun h=>by rw[h]⟩
   simp only[he,beq_self_eq_true,Bool.true_eq_false,if_false,Sem.run_pure,Result.andThen_ok]
   rw[ih]
   simp only[hx]
  ·have hx:¬ ms.drop i=ns.drop i:=by
    rw[e1,e2]
    exact fun h=>he (List.cons.inj h).1
   have hb:(ms[i] == ns[i])=false:=by simp [he]
   simp only[hb,if_true,Sem.run_pure,Result.andThen_ok,if_neg hx]
section
variable {o:Oper} {S:Nat->SV} {T T':TypeId} {x y:Operand} {c:Nat}
end
end
open Go.RowKit (Below)
def aggOf(s:Nat)(u:Nat->Value):Value:=.agg ((List.range s).map u).toArray
structure BacksS (P:Program) (fB fI:FuncId) (T:TypeId) (s:Nat):Prop where
 call:∀ (a:Option Addr) (len cap:Nat) (w:World),Calls P fB #[.slice a len cap] w fun e w'=>e=.returned (.func (.func fI) #[] #[.pointer (some ⟨w.heap.size,0,none⟩)])/\w'=w.alloc (.cells #[.slice a len cap] T)
 empty:∀ (N l b cap:Nat) (ao:Option Addr) (J:World->Prop) (W:World),W.cell? ⟨b,0,none⟩=some (.slice ao 0 cap)->J W ->
  CallsIn Fence.wide (N+1) P fI #[.func (.yield l) #[] #[],.pointer (some ⟨b,0,none⟩)] W fun e W'=>(∃ v,e=.returned v)/\J W'
 rounds:∀ (N l c b off len cap:Nat) (u:Nat->Nat->Value),(len:Int)<=9223372036854775807->∀ (J:Nat->World->Prop) (Jx:World->Prop),
  (∀ j W,J j W->W.cell? ⟨c,0,none⟩=some (.slice (some ⟨b,off,none⟩) len cap)/\∀ i,i<len->∀ r,r<s->W.cell? ⟨b,off+(i*s+r),none⟩=some (u i r)) ->
  (∀ j W,J j W->j<len->YieldAt Fence.wide N P l #[.int .i64 ((len:Int)-1-(j:Int)),aggOf s (u (len-1-j))] W fun e W'=>(e=.returned (.bool true)/\J (j+1) W')\/(e=.returned (.bool false)/\Jx W')) ->
  ∀ W,J 0 W->CallsIn Fence.wide (N+1) P fI #[.func (.yield l) #[] #[],.pointer (some ⟨c,0,none⟩)] W fun e W'=>(∃ v,e=.returned v)/\(J len W'\/Jx W')
 enters:∀ args w,(callFunc fI args).run P w=.ok (.enter fI args) w
section
variable {C:Ctx} {a a':Act} {w w':World} {st:PS} {D:kN} {β:kT}
variable {P:Program} {n:Fr} {fB fI:FuncId} {T:TypeId} {S:SL} {B:BS} {Q:Exit->PS->Prop} {α:Type}
end
section
variable {P:Program} {o:Oper} {S:Nat->SV} {x:Operand} {k T s n:Nat} {d:jW}
end
section
variable {P:Program} {o:Oper} {S:Nat->SV}
end
end Go.Fid
