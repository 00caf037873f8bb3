/- Part 25 of a proof: rules, plain facts, and functions walked. -/
import Derived.Test.YteimogfidbkpnabGreatM24
import Derived.Test.YteimogfidbkpnabGreatM18
set_option linter.all false
set_option maxRecDepth 4000
namespace Go.Proofs.YteimogfidbkpnabGreat
open Go.Fid
theorem cb14:callB Tryz.prog 14=true:=by kernel_rfl
theorem l_arn(n:Int)(es:List jC)(ws:List Int)(hb:es.length≤1000000)(hbw:ws.length≤1000000):kB Tryz.prog 14 [(.val (.int .i64 (n))),(.sl 36 6 (List.map jP es)),(.sl 3 1 (List.map jO ws))] (.tup [(jF (arnV n es ws)),(.val (.int .i64 ((((arnC n es ws):Nat):Int))))]):=by
 refine jK Tryz.func14 rfl cb14 rfl ?_
 show qU _ _ _ _ ⟨[(0,(vi n)),(1,(vl 36 6 jP es)),(2,(vl 3 1 jO ws))],[]⟩
 refine jA<|kx [(6,(.ref 0 0))] [(0,some (bx (jF (jB.mk 0 0 0 0))))] (zN (uQ 0 vK vL)<|zM<|zZ) ?_
 refine jA<|jA<|kx [(8,(jT (uP n es)))] [] (zM<|zM<|zE (kE (l_check n es hb))<|zM<|zZ) ?_
 refine jA<|kx [(25,(vb ((((uP n es):Nat):Int) != 0)))] [] (zM<|zE fO<|zZ) ?_
 refine jG (b:=((((uP n es):Nat):Int) != 0)) rfl (fun h1=>?_) (fun h1=>?_)
 ·replace h1:=bne_iff_ne.1 h1
  refine jA<|kx [(7,(jT (uP n es)))] [(0,some (bx (jF (jB.mk 0 0 0 0))))] (zE (eQ cB vK vL)<|zM<|zT (qA kL)<|zM<|zZ) ?_
  refine jI ⟨_,(kQ (cs:=(bx (jF (jB.mk 0 0 0 0)))) (d:=(jF (jB.mk 0 0 0 0))) rfl rfl kL rfl rfl (.tmp (d:=(.val (.int .i64 ((((uP n es):Nat):Int))))) rfl .nil)),?_⟩
  obtain ⟨q1,q2⟩:=arn_n (ws:=ws) (eJ h1)
  rw[q1,q2];rfl
 ·replace h1:=bne_eq_false_iff_eq.1 h1
  have hc0:uP n es=0:=by omega
  obtain ⟨_,_,hl2,heo⟩:=lopC_0 hc0
  have htk:=heo.tok
  refine jE<|jA<|jA<|kx [(30,(vb (decide (256<((ws.length:Nat):Int)))))] [] (zM<|zE (xD vF)<|zE cK<|zZ) ?_
  refine jG (b:=decide (256<((ws.length:Nat):Int))) rfl (fun h2=>?_) (fun h2=>?_)
  ·replace h2:=uW h2
   refine jA<|kx [(7,(jT 9))] [(0,some (bx (jF (jB.mk 0 0 0 0))))] (zE (eQ cB vK vL)<|zT (qA kL)<|zM<|zZ) ?_
   refine jI ⟨_,(kQ (cs:=(bx (jF (jB.mk 0 0 0 0)))) (d:=(jF (jB.mk 0 0 0 0))) rfl rfl kL rfl rfl (.tmp (d:=(.val (.int .i64 (9)))) rfl .nil)),?_⟩
   obtain ⟨q1,q2⟩:=arn_0 (ws:=ws) hc0
   obtain ⟨q3,q4⟩:=ard_9 (es:=es) (ws:=ws) (by omega)
   rw[q1,q2,q3,q4];rfl
  ·replace h2:=uY h2
   refine jE<|jA<|jA<|kx [(32,(vl 3 1 jO ws)),(33,(jT ws.length)),(34,(jT 0))] [] (zM<|zE (xD vF)<|zM<|zZ) ?_
   refine jH<|kI (α:=Nat) (fun m=>⟨[(1,(vl 36 6 jP es)),(2,(vl 3 1 jO ws)),(6,(.ref 0 0)),(32,(vl 3 1 jO ws)),(33,(jT ws.length)),(34,(jT m))],[(0,some (bx (jF (jB.mk 0 0 0 0))))]⟩) (fun m=>m≤ws.length∧inUp es ws m) (fun m=>ws.length-m) 0 wk ⟨Nat.zero_le _,fun i hi=>by omega⟩ ?_
   rintro m ⟨hm,hvinUp⟩
   refine jA<|kx [(35,(vb (decide (((m:Nat):Int)<((ws.length:Nat):Int)))))] [] (zE uM<|zZ) ?_
   refine jA<|jG rfl (fun h3=>?_) (fun h3=>?_)
   ·replace h3:=uW h3
    refine jE<|jA<|jH<|jA<|kx [(10,(vi (ws.getD m 0)))] [] (zE (gV vF m (0:Int))<|zE (nG qF)<|zM<|zZ) ?_
    refine jA<|kx [(48,(vb (decide (((es.length:Nat):Int)≤(ws.getD m 0))||decide ((ws.getD m 0) < -((es.length:Nat):Int)))))] [] ?_ ?_
    ·refine zM<|zM<|zE (xD mI)<|zE oGe<|zE (oV (vb (decide (((es.length:Nat):Int)≤(ws.getD m 0)))) (kZ (by kernel_rfl)))<|?_
     rcases hb4:(decide (((es.length:Nat):Int)≤(ws.getD m 0))) with _ | _
     ·replace hb4:=uY hb4
      exact zM<|zM<|zE (xD mI)<|zE (oNg (-((es.length:Nat):Int)) (hr:=by exact (qJ (by first | omega | rfl | (dsimp only;omega)) (by simp only[xL];omega) (by simp only[xM];omega))))<|zE uM<|zE cF<|zZ
     ·replace hb4:=uW hb4
      exact zK<|zK<|zK<|zK<|zK<|zE xC<|zZ
    refine jG rfl (fun h5=>?_) (fun h5=>?_)
    ·refine jA<|kx [(7,(jT 2))] [(0,some (bx (jF (jB.mk 0 0 0 0))))] (zE (eQ cB vK vL)<|zT (qA kL)<|zM<|zZ) ?_
     refine jI ⟨_,(kQ (cs:=(bx (jF (jB.mk 0 0 0 0)))) (d:=(jF (jB.mk 0 0 0 0))) rfl rfl kL rfl rfl (.tmp (d:=(.val (.int .i64 (2)))) rfl .nil)),?_⟩
     obtain ⟨q1,q2⟩:=arn_0 (ws:=ws) hc0
     obtain ⟨q3,q4⟩:=ard_2 (by omega) (inUp_no (k:=m) (by omega) (exB_t h5))
     rw[q1,q2,q3,q4];rfl
    ·refine jE<|kx [(34,(jT (m+1)))] [] (zE (qS (m+1))<|zM<|zZ) ?_
     exact ⟨(m+1),wk,⟨by omega,inUp_s hvinUp (exB_f h5)⟩,(by omega)⟩
   ·replace h3:=uY h3
    have hw:=inUp_end (by omega) hvinUp
    refine jW<|jA<|jA<|kx [(51,(vl 3 1 jO ws)),(52,(jT ws.length)),(53,(jT 0))] [] (zM<|zE (xD vF)<|zM<|zZ) ?_
    refine jH<|kI (α:=Nat) (fun m=>⟨[(1,(vl 36 6 jP es)),(2,(vl 3 1 jO ws)),(6,(.ref 0 0)),(51,(vl 3 1 jO ws)),(52,(jT ws.length)),(53,(jT m))],[(0,some (bx (jF (jB.mk 0 0 0 0))))]⟩) (fun m=>m≤ws.length∧cbUp es ws m) (fun m=>ws.length-m) 0 wk ⟨Nat.zero_le _,fun i hi=>by omega⟩ ?_
    rintro m ⟨hm,hvcbUp⟩
    refine jA<|kx [(54,(vb (decide (((m:Nat):Int)<((ws.length:Nat):Int)))))] [] (zE uM<|zZ) ?_
    refine jA<|jG rfl (fun h6=>?_) (fun h6=>?_)
    ·replace h6:=uW h6
     refine jE<|jA<|jH<|jA<|kx [(11,(jT m)),(12,(vi (ws.getD m 0)))] [] (zM<|zE (gV vF m (0:Int))<|zE (nG qF)<|zM<|zM<|zZ) ?_
     refine jA<|kx [(13,(vi (stF es (ws.getD m 0))))] [(1,none)] (zM<|zM<|zE (kE (l_step es (ws.getD m 0) hb htk (wIn_at hw (by omega))))<|zM<|zE qQ<|zE qQ<|zE qQ<|zE qQ<|zN (uQ 1 vK vL)<|zM<|zM<|zT (qA kL)<|zM<|zZ) ?_
     refine jA<|kx [(18,(vi (stT es (ws.getD ((m+ws.length-1) % ws.length) 0))))] [(2,none)] (zM<|zM<|zM<|zM<|zE (xD vF)<|zE (qS (m+ws.length))<|zE (oSb (m+ws.length-1))<|zM<|zE (xD vF)<|zE (oRe ((m+ws.length-1) % ws.length))<|zE (gV vF ((m+ws.length-1) % ws.length) (0:Int) (hj:=by first | omega | exact Nat.mod_lt _ (by omega)) (h1:=by first | omega | exact Nat.mod_lt _ (by omega)))<|zE (nG qF)<|zE (kE (l_step es (ws.getD ((m+ws.length-1) % ws.length) 0) hb htk (wIn_at hw (Nat.mod_lt _ (by omega)))))<|zM<|zE qQ<|zE qQ<|zE qQ<|zE qQ<|zN (uQ 2 vK vL)<|zM<|zM<|zT (qA kL)<|zM<|zZ) ?_
     refine jA<|kx [(86,(vb ((stF es (ws.getD m 0)) != (stT es (ws.getD ((m+ws.length-1) % ws.length) 0)))))] [] (zM<|zM<|zE fO<|zZ) ?_
     refine jG rfl (fun h7=>?_) (fun h7=>?_)
     ·replace h7:=bne_iff_ne.1 h7
      refine jA<|kx [(7,(jT 5))] [(0,some (bx (jF (jB.mk 0 0 0 0))))] (zE (eQ cB vK vL)<|zT (qA kL)<|zM<|zZ) ?_
      refine jI ⟨_,(kQ (cs:=(bx (jF (jB.mk 0 0 0 0)))) (d:=(jF (jB.mk 0 0 0 0))) rfl rfl kL rfl rfl (.tmp (d:=(.val (.int .i64 (5)))) rfl .nil)),?_⟩
      obtain ⟨q1,q2⟩:=arn_0 (ws:=ws) hc0
      obtain ⟨q3,q4⟩:=ard_5 (by omega) hw (cb_no (k:=m) (by omega) h7)
      rw[q1,q2,q3,q4];rfl
     ·replace h7:=bne_eq_false_iff_eq.1 h7
      refine jE<|kx [(53,(jT (m+1)))] [] (zE (qS (m+1))<|zM<|zZ) ?_
      exact ⟨(m+1),wk,⟨by omega,up_s hvcbUp h7⟩,(by omega)⟩
    ·replace h6:=uY h6
     refine jW<|jA<|kx [(7,(jT (mK es ws)))] [(0,some (bx (jF (mZ es ws))))] (zM<|zM<|zE (kE (l_aro es 3 ws hb hbw htk hw))<|zE qQ<|zE qQ<|zT (qA kL)<|zM<|zZ) ?_
     refine jI ⟨_,(kQ (cs:=(bx (jF (mZ es ws)))) (d:=(jF (mZ es ws))) rfl rfl kL rfl rfl (.tmp (d:=(.val (.int .i64 ((((mK es ws):Nat):Int))))) rfl .nil)),?_⟩
     obtain ⟨q1,q2⟩:=arn_0 (ws:=ws) hc0
     obtain ⟨q3,q4⟩:=ard_y (by omega) hw (clP_back.2 (fun i hi=>hvcbUp i (by omega)))
     rw[q1,q2,q3,q4];rfl
end Go.Proofs.YteimogfidbkpnabGreat
namespace Go.Fid
def jnB(p q a b:Int):Bool:=((p == a)&&(q == b))||((p == b)&&(q == a))
def hsB(p q a:Int):Bool:=(p == a)||(q == a)
def alI(p node k:Int):Int:=if p=node then k else -1-k
def pTr(a b p q r s:Int):Bool :=
 if jnB p q a b=true then false else if hsB p q b=true then jnB r s (a+b-b) (p+q-b) else if hsB p q a=true then jnB r s (a+b-a) (p+q-a) else false
def pWk(a b p q r s j k:Int):Int × Int :=
 if hsB p q b=true then (alI p b j,alI r (p+q-b) k) else (alI r b k,alI p (p+q-a) j)
def trB(es:List jC)(i j k:Nat):Bool:=pTr (es.getD i e0).fr (es.getD i e0).to_ (es.getD j e0).fr (es.getD j e0).to_ (es.getD k e0).fr (es.getD k e0).to_
def cG(es:List jC)(i j k:Nat):Int × Int:=pWk (es.getD i e0).fr (es.getD i e0).to_ (es.getD j e0).fr (es.getD j e0).to_ (es.getD k e0).fr (es.getD k e0).to_ ((j:Nat):Int) ((k:Nat):Int)
theorem bn_t{b:Bool}(h:(!b)=true):b=false:=by simpa using h
theorem bn_f{b:Bool}(h:(!b)=false):b=true:=by simpa using h
theorem t_push{α β:Type}{f:α→β}{L:List α}{out:List β}{x:α}{y:β}(h:out=List.map f L)(e:y=f x):out++[y]=List.map f (L++[x]):=by rw[h,e,List.map_append];rfl
abbrev T3:=Nat × Nat × Nat
def tIn(es:List jC)(i j K:Nat):List T3:=((List.range K).filter fun m=>decide (j<m)&&trB es i j m).map fun m=>(i,j,m)
def aA(es:List jC)(i J:Nat):List T3:=(List.range J).flatMap fun m=>if i<m then tIn es i m es.length else []
def tAll(es:List jC)(I:Nat):List T3:=(List.range I).flatMap fun m=>aA es m es.length
def jU(es:List jC):List T3:=tAll es es.length
theorem tIn_0(es:List jC)(i j:Nat):tIn es i j (j+1)=[]:=by
 unfold tIn
 rw[List.map_eq_nil_iff,List.filter_eq_nil_iff]
 intro m hm
 simp at hm ⊢;intro h;omega
theorem tIn_y{es:List jC}{i j K:Nat}(h:j<K)(hb:trB es i j K=true):tIn es i j (K+1)=tIn es i j K++[(i,j,K)]:=by
 unfold tIn
 rw[List.range_succ,List.filter_append,List.map_append]
 simp [h,hb]
theorem tIn_n{es:List jC}{i j K:Nat}(hb:trB es i j K=false):tIn es i j (K+1)=tIn es i j K:=by
 unfold tIn
 rw[List.range_succ,List.filter_append,List.map_append]
 simp [hb]
theorem tIn_nil{es:List jC}{i j K:Nat}(h:∀ m,trB es i j m=false):tIn es i j K=[]:=by
 unfold tIn
 rw[List.map_eq_nil_iff,List.filter_eq_nil_iff]
 intro m hm;simp [h m]
theorem tMid_0(es:List jC)(i:Nat):aA es i (i+1)=[]:=by
 unfold aA
 rw[List.flatMap_eq_nil_iff]
 intro m hm
 rw[if_neg];simp at hm;omega
theorem tMid_s{es:List jC}{i J:Nat}(h:i<J):aA es i (J+1)=aA es i J++tIn es i J es.length:=by
 unfold aA
 rw[List.range_succ,List.flatMap_append]
 simp [h]
theorem tAll_s(es:List jC)(I:Nat):tAll es (I+1)=tAll es I++aA es I es.length:=by
 unfold tAll
 rw[List.range_succ,List.flatMap_append];simp
theorem tIn_len(es:List jC)(i j K:Nat):(tIn es i j K).length≤K:=by
 unfold tIn
 rw[List.length_map]
 exact Nat.le_trans (List.length_filter_le _ _) (by simp)
theorem tMid_len(es:List jC)(i:Nat):∀ J,(aA es i J).length≤J*es.length
 |0=>by simp [aA]
 |J+1=>by
  have ih:=tMid_len es i J
  have h1:=tIn_len es i J es.length
  unfold aA at ih ⊢
  rw[List.range_succ,List.flatMap_append,List.length_append,Nat.add_mul]
  have:(if i<J then tIn es i J es.length else []).length≤es.length:=by
   by_cases h:i<J
   ·simp only[h,if_true];exact h1
   ·simp only[h,if_false];simp
  simp only[List.flatMap_cons,List.flatMap_nil,List.append_nil]
  omega
theorem tAll_len(es:List jC):∀ I,(tAll es I).length≤I*(es.length*es.length)
 |0=>by simp [tAll]
 |I+1=>by
  have ih:=tAll_len es I
  have h1:=tMid_len es I es.length
  rw[tAll_s,List.length_append,Nat.add_mul];omega
theorem t_room{es:List jC}{i j k:Nat}(h:es.length≤256)(hi:i≤es.length)(hj:j≤es.length)(hk:k≤es.length):(tAll es i++aA es i j++tIn es i j k).length≤20000000:=by
 have h1:=tAll_len es i
 have h2:=tMid_len es i j
 have h3:=tIn_len es i j k
 have a1:es.length*es.length≤256*256:=Nat.mul_le_mul h h
 have a2:i*(es.length*es.length)≤256*(256*256):=Nat.mul_le_mul (by omega) a1
 have a3:j*es.length≤256*256:=Nat.mul_le_mul (by omega) h
 simp only[List.length_append]
 omega
theorem trA{es:List jC}{i j k:Nat}(h1:jnB (es.getD j e0).fr (es.getD j e0).to_ (es.getD i e0).fr (es.getD i e0).to_=false)(h2:hsB (es.getD j e0).fr (es.getD j e0).to_ (es.getD i e0).to_=true) :
  trB es i j k=jnB (es.getD k e0).fr (es.getD k e0).to_ ((es.getD i e0).fr+(es.getD i e0).to_-(es.getD i e0).to_) ((es.getD j e0).fr+(es.getD j e0).to_-(es.getD i e0).to_) ∧
   cG es i j k=(alI (es.getD j e0).fr (es.getD i e0).to_ ((j:Nat):Int),alI (es.getD k e0).fr ((es.getD j e0).fr+(es.getD j e0).to_-(es.getD i e0).to_) ((k:Nat):Int)):=by
 unfold trB pTr cG pWk
 rw[h1,h2];exact ⟨rfl,rfl⟩
theorem trC{es:List jC}{i j k:Nat}(h1:jnB (es.getD j e0).fr (es.getD j e0).to_ (es.getD i e0).fr (es.getD i e0).to_=false)(h2:hsB (es.getD j e0).fr (es.getD j e0).to_ (es.getD i e0).to_=false)(h3:hsB (es.getD j e0).fr (es.getD j e0).to_ (es.getD i e0).fr=true) :
  trB es i j k=jnB (es.getD k e0).fr (es.getD k e0).to_ ((es.getD i e0).fr+(es.getD i e0).to_-(es.getD i e0).fr) ((es.getD j e0).fr+(es.getD j e0).to_-(es.getD i e0).fr) ∧
   cG es i j k=(alI (es.getD k e0).fr (es.getD i e0).to_ ((k:Nat):Int),alI (es.getD j e0).fr ((es.getD j e0).fr+(es.getD j e0).to_-(es.getD i e0).fr) ((j:Nat):Int)):=by
 unfold trB pTr cG pWk
 rw[h1,h2,h3];exact ⟨rfl,rfl⟩
theorem trN1{es:List jC}{i j k:Nat}(h1:jnB (es.getD j e0).fr (es.getD j e0).to_ (es.getD i e0).fr (es.getD i e0).to_=true):trB es i j k=false:=by
 unfold trB pTr;rw[h1];rfl
theorem trN2{es:List jC}{i j k:Nat}(h2:hsB (es.getD j e0).fr (es.getD j e0).to_ (es.getD i e0).to_=false)(h3:hsB (es.getD j e0).fr (es.getD j e0).to_ (es.getD i e0).fr=false):trB es i j k=false:=by
 unfold trB pTr;rw[h2,h3];split<;>rfl
abbrev zQ:jB:=⟨0,0,0,0⟩
def parL(n:Nat)(es:List jC):List Int:=kR true n es es.length
theorem q_nz{q:jB}(h:nF q):q≠zQ:=qnz_iff.1 h
section
variable {n:Nat} {es:List jC}
theorem aV_nz(h:xI n es)(j:Nat):nF (aV n es j):=tV_nz h (Nat.le_refl _) j
theorem aV_sat(h:xI n es){i:Nat}(hi:(i:Int)∈jN n es):xE (aV n es (es.getD i e0).fr.toNat) (jZ (aV n es (es.getD i e0).to_.toNat) (es.getD i e0).turn):=tV_sat h (Nat.le_refl _) hi
theorem aV_back(h:xI n es){i:Nat}(hi:(i:Int)∈jN n es)(hl:i<es.length):xE (jZ (aV n es (es.getD i e0).fr.toNat) (uL (es.getD i e0).turn)) (aV n es (es.getD i e0).to_.toNat):=by
 have hx:=gR h hl
 refine ((aV_sat h hi).mul (xE.refl _)).trans ?_
 rw[vH,qmul_cj,gJ,qmul_1]
 exact xE.sc (yN.1 hx.q.1) _
theorem ab_yes(h:xI n es){j:Nat}{u:jB}(hu:nF u)(he:xE u (aV n es j))(hc:qC u=0):cC (zL (aV n es j))∧qV u=zL (aV n es j):=by
 have e:=(fE hu (aV_nz h j)).2 he
 have hf:=qC_0.1 hc
 rw[e] at hf
 exact ⟨hf,by rw[qV_c0 hc,e]⟩
theorem ab_no(h:xI n es){j:Nat}{u:jB}(hj:j<n)(hu:nF u)(he:xE u (aV n es j))(hc:qC u≠0):absC n es=3∧absL n es=[]∧qC u=3:=by
 have e:=(fE hu (aV_nz h j)).2 he
 have hn:¬ aFit n es:=fun hf=>hc (qC_0.2 (by rw[e];exact hf j hj))
 exact ⟨if_neg hn,if_neg hn,(qC_01 u).resolve_left hc⟩
def uR(out:List jB)(j:Nat):jB:=out.getD j zQ
def AbI(n:Nat)(es:List jC)(out:List jB):Prop:=out.length=n∧∀ j,j<n→uR out j=zQ∨(cC (zL (aV n es j))∧uR out j=zL (aV n es j))
theorem AbI.at(h:xI n es){out:List jB}(ho:AbI n es out){j:Nat}(hj:j<n)(hz:uR out j≠zQ):dU (uR out j)∧uR out j=zL (aV n es j):=by
 rcases ho.2 j hj with e | ⟨e1,e2⟩
 ·exact absurd e hz
 ·rw[e2];exact ⟨⟨qcan_nz (aV_nz h j),e1⟩,rfl⟩
theorem fG{out:List jB}{i j:Nat}{v:jB}(hi:i<out.length):uR (out.set i v) j=if i=j then v else uR out j:=by
 unfold uR
 by_cases e:i=j
 ·subst e;rw[if_pos rfl,List.getD_eq_getElem?_getD,List.getElem?_set_self hi];rfl
 ·rw[if_neg e,List.getD_eq_getElem?_getD,List.getElem?_set_ne e,← List.getD_eq_getElem?_getD]
theorem AbI.set{out:List jB}(ho:AbI n es out){j:Nat}{v:jB}(hj:j<n)(h1:cC (zL (aV n es j)))(h2:v=zL (aV n es j)):AbI n es (out.set j v):=by
 refine ⟨by rw[List.length_set];exact ho.1,fun i hi=>?_⟩
 rw[fG (by rw[ho.1];exact hj)]
 split
 ·rename_i e;subst e;exact .inr ⟨h1,h2⟩
 ·exact ho.2 i hi
def zq(out:List jB):Nat:=out.countP fun q=>decide (q=zQ)
theorem zq_set{out:List jB}{j:Nat}{v:jB}(hj:j<out.length)(h1:uR out j=zQ)(h2:v≠zQ):zq (out.set j v)<zq out:=by
 unfold zq
 have hv:decide (v=zQ)=false:=decide_eq_false h2
 have:∀ (l:List jB) (j:Nat),j<l.length→l.getD j zQ=zQ→(l.set j v).countP (fun q=>decide (q=zQ))<l.countP fun q=>decide (q=zQ):=by
  intro l
  induction l with
  |nil=>intro j hj;simp at hj
  |cons x l ih=>
   intro j hj hx
   cases j with
   |zero=>
    simp only[List.getD_cons_zero] at hx
    subst hx
    rw[List.set_cons_zero,List.countP_cons,List.countP_cons,if_neg (by rw[hv];simp),if_pos (by simp)];omega
   |succ j=>
    simp only[List.getD_cons_succ] at hx
    rw[List.set_cons_succ,List.countP_cons,List.countP_cons]
    have:=ih j (by simpa using hj) hx
    omega
 exact this out j hj h1
theorem ab_all(h:xI n es){out:List jB}(ho:AbI n es out)(hr:∀ j,j<n→(parL n es).getD j 0=j→uR out j≠zQ)
  (hc:∀ i:Nat,(i:Int)∈jN n es→(uR out (es.getD i e0).fr.toNat≠zQ↔uR out (es.getD i e0).to_.toNat≠zQ)):out=absL n es∧absC n es=0:=by
 have hall:∀ j,j<n→uR out j≠zQ:=fun j hj=>by
  have rj:=dC h (Nat.le_refl es.length) hj
  have e1:=tPar_root h (Nat.le_refl es.length) hj
  have hrn:((kR true n es es.length).getD j 0).toNat<n:=by omega
  have h1:=hr _ hrn (by unfold parL;omega)
  exact (eD h (fun i=>uR out i≠zQ) (Nat.le_refl es.length) hc hrn hj e1).1 h1
 have hf:aFit n es:=fun j hj=>by
  rcases ho.2 j hj with e | ⟨e1,_⟩
  ·exact absurd e (hall j hj)
  ·exact e1
 refine ⟨?_,if_pos hf⟩
 unfold absL
 rw[if_pos hf]
 apply List.ext_getElem?
 intro j
 by_cases hj:j<n
 ·have e:=(ho.at h hj (hall j hj)).2
  unfold uR at e
  rw[List.getD_eq_getElem?_getD,List.getElem?_eq_getElem (by rw[ho.1];exact hj)] at e
  rw[List.getElem?_eq_getElem (by rw[ho.1];exact hj),List.getElem?_map,List.getElem?_range hj]
  exact congrArg some e
 ·rw[List.getElem?_eq_none (by rw[ho.1];omega),List.getElem?_eq_none (by simp;omega)]
theorem ab_fwd(h:xI n es){out:List jB}(ho:AbI n es out){i:Nat}(hi:(i:Int)∈jN n es)(hl:i<es.length)(hz:uR out (es.getD i e0).fr.toNat≠zQ) :
  nF (jZ (uR out (es.getD i e0).fr.toNat) (qV (uL (es.getD i e0).turn)))∧xE (jZ (uR out (es.getD i e0).fr.toNat) (qV (uL (es.getD i e0).turn))) (aV n es (es.getD i e0).to_.toNat):=by
 have hx:=gR h hl
 have hf:(es.getD i e0).fr.toNat<n:=by have:=hx.f0;have:=hx.f1;omega
 obtain ⟨g1,g2⟩:=ho.at h hf hz
 have e:=qV_eq (zD hx.q.1) (qC_cj hx.q)
 refine ⟨vR g1.1 (e.symm.nz (zD hx.q.1)),?_⟩
 refine xE.trans ?_ (aV_back h hi hl)
 rw[g2]
 exact (fZ (aV_nz h _)).mul e
theorem ab_bwd(h:xI n es){out:List jB}(ho:AbI n es out){i:Nat}(hi:(i:Int)∈jN n es)(hl:i<es.length)(hz:uR out (es.getD i e0).to_.toNat≠zQ) :
  nF (jZ (uR out (es.getD i e0).to_.toNat) (es.getD i e0).turn)∧xE (jZ (uR out (es.getD i e0).to_.toNat) (es.getD i e0).turn) (aV n es (es.getD i e0).fr.toNat):=by
 have hx:=gR h hl
 have hf:(es.getD i e0).to_.toNat<n:=by have:=hx.t0;have:=hx.t1;omega
 obtain ⟨g1,g2⟩:=ho.at h hf hz
 refine ⟨vR g1.1 hx.q.1,?_⟩
 refine xE.trans ?_ (aV_sat h hi).symm
 rw[g2]
 exact (fZ (aV_nz h _)).mul (xE.refl _)
end
def AbR(n:Nat)(es:List jC)(out:List jB):Prop:=AbI n es out∧∀ j,j<n→(parL n es).getD j 0=j→uR out j≠zQ
def clE(es:List jC)(out:List jB)(i:Nat):Prop:=uR out (es.getD i e0).fr.toNat≠zQ↔uR out (es.getD i e0).to_.toNat≠zQ
def AbC(es:List jC)(tk:List Int)(out:List jB)(m:Nat):Prop:=∀ q,q<m→clE es out (tk.getD q 0).toNat
def AbW(n:Nat)(es:List jC)(tk:List Int)(o0 out:List jB)(ag:Bool)(m:Nat):Prop:=AbR n es out∧(ag=true→zq out<zq o0)∧(ag=false→out=o0∧AbC es tk out m)
section
variable {n:Nat} {es:List jC} {tk:List Int} {o0 out:List jB} {ag:Bool} {m:Nat}
theorem AbW.skip(h:AbW n es tk o0 out ag m)(hc:clE es out (tk.getD m 0).toNat):AbW n es tk o0 out ag (m+1):=by
 refine ⟨h.1,h.2.1,fun e=>⟨(h.2.2 e).1,fun q hq=>?_⟩⟩
 by_cases hqm:q=m
 ·subst hqm;exact hc
 ·exact (h.2.2 e).2 q (by omega)
theorem AbW.zq_le(h:AbW n es tk o0 out ag m):zq out≤zq o0:=by
 cases hag:ag with
 |true=>exact Nat.le_of_lt (h.2.1 hag)
 |false=>rw[(h.2.2 hag).1];exact Nat.le_refl _
theorem AbW.put(h:AbW n es tk o0 out ag m){j m':Nat}{v:jB}(hj:j<n)(hz:uR out j=zQ)(hv:v≠zQ)(h1:cC (zL (aV n es j)))(h2:v=zL (aV n es j)):AbW n es tk o0 (out.set j v) true m':=by
 have hl:j<out.length:=by rw[h.1.1.1];exact hj
 refine ⟨⟨h.1.1.set hj h1 h2,fun i hi hr=>?_⟩,fun _=>Nat.lt_of_lt_of_le (zq_set hl hz hv) h.zq_le,fun e=>by cases e⟩
 rw[fG hl]
 split
 ·exact hv
 ·exact h.1.2 i hi hr
theorem tre_at{k:Nat}(hk:k<(jN n es).length):∃ i:Nat,i<es.length∧(jN n es).getD k 0=i∧(i:Int)∈jN n es:=by
 have hm:(jN n es).getD k 0∈jN n es:=by
  rw[List.getD_eq_getElem?_getD,List.getElem?_eq_getElem hk];exact List.getElem_mem hk
 obtain ⟨i,h1,h2⟩:=eU hm
 exact ⟨i,h1,h2,h2▸hm⟩
end
theorem q1_nz:q1≠zQ:=by decide
theorem can_nzq{n:Nat}{es:List jC}(h:xI n es)(j:Nat):zL (aV n es j)≠zQ:=q_nz (qcan_nz (aV_nz h j))
def okL{α:Type}(c:Nat)(l:List α):List α:=if c=0 then l else []
def okC(c d:Nat):Nat:=if c=0 then d else c
theorem eB{α:Type}{c:Nat}{l:List α}(h:c=0):okL c l=l:=if_pos h
theorem okL_n{α:Type}{c:Nat}{l:List α}(h:c≠0):okL c l=[]:=if_neg h
theorem okC_0{c d:Nat}(h:c=0):okC c d=d:=if_pos h
theorem okC_n{c d:Nat}(h:c≠0):okC c d=c:=if_neg h
def ebt(ts:List jB)(x:jC):jB:=jZ (qV (uL (uR ts x.to_.toNat))) (uR ts x.fr.toNat)
def erOk(es:List jC)(ts:List jB):Prop:=∀ x∈es,qC (ebt ts x)=0
instance (es:List jC) (ts:List jB):Decidable (erOk es ts):=List.decidableBAll _ _
def TsOk(n:Nat)(ts:List jB):Prop:=ts.length=n∧∀ q∈ts,dU q
section
variable {n:Nat} {es:List jC} {ts:List jB}
theorem TsOk.at(h:TsOk n ts){j:Nat}(hj:j<n):dU (uR ts j):=by
 unfold uR
 rw[List.getD_eq_getElem?_getD,List.getElem?_eq_getElem (by rw[h.1];exact hj)]
 exact h.2 _ (List.getElem_mem _)
theorem mem_getD{k:Nat}(hk:k<es.length):es.getD k e0∈es:=by
 rw[List.getD_eq_getElem?_getD,List.getElem?_eq_getElem hk];exact List.getElem_mem _
end
def rqC(q:jB):Nat:=gU q.a q.b q.c q.d
def wt(es:List jC)(t:T3):List Int:=[((t.1:Nat):Int),(cG es t.1 t.2.1 t.2.2).1,(cG es t.1 t.2.1 t.2.2).2]
abbrev z3:T3:=(0,0,0)
def triIn(es:List jC)(t:T3):Prop:=t.1<t.2.1∧t.2.1<t.2.2∧t.2.2<es.length∧trB es t.1 t.2.1 t.2.2=true
theorem tris_mem{es:List jC}{t:T3}:t∈jU es↔triIn es t:=by
 obtain ⟨i,j,k⟩:=t
 unfold jU tAll aA tIn triIn
 simp only[List.mem_flatMap,List.mem_range]
 constructor
 ·rintro ⟨a,ha,b,hb,h⟩
  split at h
  ·rename_i hab
   obtain ⟨c,hc,e⟩:=List.mem_map.1 h
   rw[List.mem_filter,Bool.and_eq_true,decide_eq_true_eq,List.mem_range] at hc
   injection e with e1 e;injection e with e2 e3
   subst e1;subst e2;subst e3
   exact ⟨hab,hc.2.1,hc.1,hc.2.2⟩
  ·cases h
 ·rintro ⟨h1,h2,h3,h4⟩
  have h1:i<j:=h1
  have h2:j<k:=h2
  have h3:k<es.length:=h3
  have h4:trB es i j k=true:=h4
  refine ⟨i,by omega,j,by omega,?_⟩
  rw[if_pos h1]
  exact List.mem_map.2 ⟨k,by rw[List.mem_filter,Bool.and_eq_true,decide_eq_true_eq,List.mem_range];exact ⟨h3,h2,h4⟩,rfl⟩
theorem tris_at{es:List jC}{m:Nat}(h:m<(jU es).length):triIn es ((jU es).getD m z3):=by
 rw[List.getD_eq_getElem?_getD,List.getElem?_eq_getElem h];exact tris_mem.1 (List.getElem_mem _)
theorem tris_len{es:List jC}(h:es.length≤256):(jU es).length≤16777216:=by
 refine Nat.le_trans (tAll_len es es.length) ?_
 exact Nat.mul_le_mul h (Nat.mul_le_mul h h)
theorem stF_n(es:List jC)(k:Nat):stF es ((k:Nat):Int)=(es.getD k e0).fr∧stT es ((k:Nat):Int)=(es.getD k e0).to_:=by
 have h:=st_p (es:=es) (k:=((k:Nat):Int)) (by omega)
 exact ⟨h.1,h.2.1⟩
theorem stF_m(es:List jC)(k:Nat):stF es (-1-((k:Nat):Int))=(es.getD k e0).to_∧stT es (-1-((k:Nat):Int))=(es.getD k e0).fr:=by
 have h:=st_n (es:=es) (k:=(-1-((k:Nat):Int))) (by omega)
 rw[show (-1-(-1-((k:Nat):Int))).toNat=k by omega] at h
 exact ⟨h.1,h.2.1⟩
theorem alI_or(p a k:Int):alI p a k=k∨alI p a k=-1-k:=by
 unfold alI;split
 ·exact .inl rfl
 ·exact .inr rfl
theorem wk_cases{es:List jC}{t:T3}:∃ j k:Nat,(j=t.2.1∧k=t.2.2∨j=t.2.2∧k=t.2.1)∧((cG es t.1 t.2.1 t.2.2).1=((j:Nat):Int)∨(cG es t.1 t.2.1 t.2.2).1=-1-((j:Nat):Int))∧((cG es t.1 t.2.1 t.2.2).2=((k:Nat):Int)∨(cG es t.1 t.2.1 t.2.2).2=-1-((k:Nat):Int)):=by
 unfold cG pWk
 split
 ·exact ⟨t.2.1,t.2.2,.inl ⟨rfl,rfl⟩,alI_or _ _ _,alI_or _ _ _⟩
 ·exact ⟨t.2.2,t.2.1,.inr ⟨rfl,rfl⟩,alI_or _ _ _,alI_or _ _ _⟩
theorem wt_in{es:List jC}{t:T3}(h:triIn es t):wIn es (wt es t):=by
 obtain ⟨h1,h2,h3,_⟩:=h
 obtain ⟨j,k,hjk,e1,e2⟩:=wk_cases (es:=es) (t:=t)
 intro x hx
 unfold wt at hx
 unfold inE
 simp only[List.mem_cons,List.not_mem_nil,or_false] at hx
 rcases hx with rfl | rfl | rfl
 ·omega
 ·rcases e1 with e | e<;>rw[e]<;>omega
 ·rcases e2 with e | e<;>rw[e]<;>omega
theorem tr_cl{a b p q r s:Int}(hab:a≠b)(hpq:p≠q)(hrs:r≠s)(h:pTr a b p q r s=true) :
  (hsB p q b=true→(if p=b then True else q=b)∧(if r=p+q-b then True else s=p+q-b)∧(if r=p+q-b then s else r)=a) ∧
  (hsB p q b=false→(if r=b then True else s=b)∧(if r=b then s else r)=p+q-a∧(if p=p+q-a then True else q=p+q-a)∧(if p=p+q-a then q else p)=a):=by
 unfold pTr jnB hsB at *
 simp only[Bool.or_eq_true,Bool.and_eq_true,beq_iff_eq,Bool.or_eq_false_iff,beq_eq_false_iff_ne] at h ⊢
 refine ⟨fun hb=>⟨?_,?_,?_⟩,fun hb=>⟨?_,?_,?_,?_⟩⟩<;>grind (splits:=20)
theorem stF_al(es:List jC)(a:Int)(k:Nat):stF es (alI (es.getD k e0).fr a ((k:Nat):Int))=(if (es.getD k e0).fr=a then (es.getD k e0).fr else (es.getD k e0).to_)∧stT es (alI (es.getD k e0).fr a ((k:Nat):Int))=(if (es.getD k e0).fr=a then (es.getD k e0).to_ else (es.getD k e0).fr):=by
 unfold alI
 split
 ·exact stF_n es k
 ·exact stF_m es k
theorem gt3(a b c:Int):[a,b,c].getD ((2+1) % [a,b,c].length) 0=a:=by
 simp only[List.length_cons,List.length_nil];rfl
theorem wt_cl{n:Nat}{es:List jC}{t:T3}(he:xI n es)(h:triIn es t):clP es (wt es t):=by
 obtain ⟨h1,h2,h3,h4⟩:=h
 have n1:=(gR he (k:=t.1) (by omega)).ne
 have n2:=(gR he (k:=t.2.1) (by omega)).ne
 have n3:=(gR he (k:=t.2.2) h3).ne
 have hc:=tr_cl n1 n2 n3 h4
 have f1:=stF_n es t.1
 intro i hi
 have hi:i<3:=hi
 have hwk:cG es t.1 t.2.1 t.2.2=pWk (es.getD t.1 e0).fr (es.getD t.1 e0).to_ (es.getD t.2.1 e0).fr (es.getD t.2.1 e0).to_ (es.getD t.2.2 e0).fr (es.getD t.2.2 e0).to_ ((t.2.1:Nat):Int) ((t.2.2:Nat):Int):=rfl
 unfold pWk at hwk
 cases hb:hsB (es.getD t.2.1 e0).fr (es.getD t.2.1 e0).to_ (es.getD t.1 e0).to_ with
 |true=>
  rw[if_pos hb] at hwk
  obtain ⟨c1,c2,c3⟩:=hc.1 hb
  have g1:=stF_al es (es.getD t.1 e0).to_ t.2.1
  have g2:=stF_al es ((es.getD t.2.1 e0).fr+(es.getD t.2.1 e0).to_-(es.getD t.1 e0).to_) t.2.2
  have w1:wt es t=[((t.1:Nat):Int),alI (es.getD t.2.1 e0).fr (es.getD t.1 e0).to_ ((t.2.1:Nat):Int),alI (es.getD t.2.2 e0).fr ((es.getD t.2.1 e0).fr+(es.getD t.2.1 e0).to_-(es.getD t.1 e0).to_) ((t.2.2:Nat):Int)]:=by unfold wt;rw[hwk]
  rw[w1]
  rcases show i=0∨i=1∨i=2 by omega with rfl | rfl | rfl
  ·exact g1.1.trans ((show _=(es.getD t.1 e0).to_ by grind).trans f1.2.symm)
  ·exact g2.1.trans (Eq.trans (by grind) g1.2.symm)
  ·exact (congrArg (stF es) (gt3 _ _ _)).trans (f1.1.trans (Eq.trans (by grind) g2.2.symm))
 |false=>
  rw[if_neg (by rw[hb];decide)] at hwk
  obtain ⟨c1,c2,c3,c4⟩:=hc.2 hb
  have g1:=stF_al es (es.getD t.1 e0).to_ t.2.2
  have g2:=stF_al es ((es.getD t.2.1 e0).fr+(es.getD t.2.1 e0).to_-(es.getD t.1 e0).fr) t.2.1
  have w1:wt es t=[((t.1:Nat):Int),alI (es.getD t.2.2 e0).fr (es.getD t.1 e0).to_ ((t.2.2:Nat):Int),alI (es.getD t.2.1 e0).fr ((es.getD t.2.1 e0).fr+(es.getD t.2.1 e0).to_-(es.getD t.1 e0).fr) ((t.2.1:Nat):Int)]:=by unfold wt;rw[hwk]
  rw[w1]
  rcases show i=0∨i=1∨i=2 by omega with rfl | rfl | rfl
  ·exact g1.1.trans ((show _=(es.getD t.1 e0).to_ by grind).trans f1.2.symm)
  ·exact g2.1.trans (Eq.trans (by grind) g1.2.symm)
  ·exact (congrArg (stF es) (gt3 _ _ _)).trans (f1.1.trans (Eq.trans (by grind) g2.2.symm))
theorem aro_ok{es:List jC}{ws:List Int}(ht:Tok es)(hw:wIn es ws)(h:mK es ws=0):dU (mZ es ws):=by
 have hok:arOk es ws:=by
  unfold mK at h
  split at h
  ·assumption
  ·cases h
 unfold mZ
 rw[if_pos hok]
 exact arV_ok ht hw (Nat.le_refl _) hok
def gnS(p q:Rat):Int:=if 0<cmpQ q p then -1 else 1
def gnT(p:Rat)(es:List jC)(t:T3):Int:=gnS p (chQ q1 (mZ es (wt es t)))
def vA(v:List Int)(k:Nat)(g:Int):List Int:=v.set k (v.getD k 0+g)
def vT(v:List Int)(t:T3)(g:Int):List Int:=vA (vA (vA v t.1 g) t.2.1 g) t.2.2 g
def vts(p:Rat)(es:List jC)(l:List T3):List Int:=l.foldl (fun v t=>vT v t (gnT p es t)) (List.replicate es.length 0)
def seOk(es:List jC):Prop:=∀ t∈jU es,mK es (wt es t)=0
instance (es:List jC):Decidable (seOk es):=List.decidableBAll _ _
def seC(es:List jC):Nat:=if seOk es then 0 else 3
def VB(b:Int)(v:List Int):Prop:=∀ j,-b≤v.getD j 0∧v.getD j 0≤b
theorem VB_0(n:Nat):VB 0 (List.replicate n 0):=fun j=>by
 rw[List.getD_eq_getElem?_getD,List.getElem?_replicate];split<;>simp
theorem gnS_01(p q:Rat):gnS p q=1∨gnS p q=-1:=by unfold gnS;split<;>simp
theorem VB_s{b:Int}{v:List Int}{g:Int}(h:VB b v)(hg:g=1∨g=-1)(k:Nat):VB (b+1) (v.set k (v.getD k 0+g)):=fun j=>by
 have h1:=h j;have h2:=h k
 by_cases e:k=j
 ·subst e
  by_cases hk:k<v.length
  ·rw[List.getD_eq_getElem?_getD,List.getElem?_set_self hk,Option.getD_some];omega
  ·rw[List.set_eq_of_length_le (by omega)];omega
 ·rw[List.getD_eq_getElem?_getD,List.getElem?_set_ne e,← List.getD_eq_getElem?_getD];omega
theorem VB_w{b:Int}{v:List Int}{g:Int}(h:VB b v)(hg:g=1∨g=-1)(hb:b≤100000000)(k:Nat):-9223372036854775808≤v.getD k 0+g∧v.getD k 0+g≤9223372036854775807:=by
 have:=h k;omega
theorem vts_s{p:Rat}{es:List jC}{m:Nat}(h:m<(jU es).length):vts p es ((jU es).take (m+1))=vT (vts p es ((jU es).take m)) ((jU es).getD m z3) (gnT p es ((jU es).getD m z3)):=by
 unfold vts
 rw[List.take_succ_eq_append_getElem h,List.foldl_append,List.getD_eq_getElem?_getD,List.getElem?_eq_getElem h];rfl
theorem vA_len(v:List Int)(k:Nat)(g:Int):(vA v k g).length=v.length:=by simp [vA]
theorem vts_len(p:Rat)(es:List jC)(l:List T3):(vts p es l).length=es.length:=by
 unfold vts
 have:∀ (l:List T3) (v:List Int),v.length=es.length→(l.foldl (fun v t=>vT v t (gnT p es t)) v).length=es.length:=by
  intro l
  induction l with
  |nil=>intro v h;exact h
  |cons t l ih=>intro v h;exact ih _ (by unfold vT;simp only[vA_len];exact h)
 exact this l _ (by simp)
def seUp(es:List jC)(m:Nat):Prop:=∀ i,i<m→mK es (wt es ((jU es).getD i z3))=0
theorem seUp_0(es:List jC):seUp es 0:=fun i hi=>by omega
theorem seUp_s{es:List jC}{m:Nat}(h:seUp es m)(h1:mK es (wt es ((jU es).getD m z3))=0):seUp es (m+1):=fun i hi=>by
 by_cases e:i=m
 ·subst e;exact h1
 ·exact h i (by omega)
theorem se_no{es:List jC}{m:Nat}(hm:m<(jU es).length)(h:mK es (wt es ((jU es).getD m z3))≠0):seC es=3∧mK es (wt es ((jU es).getD m z3))=3:=by
 have hn:¬ seOk es:=fun e=>h (e _ (by rw[List.getD_eq_getElem?_getD,List.getElem?_eq_getElem hm];exact List.getElem_mem _))
 refine ⟨if_neg hn,?_⟩
 unfold mK at h ⊢
 split
 ·rename_i e;rw[if_pos e] at h;exact absurd rfl h
 ·rfl
theorem se_yes{es:List jC}{m:Nat}(hm:m=(jU es).length)(h:seUp es m):seC es=0:=by
 refine if_pos fun t ht=>?_
 obtain ⟨i,hi,rfl⟩:=List.getElem_of_mem ht
 have:=h i (by omega)
 rwa [List.getD_eq_getElem?_getD,List.getElem?_eq_getElem hi,Option.getD_some] at this
def selU(v:List Int)(k:Nat):List Int:=((List.range k).filter fun i=>decide (0≤v.getD i 0)).map fun i=>((i:Nat):Int)
def selL(v:List Int):List Int:=selU v v.length
theorem selU_y{v:List Int}{k:Nat}(h:0≤v.getD k 0):selU v (k+1)=selU v k++[((k:Nat):Int)]:=by
 unfold selU;rw[List.range_succ,List.filter_append,List.map_append];simp only[List.filter_cons,List.filter_nil,decide_eq_true h,if_true];rfl
theorem selU_n{v:List Int}{k:Nat}(h:¬ 0≤v.getD k 0):selU v (k+1)=selU v k:=by
 unfold selU;rw[List.range_succ,List.filter_append,List.map_append];simp only[List.filter_cons,List.filter_nil,decide_eq_false h,Bool.false_eq_true,if_false,List.map_nil,List.append_nil]
theorem selU_len(v:List Int)(k:Nat):(selU v k).length≤k:=by
 unfold selU;rw[List.length_map];exact Nat.le_trans (List.length_filter_le _ _) (by simp)
def slB(p:Rat):Bool:=decide (signQ p<0)||decide (0<cmpQ p ((1:Int):Rat))
def sldC(es:List jC)(x:uN)(p:Rat):Nat:=if xO x=true then (if slB p=true then 2 else seC es) else 1
def sldV(es:List jC)(x:uN)(p:Rat):List Int:=okL (sldC es x p) (selL (vts p es (jU es)))
def slC(z:Int)(es:List jC)(x:uN)(p:Rat):Nat:=okC (uP z es) (sldC es x p)
def slV(z:Int)(es:List jC)(x:uN)(p:Rat):List Int:=okL (uP z es) (sldV es x p)
theorem sld_1{es:List jC}{x:uN}{p:Rat}(h:xO x=false):sldC es x p=1∧sldV es x p=[]:=by
 have e:sldC es x p=1:=if_neg (by rw[h];decide)
 exact ⟨e,okL_n (by rw[e];decide)⟩
theorem sld_2{es:List jC}{x:uN}{p:Rat}(h:xO x=true)(h2:slB p=true):sldC es x p=2∧sldV es x p=[]:=by
 have e:sldC es x p=2:=(if_pos h).trans (if_pos h2)
 exact ⟨e,okL_n (by rw[e];decide)⟩
theorem sld_3{es:List jC}{x:uN}{p:Rat}(h:xO x=true)(h2:slB p=false)(h3:seC es=3):sldC es x p=3∧sldV es x p=[]:=by
 have e:sldC es x p=3:=(if_pos h).trans ((if_neg (by rw[h2];decide)).trans h3)
 exact ⟨e,okL_n (by rw[e];decide)⟩
theorem sld_0{es:List jC}{x:uN}{p:Rat}(h:xO x=true)(h2:slB p=false)(h3:seC es=0):sldC es x p=0∧sldV es x p=selL (vts p es (jU es)):=by
 have e:sldC es x p=0:=(if_pos h).trans ((if_neg (by rw[h2];decide)).trans h3)
 exact ⟨e,eB e⟩
end Go.Fid
namespace Go.Proofs.YteimogfidbkpnabGreat
open Go.Fid
theorem cb50:callB Tryz.prog 50=true:=by kernel_rfl
theorem cb51:callB Tryz.prog 51=true:=by kernel_rfl
theorem cb52:callB Tryz.prog 52=true:=by kernel_rfl
theorem cb53:callB Tryz.prog 53=true:=by kernel_rfl
def t3(t:T3):A3 (Int):=A3.mk ((t.1:Nat):Int) ((t.2.1:Nat):Int) ((t.2.2:Nat):Int)
def w3(es:List jC)(t:T3):A3 (Int):=A3.mk ((t.1:Nat):Int) (cG es t.1 t.2.1 t.2.2).1 (cG es t.1 t.2.1 t.2.2).2
theorem l_joins(x:jC)(a:Int)(b:Int):kB Tryz.prog 50 [(jP x),(.val (.int .i64 (a))),(.val (.int .i64 (b)))] (.val (.bool ((jnB x.fr x.to_ a b)))):=by
 refine jK Tryz.func50 rfl cb50 rfl ?_
 show qU _ _ _ _ ⟨[(0,(.d (jP x))),(1,(vi a)),(2,(vi b))],[]⟩
 refine jA<|kx [(3,(.ref 0 0))] [(0,some (bx (jP x)))] (zN (yC 0)<|zM<|zZ) ?_
 refine jA<|kx [(6,(vb (((x.fr == a)&&(x.to_ == b))||((x.fr == b)&&(x.to_ == a)))))] [] ?_ ?_
 ·refine zE (kV yH)<|zR (kP qF)<|zM<|zE gX<|zE (oV (vb (x.fr == a)) (kZ (by kernel_rfl)))<|?_
  rcases hb1:(x.fr == a) with _ | _
  ·replace hb1:=ne_of_beq_false hb1
   refine zK<|zK<|zK<|zK<|zE oPf<|zM<|zE (kV yH)<|zR (kP qF)<|zM<|zE gX<|zE (oV (vb (x.fr == b)) (kZ (by kernel_rfl)))<|?_
   rcases hb2:(x.fr == b) with _ | _
   ·replace hb2:=ne_of_beq_false hb2
    exact zK<|zK<|zK<|zK<|zE oPf<|zE oPf<|zM<|zZ
   ·replace hb2:=eq_of_beq hb2
    exact zE (kV yQ)<|zR (kP qF)<|zM<|zE gX<|zE oPa<|zE cF<|zM<|zZ
  ·replace hb1:=eq_of_beq hb1
   refine zE (kV yQ)<|zR (kP qF)<|zM<|zE gX<|zE oPa<|zE (oV (vb (true&&(x.to_ == b))) (kZ (by kernel_rfl)))<|?_
   rcases hb3:(true&&(x.to_ == b)) with _ | _
   ·refine zE (kV yH)<|zR (kP qF)<|zM<|zE gX<|zE (oV (vb (x.fr == b)) (kZ (by kernel_rfl)))<|?_
    rcases hb4:(x.fr == b) with _ | _
    ·replace hb4:=ne_of_beq_false hb4
     exact zK<|zK<|zK<|zK<|zE oPf<|zE oPf<|zM<|zZ
    ·replace hb4:=eq_of_beq hb4
     exact zE (kV yQ)<|zR (kP qF)<|zM<|zE gX<|zE oPa<|zE cF<|zM<|zZ
   ·exact zK<|zK<|zK<|zK<|zK<|zK<|zK<|zK<|zK<|zK<|zE xC<|zM<|zZ
 refine jI ⟨_,(.tmp (d:=(.val (.bool ((((x.fr == a)&&(x.to_ == b))||((x.fr == b)&&(x.to_ == a))))))) rfl .nil),?_⟩
 rfl
theorem l_has(x:jC)(a:Int):kB Tryz.prog 51 [(jP x),(.val (.int .i64 (a)))] (.val (.bool ((hsB x.fr x.to_ a)))):=by
 refine jK Tryz.func51 rfl cb51 rfl ?_
 show qU _ _ _ _ ⟨[(0,(.d (jP x))),(1,(vi a))],[]⟩
 refine jA<|kx [(2,(.ref 0 0))] [(0,some (bx (jP x)))] (zN (yC 0)<|zM<|zZ) ?_
 refine jA<|kx [(4,(vb ((x.fr == a)||(x.to_ == a))))] [] ?_ ?_
 ·refine zE (kV yH)<|zR (kP qF)<|zM<|zE gX<|zE (oV (vb (x.fr == a)) (kZ (by kernel_rfl)))<|?_
  rcases hb1:(x.fr == a) with _ | _
  ·replace hb1:=ne_of_beq_false hb1
   exact zE (kV yQ)<|zR (kP qF)<|zM<|zE gX<|zE cF<|zM<|zZ
  ·replace hb1:=eq_of_beq hb1
   exact zK<|zK<|zK<|zK<|zE xC<|zM<|zZ
 refine jI ⟨_,(.tmp (d:=(.val (.bool (((x.fr == a)||(x.to_ == a)))))) rfl .nil),?_⟩
 rfl
theorem l_other(x:jC)(a:Int)(h1:-1000≤x.fr∧x.fr≤1000)(h2:-1000≤x.to_∧x.to_≤1000)(h3:-1000≤a∧a≤1000):kB Tryz.prog 52 [(jP x),(.val (.int .i64 (a)))] (.val (.int .i64 ((x.fr+x.to_-a)))):=by
 refine jK Tryz.func52 rfl cb52 rfl ?_
 show qU _ _ _ _ ⟨[(0,(.d (jP x))),(1,(vi a))],[]⟩
 refine jA<|kx [(2,(.ref 0 0))] [(0,some (bx (jP x)))] (zN (yC 0)<|zM<|zZ) ?_
 refine jA<|kx [(4,(vi ((x.fr+x.to_)-a)))] [] (zE (kV yH)<|zR (kP qF)<|zE (kV yQ)<|zR (kP qF)<|zE (zAd (x.fr+x.to_) (hr:=by exact (qJ rfl (by simp only[xL];omega) (by simp only[xM];omega))))<|zM<|zE (zSb ((x.fr+x.to_)-a) (hr:=by exact (qJ rfl (by simp only[xL];omega) (by simp only[xM];omega))))<|zM<|zZ) ?_
 refine jI ⟨_,(.tmp (d:=(.val (.int .i64 (((x.fr+x.to_)-a))))) rfl .nil),?_⟩
 rfl
theorem l_along(es:List jC)(k:Nat)(a:Int)(hk:k<es.length)(hb:es.length≤1000000):kB Tryz.prog 53 [(.sl 36 6 (List.map jP es)),(.val (.int .i64 (((k:Nat):Int)))),(.val (.int .i64 (a)))] (.val (.int .i64 ((alI (es.getD k (jC.mk 0 0 (jB.mk 0 0 0 0))).fr a ((k:Nat):Int))))):=by
 refine jK Tryz.func53 rfl cb53 rfl ?_
 show qU _ _ _ _ ⟨[(0,(vl 36 6 jP es)),(1,(jT k)),(2,(vi a))],[]⟩
 refine jA<|kx [] [] (zM<|zZ) ?_
 refine jA<|jA<|kx [(13,(vb ((es.getD k (jC.mk 0 0 (jB.mk 0 0 0 0))).fr == a)))] [] (zM<|zM<|zE (gV mI k (jC.mk 0 0 (jB.mk 0 0 0 0)))<|zE (oFc yH)<|zE (nG qF)<|zM<|zE gX<|zZ) ?_
 refine jG rfl (fun h1=>?_) (fun h1=>?_)
 ·replace h1:=eq_of_beq h1
  refine jA<|kx [(6,(jT k))] [] (zM<|zM<|zZ) ?_
  refine jI ⟨_,(.tmp (d:=(.val (.int .i64 (((k:Nat):Int))))) rfl .nil),?_⟩
  unfold alI;rw[if_pos h1];rfl
 ·replace h1:=ne_of_beq_false h1
  refine jE<|jA<|kx [(6,(vi (-1-((k:Nat):Int))))] [] (zM<|zE (zSb (-1-((k:Nat):Int)) (hr:=by exact (qJ (by first | omega | rfl | (dsimp only;omega)) (by simp only[xL];omega) (by simp only[xM];omega))))<|zM<|zZ) ?_
  refine jI ⟨_,(.tmp (d:=(.val (.int .i64 ((-1-((k:Nat):Int)))))) rfl .nil),?_⟩
  unfold alI;rw[if_neg h1];rfl
end Go.Proofs.YteimogfidbkpnabGreat
