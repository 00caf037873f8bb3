/- Part 18 of a proof: rules, plain facts, and functions walked. -/
import Derived.Test.YtckccjhflbljgaaGreatDoorM17
import Derived.Test.YtckccjhflbljgaaGreatDoorM13
set_option linter.all false
set_option maxRecDepth 4000
namespace Go.Proofs.YtckccjhflbljgaaGreatDoor
open List Tryz
open Go.Fid
theorem ar130:arrB prog 130=some (3,3,1):=by kernel_rfl
theorem cb61:callB prog 61=true:=by kernel_rfl
theorem cb63:callB prog 63=true:=by kernel_rfl
theorem fo103_1:uX prog 103 1=some 1:=by kernel_rfl
theorem fo103_2:uX prog 103 2=some 2:=by kernel_rfl
theorem mk100:mapKB prog 100=some (130,3):=by kernel_rfl
theorem mk101:mapKB prog 101=some (9,3):=by kernel_rfl
theorem pl72:eL prog 72=some [(0,1),(1,1),(2,1),(3,4)]:=by kernel_rfl
theorem sh100:qD prog 100=some (false,1):=by kernel_rfl
theorem sh101:qD prog 101=some (false,1):=by kernel_rfl
theorem sh130:qD prog 130=some (true,3):=by kernel_rfl
theorem ze130:xH prog 130=some [.int .i64 0,.int .i64 0,.int .i64 0]:=by kernel_rfl
theorem zo130:eO [.int .i64 0,.int .i64 0,.int .i64 0] [.val (.int .i64 0),.val (.int .i64 0),.val (.int .i64 0)]:=by simp [eO,Value.oneCell']
theorem zv3:zeroVm prog 3=some (.int .i64 0):=by kernel_rfl
theorem fA(o:Int)(i:Int)(k:Int)(B:uT)(hB:RBI B)(ha:NdAr B o i k):yG prog 63 [(.ref 0 0),(vi o),(vi i),(vi k)] [(0,some [(.own 1 72 7 B.tm.length),(.mp 2),(.mp 3),(.own 4 3 1 B.us.length),(vb B.ov)]),(1,some (uD jN B.tm)),(2,some [.mo (vG mS vZ B.kn)]),(3,some [.mo (vG mY vZ B.os)]),(4,some (bm jL B.us))] (.d (.val (.int .i64 ((jK B o i k).2)))) [(0,some [(.own 1 72 7 (((jK B o i k).1).tm.length)),(.mp 2),(.mp 3),(.own 4 3 1 (((jK B o i k).1).us.length)),(vb (((jK B o i k).1).ov))]),(1,some (uD jN (((jK B o i k).1).tm))),(2,some [.mo (vG mS vZ (((jK B o i k).1).kn))]),(3,some [.mo (vG mY vZ (((jK B o i k).1).os))]),(4,some (bm jL (((jK B o i k).1).us)))]:=by
 have hbl:=hB.hl
 have hbu:=hB.hu
 let y1:=qX
 refine gW func63 rfl cb63 rfl ?_
 refine jB<|kx [] [] (zM<|zZ) ?_
 refine jB<|kx [(9,(.ref 5 0))] [(5,some (bx (encA130 (A3.mk o i k))))] (zM<|zM<|zM<|zE (oBf ar130 ze130 zo130)<|zH (vB 5 ze130 zo130)<|zT (qL sh130)<|zZ) ?_
 refine jB<|jB<|kd [(10,(vi ((xR B.kn (o,i,k)).getD 0))),(11,(vb ((xR B.kn (o,i,k)).isSome)))] [] mo (wM<|wE oNc<|wE (kK fo103_1)<|wR (qH sh100)<|wR (kP sh130)<|wR (oGi (l:=B.kn) mk100 (keyT3 eqa130) zv3 (o,i,k) (λ_ _ _ h=>rep_T3 h))<|wM<|wE zP<|wE zP<|wM<|wM<|wZ) ?_
 refine jB<|kx [(33,(vb ((xR B.kn (o,i,k)).isSome||B.ov)))] [] ?_ ?_
 ·refine zM<|zE (oV (vb ((xR B.kn (o,i,k)).isSome)) (qA (by kernel_rfl)))<|?_
  rcases hb1:((xR B.kn (o,i,k)).isSome) with _ | _
  ·exact zM<|zE oNc<|zE (kK fo103_4)<|zR (qH aT)<|zE aK<|zZ
  ·exact zK<|zK<|zK<|zK<|zE nO<|zZ
 refine jD (b:=((xR B.kn (o,i,k)).isSome||B.ov)) rfl (λh2=>?_) (λh2=>?_)
 ·refine jB<|kx [(8,(vi ((xR B.kn (o,i,k)).getD 0)))] [] (zM<|zM<|zZ) ?_
  rw[oA (B:=B) (o:=o) (i:=i) (k:=k) h2]
  refine jE ⟨vR (by kernel_rfl),xX (by kernel_rfl),.inl ⟨_,(.tmp (d:=(.val (.int .i64 (((xR B.kn (o,i,k)).getD 0))))) rfl .nil),?_⟩⟩
  rfl
 ·refine jF<|jB<|kx [(12,(kE 1))] [] (zM<|zZ) ?_
  refine pwp_seqjoin (α:=Int) (λv=>⟨[(0,(.ref 0 0)),(1,(vi o)),(2,(vi i)),(3,(vi k)),(9,(.ref 5 0)),(12,(vi v))],[(0,some [(.own 1 72 7 B.tm.length),(.mp 2),(.mp 3),(.own 4 3 1 B.us.length),(vb B.ov)]),(1,some (uD jN B.tm)),(2,some [.mo (vG mS vZ B.kn)]),(3,some [.mo (vG mY vZ B.os)]),(4,some (bm jL B.us)),(5,some (bx (encA130 (A3.mk o i k))))]⟩) (λv=>v=bSz B o i k) ?_ ?_
  ·refine jB<|kx [(35,(vb (o == 6)))] [] (zM<|zE xL<|zM<|zZ) ?_
   refine jD (b:=(o == 6)) rfl (λh3=>?_) (λh3=>?_)
   ·replace h3:=eq_of_beq h3
    obtain ⟨⟨a1,a2⟩,⟨a3,a4⟩,a5,a6⟩:=ha.ge2 hB (show o≠1 by omega)
    refine kx [(12,(vi (B.us.getD ((i).toNat) 0)))] [] (zM<|zE oNc<|zE (kK fo103_3)<|zR (qH sh74)<|zM<|zE (yF uR ((i).toNat))<|zR (fE uN ((i).toNat) (0:Int))<|zM<|zZ) ?_
    exact ⟨(B.us.getD i.toNat 0),wk,(bSz_6 h3)⟩
   ·replace h3:=ne_of_beq_false h3
    refine jB<|kx [(45,(vb (o == 7)))] [] (zM<|zE xL<|zM<|zZ) ?_
    refine jD (b:=(o == 7)) rfl (λh4=>?_) (λh4=>?_)
    ·replace h4:=eq_of_beq h4
     obtain ⟨⟨a1,a2⟩,⟨a3,a4⟩,a5,a6⟩:=ha.ge2 hB (show o≠1 by omega)
     refine kx [(12,(vi (2*(B.us.getD ((i).toNat) 0))))] [] (zM<|zE oNc<|zE (kK fo103_3)<|zR (qH sh74)<|zM<|zE (yF uR ((i).toNat))<|zR (fE uN ((i).toNat) (0:Int))<|zE (zMl (2*(B.us.getD ((i).toNat) 0)))<|zM<|zZ) ?_
     exact ⟨(2*B.us.getD i.toNat 0),wk,(bSz_7 h3 h4)⟩
    ·replace h4:=ne_of_beq_false h4
     refine jB<|kx [(56,(vb ((qB o) == 2)))] [] (zM<|zE (kB (j_kids o))<|zE xL<|zM<|zZ) ?_
     refine jD (b:=((qB o) == 2)) rfl (λh5=>?_) (λh5=>?_)
     ·replace h5:=eq_of_beq h5
      obtain ⟨⟨a1,a2⟩,⟨a3,a4⟩,a5,a6⟩:=ha.ge2 hB (show o≠1 from λe=>by rw[e] at h5;revert h5;decide)
      refine kd [(12,(vi ((B.us.getD ((i).toNat) 0)+(B.us.getD ((k).toNat) 0))))] [] mo (wM<|wE oNc<|wE (kK fo103_3)<|wR (qH sh74)<|wM<|wE (yF uR ((i).toNat))<|wR (fE uN ((i).toNat) (0:Int))<|wM<|wE oNc<|wE (kK fo103_3)<|wR (qH sh74)<|wM<|wE (yF uR ((k).toNat))<|wR (fE uN ((k).toNat) (0:Int))<|wE (zAd ((B.us.getD ((i).toNat) 0)+(B.us.getD ((k).toNat) 0)))<|wM<|wZ) ?_
      exact ⟨(B.us.getD i.toNat 0+B.us.getD k.toNat 0),wk,(bSz_2 h3 h4 h5)⟩
     ·replace h5:=ne_of_beq_false h5
      refine jF ?_
      exact ⟨1,wk,(bSz_1 h3 h4 h5)⟩
  ·rintro v hv
   refine jB<|kf [(13,(vi ((qR B (jS.mk o i k y1) v).2)))] [(0,some [(.own 1 72 7 (((qR B (jS.mk o i k y1) v).1).tm.length)),(.mp 2),(.mp 3),(.own 4 3 1 (((qR B (jS.mk o i k y1) v).1).us.length)),(vb (((qR B (jS.mk o i k y1) v).1).ov))]),(1,some (uD jN (((qR B (jS.mk o i k y1) v).1).tm))),(2,some [.mo (vG mS vZ (((qR B (jS.mk o i k y1) v).1).kn))]),(3,some [.mo (vG mY vZ (((qR B (jS.mk o i k y1) v).1).os))]),(4,some (bm jL (((qR B (jS.mk o i k y1) v).1).us)))] (zM<|zM<|zM<|zM<|zE (iS pl72 dW fZ)<|zM<|zSe (B2:=[(0,some [(.own 1 72 7 B.tm.length),(.mp 2),(.mp 3),(.own 4 3 1 B.us.length),(vb B.ov)]),(1,some (uD jN B.tm)),(2,some [.mo (vG mS vZ B.kn)]),(3,some [.mo (vG mY vZ B.os)]),(4,some (bm jL B.us))]) (B2':=[(0,some [(.own 1 72 7 (((qR B (jS.mk o i k y1) v).1).tm.length)),(.mp 2),(.mp 3),(.own 4 3 1 (((qR B (jS.mk o i k y1) v).1).us.length)),(vb (((qR B (jS.mk o i k y1) v).1).ov))]),(1,some (uD jN (((qR B (jS.mk o i k y1) v).1).tm))),(2,some [.mo (vG mS vZ (((qR B (jS.mk o i k y1) v).1).kn))]),(3,some [.mo (vG mY vZ (((qR B (jS.mk o i k y1) v).1).os))]),(4,some (bm jL (((qR B (jS.mk o i k y1) v).1).us)))]) [0,1,2,3,4] [0] (e_add (jS.mk o i k y1) v B hB)<|zM<|zF) ?_
   refine jB<|kd [] [(2,some [.mo (vG mS vZ ((((qR B (jS.mk o i k y1) v).1).kn)++[((o,i,k),(qR B (jS.mk o i k y1) v).2)]))])] mo (wM<|wE oNc<|wE (kK fo103_1)<|wR (qH sh100)<|wR (kP sh130)<|wM<|wT (oIi (l:=((qR B (jS.mk o i k y1) v).1).kn) mk100 (keyT3 eqa130) (o,i,k) ((qR B (jS.mk o i k y1) v).2) (λ_ _ _ h=>rep_T3 h) (by rw[(bAdd_os _ _ _).2];exact (Bool.or_eq_false_iff.1 h2).1))<|wZ) ?_
   refine jB<|kx [(8,(vi ((qR B (jS.mk o i k y1) v).2)))] [] (zM<|zM<|zZ) ?_
   rw[bNode_f (B:=B) (o:=o) (i:=i) (k:=k) (z:=v) h2 hv]
   refine jE ⟨vR (by kernel_rfl),xX (by kernel_rfl),.inl ⟨_,(.tmp (d:=(.val (.int .i64 ((qR B (jS.mk o i k qX) v).2)))) rfl .nil),?_⟩⟩
   rfl
def lX(q:Rat):Prop:=jP prog 109 [jJ (jM q)] (.val (.string (txQ q)))
theorem p_text(q:Rat)(hq:QL q 1048576)(ht:lX q):jP prog 109 [jJ (jM q)] (.val (.string (txQ q))):=ht
theorem e_num(q:Rat)(hq:QL q 1048576)(B:uT)(hB:RBI B)(ht:lX q):yG prog 61 [(.ref 0 0),(.d (jJ (jM q)))] [(0,some [(.own 1 72 7 B.tm.length),(.mp 2),(.mp 3),(.own 4 3 1 B.us.length),(vb B.ov)]),(1,some (uD jN B.tm)),(2,some [.mo (vG mS vZ B.kn)]),(3,some [.mo (vG mY vZ B.os)]),(4,some (bm jL B.us))] (.d (.val (.int .i64 ((vW B q).2)))) [(0,some [(.own 1 72 7 (((vW B q).1).tm.length)),(.mp 2),(.mp 3),(.own 4 3 1 (((vW B q).1).us.length)),(vb (((vW B q).1).ov))]),(1,some (uD jN (((vW B q).1).tm))),(2,some [.mo (vG mS vZ (((vW B q).1).kn))]),(3,some [.mo (vG mY vZ (((vW B q).1).os))]),(4,some (bm jL (((vW B q).1).us)))]:=by
 have hbl:=hB.hl
 have hbu:=hB.hu
 refine gW func61 rfl cb61 rfl ?_
 refine jB<|kx [(3,(.ref 5 0))] [(5,some (bx (jJ (jM q))))] (zH (xD 5)<|zM<|zZ) ?_
 refine jB<|kx [(5,(.d (.val (.string (txQ q)))))] [] (zR (kP jT)<|zE (kB (p_text q hq ht))<|zM<|zZ) ?_
 refine jB<|jB<|kx [(6,(vi ((xR B.os (txQ q)).getD 0))),(7,(vb ((xR B.os (txQ q)).isSome)))] [] (zM<|zE oNc<|zE (kK fo103_2)<|zR (qH sh101)<|zM<|zR (oGi (l:=B.os) mk101 (keySt sk9) zv3 (txQ q) (λ_ _ _ h=>vA h))<|zM<|zE zP<|zE zP<|zM<|zM<|zZ) ?_
 refine jB<|kx [(20,(vb ((xR B.os (txQ q)).isSome)))] [] (zM<|zZ) ?_
 refine jD (b:=(xR B.os (txQ q)).isSome) rfl (λh1=>?_) (λh1=>?_)
 ·refine jB<|kx [(4,(vi ((xR B.os (txQ q)).getD 0)))] [] (zM<|zM<|zZ) ?_
  rw[bNum_t (B:=B) (q:=q) h1]
  refine jE ⟨vR (by kernel_rfl),xX (by kernel_rfl),.inl ⟨_,(.tmp (d:=(.val (.int .i64 (((xR B.os (txQ q)).getD 0))))) rfl .nil),?_⟩⟩
  rfl
 ·refine jF<|jB<|kf [(8,(vi ((qR B (jS.mk 0 0 0 (jM q)) 1).2)))] [(0,some [(.own 1 72 7 (((qR B (jS.mk 0 0 0 (jM q)) 1).1).tm.length)),(.mp 2),(.mp 3),(.own 4 3 1 (((qR B (jS.mk 0 0 0 (jM q)) 1).1).us.length)),(vb (((qR B (jS.mk 0 0 0 (jM q)) 1).1).ov))]),(1,some (uD jN (((qR B (jS.mk 0 0 0 (jM q)) 1).1).tm))),(2,some [.mo (vG mS vZ (((qR B (jS.mk 0 0 0 (jM q)) 1).1).kn))]),(3,some [.mo (vG mY vZ (((qR B (jS.mk 0 0 0 (jM q)) 1).1).os))]),(4,some (bm jL (((qR B (jS.mk 0 0 0 (jM q)) 1).1).us)))] (zM<|zR (kP jT)<|zE (iS pl72 dW fZ)<|zSe (B2:=[(0,some [(.own 1 72 7 B.tm.length),(.mp 2),(.mp 3),(.own 4 3 1 B.us.length),(vb B.ov)]),(1,some (uD jN B.tm)),(2,some [.mo (vG mS vZ B.kn)]),(3,some [.mo (vG mY vZ B.os)]),(4,some (bm jL B.us))]) (B2':=[(0,some [(.own 1 72 7 (((qR B (jS.mk 0 0 0 (jM q)) 1).1).tm.length)),(.mp 2),(.mp 3),(.own 4 3 1 (((qR B (jS.mk 0 0 0 (jM q)) 1).1).us.length)),(vb (((qR B (jS.mk 0 0 0 (jM q)) 1).1).ov))]),(1,some (uD jN (((qR B (jS.mk 0 0 0 (jM q)) 1).1).tm))),(2,some [.mo (vG mS vZ (((qR B (jS.mk 0 0 0 (jM q)) 1).1).kn))]),(3,some [.mo (vG mY vZ (((qR B (jS.mk 0 0 0 (jM q)) 1).1).os))]),(4,some (bm jL (((qR B (jS.mk 0 0 0 (jM q)) 1).1).us)))]) [0,1,2,3,4] [0] (e_add (jS.mk 0 0 0 (jM q)) 1 B hB)<|zM<|zF) ?_
  refine jB<|kx [] [(3,some [.mo (vG mY vZ ((((qR B (jS.mk 0 0 0 (jM q)) 1).1).os)++[((txQ q),(qR B (jS.mk 0 0 0 (jM q)) 1).2)]))])] (zM<|zE oNc<|zE (kK fo103_2)<|zR (qH sh101)<|zM<|zM<|zT (oIi (l:=((qR B (jS.mk 0 0 0 (jM q)) 1).1).os) mk101 (keySt sk9) (txQ q) ((qR B (jS.mk 0 0 0 (jM q)) 1).2) (λ_ _ _ h=>vA h) (by rw[(bAdd_os _ _ _).1];exact h1))<|zZ) ?_
  refine jB<|kx [(4,(vi ((qR B (jS.mk 0 0 0 (jM q)) 1).2)))] [] (zM<|zM<|zZ) ?_
  rw[bNum_f (B:=B) (q:=q) h1]
  refine jE ⟨vR (by kernel_rfl),xX (by kernel_rfl),.inl ⟨_,(.tmp (d:=(.val (.int .i64 ((qR B (jS.mk 0 0 0 (jM q)) 1).2)))) rfl .nil),?_⟩⟩
  rfl
theorem cmp1_ne{d:Nat}(h:d≠1):(uY (d:Int) 1)≠0:=by
 unfold uY
 by_cases h1:(d:Int)<1
 ·rw[if_pos h1];decide
 ·rw[if_neg h1,if_pos (by omega)];decide
theorem dgs_l:∀ (f n:Nat),(dgs f n).length<=f
 |0,_=>by simp [dgs]
 |f+1,n=>by
  unfold dgs
  by_cases h:n<10
  ·rw[if_pos h];simp
  ·rw[if_neg h];have:=dgs_l f (n / 10);simp;omega
theorem pads_l:∀ l:List Nat,((l.map lN).flatten).length<=29*l.length
 |[]=>by simp
 |d::l=>by
  have h1:=pads_l l
  have h2:(lN d).length<=29:=by unfold lN;have:=dgs_l 20 d;rw[length_append,length_replicate];unfold itN at *;omega
  rw[map_cons,flatten_cons,length_append,length_cons];omega
theorem txN_l(n:Nat):(txN n).length<=29*(ofNat n).length+29:=by
 unfold txN
 by_cases h:(ofNat n).length=0
 ·rw[if_pos h];simp
 ·rw[if_neg h]
  rcases hr:(ofNat n).reverse with _ | ⟨d,l⟩
  ·simp [txG]
  ·have h1:=pads_l l
   have h2:=congrArg List.length hr
   rw[length_reverse,length_cons] at h2
   have h3:=dgs_l 20 d
   unfold txG itN
   rw[length_append];omega
theorem txZ_l(z:Int):(aL z).length<=29*(ofNat z.natAbs).length+30:=by
 have:=txN_l z.natAbs
 unfold aL
 by_cases h:z<0
 ·rw[if_pos h,length_cons];omega
 ·rw[if_neg h];omega
theorem tx_l1{q:Rat}(hq:QL q 1048576):(ByteArray.mk #[47]).size+(⟨(aL ((q.den:Nat):Int)).toArray⟩:ByteArray).size<9223372036854775808:=by
 have h:=txZ_l ((q.den:Nat):Int)
 have h2:(ofNat ((q.den:Nat):Int).natAbs).length<=1048576:=hq.2
 show 1+(aL ((q.den:Nat):Int)).length<_
 omega
theorem tx_l2{q:Rat}(hq:QL q 1048576):(⟨(aL q.num).toArray⟩:ByteArray).size+(ByteArray.mk #[47]++(⟨(aL ((q.den:Nat):Int)).toArray⟩:ByteArray)).size<9223372036854775808:=by
 have h:=txZ_l ((q.den:Nat):Int)
 have h2:(ofNat ((q.den:Nat):Int).natAbs).length<=1048576:=hq.2
 have h3:=txZ_l q.num
 have h4:(ofNat q.num.natAbs).length<=1048576:=hq.1
 rw[ByteArray.size_append]
 show (aL q.num).length+(1+(aL ((q.den:Nat):Int)).length)<_
 omega
theorem tx_join{q:Rat}(hd:q.den≠1):(⟨(aL q.num).toArray⟩:ByteArray)++(ByteArray.mk #[47]++(⟨(aL ((q.den:Nat):Int)).toArray⟩:ByteArray))=txQ q:=by
 unfold txQ
 rw[if_neg hd]
 apply ByteArray.ext
 simp [ByteArray.data_append]
def TextZ(z:Int):Prop:=jP prog 168 [jQ (kN z)] (.val (.string ⟨(aL z).toArray⟩))
theorem p_textZ(z:Int)(hz:dP (kN z) z 1048576)(ht:TextZ z):jP prog 168 [jQ (kN z)] (.val (.string ⟨(aL z).toArray⟩)):=ht
theorem p_textW(q:Rat)(hq:QL q 1048576)(hd:q.den=1)(ht:TextZ q.num):jP prog 109 [(jJ (jM q))] (.val (.string (txQ q))):=by
 refine vD func109 ?_
 refine jB<|kx [(1,(.ref 0 0))] [(0,some (bx (jJ (jM q))))] (zN (xD 0)<|zM<|zZ) ?_
 refine jB<|kx [] [(0,some (bx (jJ (jM q))))] (zR (kP jT)<|zE (kB (fJ (jM q) q (jO (jZ hq))))<|zT (qL jT)<|zZ) ?_
 refine jB<|kx [(3,(.d (.val (.string (⟨(aL q.num).toArray⟩:ByteArray)))))] [] (zE (kK zW)<|zR (kP kG)<|zE (kB (p_textZ q.num (uK hq) ht))<|zM<|zZ) ?_
 refine jB<|jB<|kd [(13,(vb false))] [] mo (wE (kK xC)<|wR (kP kG)<|wE (kB (t_of 1))<|wE (kB (s_compare (qU hq) (iL (z:=1))))<|wE (nA false aZ (by exact bne_eq_false_iff_eq.2 (by rw[hd];decide)))<|wZ) ?_
 refine uI ?_
 refine jF<|jB<|kx [(2,(.d (.val (.string (⟨(aL q.num).toArray⟩:ByteArray)))))] [] (zM<|zM<|zZ) ?_
 refine jE ⟨_,(.tmp (d:=(.val (.string (⟨(aL q.num).toArray⟩:ByteArray)))) rfl .nil),?_⟩
 unfold txQ;rw[if_pos hd];rfl
theorem p_textF(q:Rat)(hq:QL q 1048576)(hd:q.den≠1)(ht:TextZ q.num)(ht2:TextZ ((q.den:Nat):Int)):jP prog 109 [(jJ (jM q))] (.val (.string (txQ q))):=by
 refine vD func109 ?_
 refine jB<|kx [(1,(.ref 0 0))] [(0,some (bx (jJ (jM q))))] (zN (xD 0)<|zM<|zZ) ?_
 refine jB<|kx [] [(0,some (bx (jJ (jM q))))] (zR (kP jT)<|zE (kB (fJ (jM q) q (jO (jZ hq))))<|zT (qL jT)<|zZ) ?_
 refine jB<|kx [(3,(.d (.val (.string (⟨(aL q.num).toArray⟩:ByteArray)))))] [] (zE (kK zW)<|zR (kP kG)<|zE (kB (p_textZ q.num (uK hq) ht))<|zM<|zZ) ?_
 refine jB<|jB<|kd [(13,(vb true))] [] mo (wE (kK xC)<|wR (kP kG)<|wE (kB (t_of 1))<|wE (kB (s_compare (qU hq) (iL (z:=1))))<|wE (nA true aZ (by exact bne_iff_ne.2 (cmp1_ne hd)))<|wZ) ?_
 refine yP ?_
 refine kx [(3,(.d (.val (.string ((⟨(aL q.num).toArray⟩:ByteArray)++((ByteArray.mk #[47])++(⟨(aL (q.den:Int)).toArray⟩:ByteArray)))))))] [] (zM<|zE (kK xC)<|zR (kP kG)<|zE (kB (p_textZ (q.den:Int) (qU hq) ht2))<|zE (oAst ((ByteArray.mk #[47])++(⟨(aL (q.den:Int)).toArray⟩:ByteArray)) (hl:=(by first | exact tx_l1 hq | exact tx_l2 hq)))<|zE (oAst ((⟨(aL q.num).toArray⟩:ByteArray)++((ByteArray.mk #[47])++(⟨(aL (q.den:Int)).toArray⟩:ByteArray))) (hl:=(by first | exact tx_l1 hq | exact tx_l2 hq)))<|zM<|zZ) ?_
 refine jB<|kx [(2,(.d (.val (.string ((⟨(aL q.num).toArray⟩:ByteArray)++((ByteArray.mk #[47])++(⟨(aL (q.den:Int)).toArray⟩:ByteArray)))))))] [] (zM<|zM<|zZ) ?_
 refine jE ⟨_,(.tmp (d:=(.val (.string ((⟨(aL q.num).toArray⟩:ByteArray)++((ByteArray.mk #[47])++(⟨(aL (q.den:Int)).toArray⟩:ByteArray)))))) rfl .nil),?_⟩
 rw[tx_join hd];rfl
theorem ofNat_one{n:Nat}(h:n<1000000000){d:Nat}(hd:d∈ofNat n\/d=0):d<=n:=by
 rcases hd with hd | rfl
 ·by_cases h0:n=0
  ·subst h0;rw[uC] at hd;cases hd
  ·rw[mC h0,Nat.mod_eq_of_lt h,Nat.div_eq_of_lt h,uC,mem_singleton] at hd;omega
 ·omega
theorem tz_small(z:Int)(h:z.natAbs<100):TextZ z:=t_text z (Nat.le_trans (uB (by omega)) (by decide)) λd hd=>itA_small d (by have:=ofNat_one (by omega) hd;omega)
theorem tz_all(z:Int)(h:dE z<=1000000):TextZ z:=t_text z h λd hd=>itA d (by
 rcases hd with hd | rfl
 ·exact kI _ _ hd
 ·decide)
theorem tx_all(q:Rat)(h:QL q 1000000):lX q:=by
 by_cases hd:q.den=1
 ·exact p_textW q (uG h) hd (tz_all _ h.1)
 ·exact p_textF q (uG h) hd (tz_all _ h.1) (tz_all _ h.2)
theorem iB(z:Int)(h:z.natAbs<100:=by decide):lX ((z:Int):Rat):=p_textW _ (ql_i (by omega)) (Rat.den_intCast z) (by rw[Rat.num_intCast];exact tz_small z h)
theorem cb64:callB prog 64=true:=by kernel_rfl
theorem cb65:callB prog 65=true:=by kernel_rfl
theorem cb66:callB prog 66=true:=by kernel_rfl
theorem e_sum(i:Int)(k:Int)(B:uT)(hB:RBI B)(hi:gV B i)(hk:gV B k):yG prog 66 [(.ref 0 0),(vi i),(vi k)] [(0,some [(.own 1 72 7 B.tm.length),(.mp 2),(.mp 3),(.own 4 3 1 B.us.length),(vb B.ov)]),(1,some (uD jN B.tm)),(2,some [.mo (vG mS vZ B.kn)]),(3,some [.mo (vG mY vZ B.os)]),(4,some (bm jL B.us))] (.d (.val (.int .i64 ((gD B i k).2)))) [(0,some [(.own 1 72 7 (((gD B i k).1).tm.length)),(.mp 2),(.mp 3),(.own 4 3 1 (((gD B i k).1).us.length)),(vb (((gD B i k).1).ov))]),(1,some (uD jN (((gD B i k).1).tm))),(2,some [.mo (vG mS vZ (((gD B i k).1).kn))]),(3,some [.mo (vG mY vZ (((gD B i k).1).os))]),(4,some (bm jL (((gD B i k).1).us)))]:=by
 have hbl:=hB.hl
 have hbu:=hB.hu
 refine gW func66 rfl cb66 rfl ?_
 refine jB<|kx [] [] (zM<|zZ) ?_
 refine jB<|jH<|jB<|kf [(7,(vb (bIs B i 0)))] [(0,some [(.own 1 72 7 B.tm.length),(.mp 2),(.mp 3),(.own 4 3 1 B.us.length),(vb B.ov)]),(1,some (uD jN B.tm)),(2,some [.mo (vG mS vZ B.kn)]),(3,some [.mo (vG mY vZ B.os)]),(4,some (bm jL B.us))] (zM<|zM<|zSe (B2:=[(0,some [(.own 1 72 7 B.tm.length),(.mp 2),(.mp 3),(.own 4 3 1 B.us.length),(vb B.ov)]),(1,some (uD jN B.tm)),(2,some [.mo (vG mS vZ B.kn)]),(3,some [.mo (vG mY vZ B.os)]),(4,some (bm jL B.us))]) (B2':=[(0,some [(.own 1 72 7 B.tm.length),(.mp 2),(.mp 3),(.own 4 3 1 B.us.length),(vb B.ov)]),(1,some (uD jN B.tm)),(2,some [.mo (vG mS vZ B.kn)]),(3,some [.mo (vG mY vZ B.os)]),(4,some (bm jL B.us))]) [0,1,2,3,4] [0] (e_is i 0 B hB hi (by omega) (by omega))<|zM<|zF) ?_
 refine jD (b:=(bIs B i 0)) rfl (λh1=>?_) (λh1=>?_)
 ·refine jB<|kx [(6,(vi k))] [] (zM<|zM<|zZ) ?_
  rw[bSum_1 h1]
  refine jE ⟨vR (by kernel_rfl),xX (by kernel_rfl),.inl ⟨_,(.tmp (d:=(.val (.int .i64 (k)))) rfl .nil),?_⟩⟩
  rfl
 ·refine jB<|kf [(12,(vb (bIs B k 0)))] [(0,some [(.own 1 72 7 B.tm.length),(.mp 2),(.mp 3),(.own 4 3 1 B.us.length),(vb B.ov)]),(1,some (uD jN B.tm)),(2,some [.mo (vG mS vZ B.kn)]),(3,some [.mo (vG mY vZ B.os)]),(4,some (bm jL B.us))] (zM<|zM<|zSe (B2:=[(0,some [(.own 1 72 7 B.tm.length),(.mp 2),(.mp 3),(.own 4 3 1 B.us.length),(vb B.ov)]),(1,some (uD jN B.tm)),(2,some [.mo (vG mS vZ B.kn)]),(3,some [.mo (vG mY vZ B.os)]),(4,some (bm jL B.us))]) (B2':=[(0,some [(.own 1 72 7 B.tm.length),(.mp 2),(.mp 3),(.own 4 3 1 B.us.length),(vb B.ov)]),(1,some (uD jN B.tm)),(2,some [.mo (vG mS vZ B.kn)]),(3,some [.mo (vG mY vZ B.os)]),(4,some (bm jL B.us))]) [0,1,2,3,4] [0] (e_is k 0 B hB hk (by omega) (by omega))<|zM<|zF) ?_
  refine jD (b:=(bIs B k 0)) rfl (λh2=>?_) (λh2=>?_)
  ·refine jB<|kx [(6,(vi i))] [] (zM<|zM<|zZ) ?_
   rw[bSum_2 h1 h2]
   refine jE ⟨vR (by kernel_rfl),xX (by kernel_rfl),.inl ⟨_,(.tmp (d:=(.val (.int .i64 (i)))) rfl .nil),?_⟩⟩
   rfl
  ·refine jF<|jB<|kf [(6,(vi ((jK B 2 i k).2)))] [(0,some [(.own 1 72 7 (((jK B 2 i k).1).tm.length)),(.mp 2),(.mp 3),(.own 4 3 1 (((jK B 2 i k).1).us.length)),(vb (((jK B 2 i k).1).ov))]),(1,some (uD jN (((jK B 2 i k).1).tm))),(2,some [.mo (vG mS vZ (((jK B 2 i k).1).kn))]),(3,some [.mo (vG mY vZ (((jK B 2 i k).1).os))]),(4,some (bm jL (((jK B 2 i k).1).us)))] (zM<|zM<|zM<|zSe (B2:=[(0,some [(.own 1 72 7 B.tm.length),(.mp 2),(.mp 3),(.own 4 3 1 B.us.length),(vb B.ov)]),(1,some (uD jN B.tm)),(2,some [.mo (vG mS vZ B.kn)]),(3,some [.mo (vG mY vZ B.os)]),(4,some (bm jL B.us))]) (B2':=[(0,some [(.own 1 72 7 (((jK B 2 i k).1).tm.length)),(.mp 2),(.mp 3),(.own 4 3 1 (((jK B 2 i k).1).us.length)),(vb (((jK B 2 i k).1).ov))]),(1,some (uD jN (((jK B 2 i k).1).tm))),(2,some [.mo (vG mS vZ (((jK B 2 i k).1).kn))]),(3,some [.mo (vG mY vZ (((jK B 2 i k).1).os))]),(4,some (bm jL (((jK B 2 i k).1).us)))]) [0,1,2,3,4] [0] (fA 2 i k B hB (.inr ⟨by decide,by decide,hi,hk⟩))<|zM<|zF) ?_
   rw[bSum_3 h1 h2]
   refine jE ⟨vR (by kernel_rfl),xX (by kernel_rfl),.inl ⟨_,(.tmp (d:=(.val (.int .i64 ((jK B 2 i k).2)))) rfl .nil),?_⟩⟩
   rfl
theorem e_dif(i:Int)(k:Int)(B:uT)(hB:RBI B)(hi:gV B i)(hk:gV B k):yG prog 64 [(.ref 0 0),(vi i),(vi k)] [(0,some [(.own 1 72 7 B.tm.length),(.mp 2),(.mp 3),(.own 4 3 1 B.us.length),(vb B.ov)]),(1,some (uD jN B.tm)),(2,some [.mo (vG mS vZ B.kn)]),(3,some [.mo (vG mY vZ B.os)]),(4,some (bm jL B.us))] (.d (.val (.int .i64 ((qV B i k).2)))) [(0,some [(.own 1 72 7 (((qV B i k).1).tm.length)),(.mp 2),(.mp 3),(.own 4 3 1 (((qV B i k).1).us.length)),(vb (((qV B i k).1).ov))]),(1,some (uD jN (((qV B i k).1).tm))),(2,some [.mo (vG mS vZ (((qV B i k).1).kn))]),(3,some [.mo (vG mY vZ (((qV B i k).1).os))]),(4,some (bm jL (((qV B i k).1).us)))]:=by
 have hbl:=hB.hl
 have hbu:=hB.hu
 refine gW func64 rfl cb64 rfl ?_
 refine jB<|kx [] [] (zM<|zZ) ?_
 refine jB<|jH<|jB<|kf [(7,(vb (bIs B k 0)))] [(0,some [(.own 1 72 7 B.tm.length),(.mp 2),(.mp 3),(.own 4 3 1 B.us.length),(vb B.ov)]),(1,some (uD jN B.tm)),(2,some [.mo (vG mS vZ B.kn)]),(3,some [.mo (vG mY vZ B.os)]),(4,some (bm jL B.us))] (zM<|zM<|zSe (B2:=[(0,some [(.own 1 72 7 B.tm.length),(.mp 2),(.mp 3),(.own 4 3 1 B.us.length),(vb B.ov)]),(1,some (uD jN B.tm)),(2,some [.mo (vG mS vZ B.kn)]),(3,some [.mo (vG mY vZ B.os)]),(4,some (bm jL B.us))]) (B2':=[(0,some [(.own 1 72 7 B.tm.length),(.mp 2),(.mp 3),(.own 4 3 1 B.us.length),(vb B.ov)]),(1,some (uD jN B.tm)),(2,some [.mo (vG mS vZ B.kn)]),(3,some [.mo (vG mY vZ B.os)]),(4,some (bm jL B.us))]) [0,1,2,3,4] [0] (e_is k 0 B hB hk (by omega) (by omega))<|zM<|zF) ?_
 refine jD (b:=(bIs B k 0)) rfl (λh1=>?_) (λh1=>?_)
 ·refine jB<|kx [(6,(vi i))] [] (zM<|zM<|zZ) ?_
  rw[bDif_1 h1]
  refine jE ⟨vR (by kernel_rfl),xX (by kernel_rfl),.inl ⟨_,(.tmp (d:=(.val (.int .i64 (i)))) rfl .nil),?_⟩⟩
  rfl
 ·refine jB<|kf [(12,(vb (bIs B i 0)))] [(0,some [(.own 1 72 7 B.tm.length),(.mp 2),(.mp 3),(.own 4 3 1 B.us.length),(vb B.ov)]),(1,some (uD jN B.tm)),(2,some [.mo (vG mS vZ B.kn)]),(3,some [.mo (vG mY vZ B.os)]),(4,some (bm jL B.us))] (zM<|zM<|zSe (B2:=[(0,some [(.own 1 72 7 B.tm.length),(.mp 2),(.mp 3),(.own 4 3 1 B.us.length),(vb B.ov)]),(1,some (uD jN B.tm)),(2,some [.mo (vG mS vZ B.kn)]),(3,some [.mo (vG mY vZ B.os)]),(4,some (bm jL B.us))]) (B2':=[(0,some [(.own 1 72 7 B.tm.length),(.mp 2),(.mp 3),(.own 4 3 1 B.us.length),(vb B.ov)]),(1,some (uD jN B.tm)),(2,some [.mo (vG mS vZ B.kn)]),(3,some [.mo (vG mY vZ B.os)]),(4,some (bm jL B.us))]) [0,1,2,3,4] [0] (e_is i 0 B hB hi (by omega) (by omega))<|zM<|zF) ?_
  refine jD (b:=(bIs B i 0)) rfl (λh2=>?_) (λh2=>?_)
  ·refine jB<|kf [(6,(vi ((jK B 6 k 0).2)))] [(0,some [(.own 1 72 7 (((jK B 6 k 0).1).tm.length)),(.mp 2),(.mp 3),(.own 4 3 1 (((jK B 6 k 0).1).us.length)),(vb (((jK B 6 k 0).1).ov))]),(1,some (uD jN (((jK B 6 k 0).1).tm))),(2,some [.mo (vG mS vZ (((jK B 6 k 0).1).kn))]),(3,some [.mo (vG mY vZ (((jK B 6 k 0).1).os))]),(4,some (bm jL (((jK B 6 k 0).1).us)))] (zM<|zM<|zSe (B2:=[(0,some [(.own 1 72 7 B.tm.length),(.mp 2),(.mp 3),(.own 4 3 1 B.us.length),(vb B.ov)]),(1,some (uD jN B.tm)),(2,some [.mo (vG mS vZ B.kn)]),(3,some [.mo (vG mY vZ B.os)]),(4,some (bm jL B.us))]) (B2':=[(0,some [(.own 1 72 7 (((jK B 6 k 0).1).tm.length)),(.mp 2),(.mp 3),(.own 4 3 1 (((jK B 6 k 0).1).us.length)),(vb (((jK B 6 k 0).1).ov))]),(1,some (uD jN (((jK B 6 k 0).1).tm))),(2,some [.mo (vG mS vZ (((jK B 6 k 0).1).kn))]),(3,some [.mo (vG mY vZ (((jK B 6 k 0).1).os))]),(4,some (bm jL (((jK B 6 k 0).1).us)))]) [0,1,2,3,4] [0] (fA 6 k 0 B hB (.inr ⟨by decide,by decide,hk,hk.pos⟩))<|zM<|zF) ?_
   rw[bDif_2 h1 h2]
   refine jE ⟨vR (by kernel_rfl),xX (by kernel_rfl),.inl ⟨_,(.tmp (d:=(.val (.int .i64 ((jK B 6 k 0).2)))) rfl .nil),?_⟩⟩
   rfl
  ·refine jF<|jB<|kf [(6,(vi ((jK B 3 i k).2)))] [(0,some [(.own 1 72 7 (((jK B 3 i k).1).tm.length)),(.mp 2),(.mp 3),(.own 4 3 1 (((jK B 3 i k).1).us.length)),(vb (((jK B 3 i k).1).ov))]),(1,some (uD jN (((jK B 3 i k).1).tm))),(2,some [.mo (vG mS vZ (((jK B 3 i k).1).kn))]),(3,some [.mo (vG mY vZ (((jK B 3 i k).1).os))]),(4,some (bm jL (((jK B 3 i k).1).us)))] (zM<|zM<|zM<|zSe (B2:=[(0,some [(.own 1 72 7 B.tm.length),(.mp 2),(.mp 3),(.own 4 3 1 B.us.length),(vb B.ov)]),(1,some (uD jN B.tm)),(2,some [.mo (vG mS vZ B.kn)]),(3,some [.mo (vG mY vZ B.os)]),(4,some (bm jL B.us))]) (B2':=[(0,some [(.own 1 72 7 (((jK B 3 i k).1).tm.length)),(.mp 2),(.mp 3),(.own 4 3 1 (((jK B 3 i k).1).us.length)),(vb (((jK B 3 i k).1).ov))]),(1,some (uD jN (((jK B 3 i k).1).tm))),(2,some [.mo (vG mS vZ (((jK B 3 i k).1).kn))]),(3,some [.mo (vG mY vZ (((jK B 3 i k).1).os))]),(4,some (bm jL (((jK B 3 i k).1).us)))]) [0,1,2,3,4] [0] (fA 3 i k B hB (.inr ⟨by decide,by decide,hi,hk⟩))<|zM<|zF) ?_
   rw[bDif_3 h1 h2]
   refine jE ⟨vR (by kernel_rfl),xX (by kernel_rfl),.inl ⟨_,(.tmp (d:=(.val (.int .i64 ((jK B 3 i k).2)))) rfl .nil),?_⟩⟩
   rfl
theorem e_prd(i:Int)(k:Int)(B:uT)(hB:RBI B)(hi:gV B i)(hk:gV B k):yG prog 65 [(.ref 0 0),(vi i),(vi k)] [(0,some [(.own 1 72 7 B.tm.length),(.mp 2),(.mp 3),(.own 4 3 1 B.us.length),(vb B.ov)]),(1,some (uD jN B.tm)),(2,some [.mo (vG mS vZ B.kn)]),(3,some [.mo (vG mY vZ B.os)]),(4,some (bm jL B.us))] (.d (.val (.int .i64 ((kA B i k).2)))) [(0,some [(.own 1 72 7 (((kA B i k).1).tm.length)),(.mp 2),(.mp 3),(.own 4 3 1 (((kA B i k).1).us.length)),(vb (((kA B i k).1).ov))]),(1,some (uD jN (((kA B i k).1).tm))),(2,some [.mo (vG mS vZ (((kA B i k).1).kn))]),(3,some [.mo (vG mY vZ (((kA B i k).1).os))]),(4,some (bm jL (((kA B i k).1).us)))]:=by
 have hbl:=hB.hl
 have hbu:=hB.hu
 refine gW func65 rfl cb65 rfl ?_
 refine jB<|kx [] [] (zM<|zZ) ?_
 refine jB<|jH<|jB<|kf [(7,(vb ((bIs B i 0)||(bIs B k 1))))] [(0,some [(.own 1 72 7 B.tm.length),(.mp 2),(.mp 3),(.own 4 3 1 B.us.length),(vb B.ov)]),(1,some (uD jN B.tm)),(2,some [.mo (vG mS vZ B.kn)]),(3,some [.mo (vG mY vZ B.os)]),(4,some (bm jL B.us))] ?_ ?_
 ·refine zM<|zM<|zSe (B2:=[(0,some [(.own 1 72 7 B.tm.length),(.mp 2),(.mp 3),(.own 4 3 1 B.us.length),(vb B.ov)]),(1,some (uD jN B.tm)),(2,some [.mo (vG mS vZ B.kn)]),(3,some [.mo (vG mY vZ B.os)]),(4,some (bm jL B.us))]) (B2':=[(0,some [(.own 1 72 7 B.tm.length),(.mp 2),(.mp 3),(.own 4 3 1 B.us.length),(vb B.ov)]),(1,some (uD jN B.tm)),(2,some [.mo (vG mS vZ B.kn)]),(3,some [.mo (vG mY vZ B.os)]),(4,some (bm jL B.us))]) [0,1,2,3,4] [0] (e_is i 0 B hB hi (by omega) (by omega))<|zE (oV (vb (bIs B i 0)) (qA (by kernel_rfl)))<|?_
  rcases hb1:(bIs B i 0) with _ | _
  ·exact zM<|zM<|zSe (B2:=[(0,some [(.own 1 72 7 B.tm.length),(.mp 2),(.mp 3),(.own 4 3 1 B.us.length),(vb B.ov)]),(1,some (uD jN B.tm)),(2,some [.mo (vG mS vZ B.kn)]),(3,some [.mo (vG mY vZ B.os)]),(4,some (bm jL B.us))]) (B2':=[(0,some [(.own 1 72 7 B.tm.length),(.mp 2),(.mp 3),(.own 4 3 1 B.us.length),(vb B.ov)]),(1,some (uD jN B.tm)),(2,some [.mo (vG mS vZ B.kn)]),(3,some [.mo (vG mY vZ B.os)]),(4,some (bm jL B.us))]) [0,1,2,3,4] [0] (e_is k 1 B hB hk (by omega) (by omega))<|zE aK<|zM<|zF
  ·exact zK<|zK<|zK<|zE nO<|zM<|zF
 refine jD (b:=((bIs B i 0)||(bIs B k 1))) rfl (λh2=>?_) (λh2=>?_)
 ·refine jB<|kx [(6,(vi i))] [] (zM<|zM<|zZ) ?_
  rw[bPrd_1 h2]
  refine jE ⟨vR (by kernel_rfl),xX (by kernel_rfl),.inl ⟨_,(.tmp (d:=(.val (.int .i64 (i)))) rfl .nil),?_⟩⟩
  rfl
 ·refine jB<|kf [(17,(vb ((bIs B k 0)||(bIs B i 1))))] [(0,some [(.own 1 72 7 B.tm.length),(.mp 2),(.mp 3),(.own 4 3 1 B.us.length),(vb B.ov)]),(1,some (uD jN B.tm)),(2,some [.mo (vG mS vZ B.kn)]),(3,some [.mo (vG mY vZ B.os)]),(4,some (bm jL B.us))] ?_ ?_
  ·refine zM<|zM<|zSe (B2:=[(0,some [(.own 1 72 7 B.tm.length),(.mp 2),(.mp 3),(.own 4 3 1 B.us.length),(vb B.ov)]),(1,some (uD jN B.tm)),(2,some [.mo (vG mS vZ B.kn)]),(3,some [.mo (vG mY vZ B.os)]),(4,some (bm jL B.us))]) (B2':=[(0,some [(.own 1 72 7 B.tm.length),(.mp 2),(.mp 3),(.own 4 3 1 B.us.length),(vb B.ov)]),(1,some (uD jN B.tm)),(2,some [.mo (vG mS vZ B.kn)]),(3,some [.mo (vG mY vZ B.os)]),(4,some (bm jL B.us))]) [0,1,2,3,4] [0] (e_is k 0 B hB hk (by omega) (by omega))<|zE (oV (vb (bIs B k 0)) (qA (by kernel_rfl)))<|?_
   rcases hb3:(bIs B k 0) with _ | _
   ·exact zM<|zM<|zSe (B2:=[(0,some [(.own 1 72 7 B.tm.length),(.mp 2),(.mp 3),(.own 4 3 1 B.us.length),(vb B.ov)]),(1,some (uD jN B.tm)),(2,some [.mo (vG mS vZ B.kn)]),(3,some [.mo (vG mY vZ B.os)]),(4,some (bm jL B.us))]) (B2':=[(0,some [(.own 1 72 7 B.tm.length),(.mp 2),(.mp 3),(.own 4 3 1 B.us.length),(vb B.ov)]),(1,some (uD jN B.tm)),(2,some [.mo (vG mS vZ B.kn)]),(3,some [.mo (vG mY vZ B.os)]),(4,some (bm jL B.us))]) [0,1,2,3,4] [0] (e_is i 1 B hB hi (by omega) (by omega))<|zE aK<|zM<|zF
   ·exact zK<|zK<|zK<|zE nO<|zM<|zF
  refine jD (b:=((bIs B k 0)||(bIs B i 1))) rfl (λh4=>?_) (λh4=>?_)
  ·refine jB<|kx [(6,(vi k))] [] (zM<|zM<|zZ) ?_
   rw[bPrd_2 h2 h4]
   refine jE ⟨vR (by kernel_rfl),xX (by kernel_rfl),.inl ⟨_,(.tmp (d:=(.val (.int .i64 (k)))) rfl .nil),?_⟩⟩
   rfl
  ·refine jF<|jB<|kf [(6,(vi ((jK B 4 i k).2)))] [(0,some [(.own 1 72 7 (((jK B 4 i k).1).tm.length)),(.mp 2),(.mp 3),(.own 4 3 1 (((jK B 4 i k).1).us.length)),(vb (((jK B 4 i k).1).ov))]),(1,some (uD jN (((jK B 4 i k).1).tm))),(2,some [.mo (vG mS vZ (((jK B 4 i k).1).kn))]),(3,some [.mo (vG mY vZ (((jK B 4 i k).1).os))]),(4,some (bm jL (((jK B 4 i k).1).us)))] (zM<|zM<|zM<|zSe (B2:=[(0,some [(.own 1 72 7 B.tm.length),(.mp 2),(.mp 3),(.own 4 3 1 B.us.length),(vb B.ov)]),(1,some (uD jN B.tm)),(2,some [.mo (vG mS vZ B.kn)]),(3,some [.mo (vG mY vZ B.os)]),(4,some (bm jL B.us))]) (B2':=[(0,some [(.own 1 72 7 (((jK B 4 i k).1).tm.length)),(.mp 2),(.mp 3),(.own 4 3 1 (((jK B 4 i k).1).us.length)),(vb (((jK B 4 i k).1).ov))]),(1,some (uD jN (((jK B 4 i k).1).tm))),(2,some [.mo (vG mS vZ (((jK B 4 i k).1).kn))]),(3,some [.mo (vG mY vZ (((jK B 4 i k).1).os))]),(4,some (bm jL (((jK B 4 i k).1).us)))]) [0,1,2,3,4] [0] (fA 4 i k B hB (.inr ⟨by decide,by decide,hi,hk⟩))<|zM<|zF) ?_
   rw[bPrd_3 h2 h4]
   refine jE ⟨vR (by kernel_rfl),xX (by kernel_rfl),.inl ⟨_,(.tmp (d:=(.val (.int .i64 ((jK B 4 i k).2)))) rfl .nil),?_⟩⟩
   rfl
theorem by4:zJ prog 4=some 1:=by kernel_rfl
theorem el131:uU prog 131=some (4,1):=by kernel_rfl
theorem qN:uX prog 72 1=some 1:=by kernel_rfl
theorem vE:uX prog 72 2=some 2:=by kernel_rfl
theorem ze4:xH prog 4=some [.bool false]:=by kernel_rfl
theorem zo4:eO [.bool false] [.val (.bool false)]:=by simp [eO,Value.oneCell']
theorem p_trim(t:List jS)(m:Nat)(hm:m<t.length)(hl:t.length<=400)(hT:OrdT t):jP prog 68 [(.sl 72 7 (map jN t)),(.val (.int .i64 (((m:Nat):Int))))] (.sl 72 7 (map jN (yY t m))):=by
 refine vD func68 ?_
 refine jB<|kx [] [] (zE (aN 72 7)<|zZ) ?_
 refine jB<|kx [(5,(.own 0 4 1 t.length))] [(0,some (bm aH (replicate t.length false)))] (zM<|zE (yA zY)<|zN (oMk 0 aH (false:Bool) t.length t.length el131 ze4 zo4 by4)<|zM<|zZ) ?_
 refine jB<|kx [] [(0,some (bm aH ((replicate t.length false).set m true)))] (zM<|zM<|zE (yF el131 m)<|zT (fF aT m true)<|zZ) ?_
 refine jB<|jB<|kx [(6,(kE m))] [] (zM<|zM<|zZ) ?_
 refine jH<|kR (α:=Int × List Bool) (λ(z,nd)=>⟨[(0,(vl 72 7 jN t)),(1,(kE m)),(5,(.own 0 4 1 t.length)),(6,(vi z))],[(0,some (bm aH nd))]⟩) (λ(z,nd)=>z<=(m:Int)/\-1<=z/\nd.length=t.length/\ndL t nd (z+1).toNat=ndA t m) (λ(z,nd)=>(z+1).toNat) ((m:Int),(replicate t.length false).set m true) wk ⟨Int.le_refl _,by omega,by rw[length_set,length_replicate],by rw[show ((m:Int)+1).toNat=m+1 by omega];rfl⟩ ?_
 rintro ⟨z,nd⟩ ⟨hzm,hz1,hnl,hnd⟩
 refine jB<|jB<|kx [(21,(vb (decide (0<=z))))] [] (zM<|zE oGe<|zZ) ?_
 refine jD (b:=decide (0<=z)) rfl (λh1=>?_) (λh1=>?_)
 ·replace h1:=vF h1
  have hz0:0<=z:=h1
  refine jF<|jB<|jH<|jB<|jB<|kx [(28,(vb (!(nd.getD ((z).toNat) false))))] [] (zM<|zM<|zE (yF el131 ((z).toNat))<|zR (fE aT ((z).toNat) (false:Bool))<|zE cU<|zZ) ?_
  refine jD (b:=!(nd.getD ((z).toNat) false)) rfl (λh2=>?_) (λh2=>?_)
  ·refine kO<|kx [(6,(vi (z-1)))] [] (zM<|zE (zSb (z-1))<|zM<|zZ) ?_
   exact ⟨(z-1,nd),wk,⟨by omega,by omega,hnl,ndL_step hz0 hnd (ndS_n h2)⟩,(by first|omega|(dsimp only;omega))⟩
  ·have hne:=h2
   refine jF<|jB<|kx [(7,(vi (qB ((t.getD ((z).toNat) tz).op))))] [] (zM<|zM<|zE (cB zY ((z).toNat) (tz:jS))<|zE (oFc xN)<|zE (dK cN)<|zE (kB (j_kids ((t.getD ((z).toNat) tz).op)))<|zM<|zZ) ?_
   refine jB<|kx [(36,(vb (decide (0<(qB ((t.getD ((z).toNat) tz).op))))))] [] (zM<|zE eR<|zZ) ?_
   refine jD rfl (λh3=>?_) (λh3=>?_)
   ·replace h3:=vF h3
    have hk0:=h3
    obtain ⟨ha0,ha1⟩:=(hT z.toNat (by omega)).1 h3
    refine jB<|kx [] [(0,some (bm aH (nd.set (((t.getD ((z).toNat) tz).a).toNat) true)))] (zM<|zM<|zM<|zE (cB zY ((z).toNat) (tz:jS))<|zE (oFc qN)<|zE (dK uN)<|zE (yF el131 (((t.getD ((z).toNat) tz).a).toNat))<|zT (fF aT (((t.getD ((z).toNat) tz).a).toNat) true)<|zZ) ?_
    refine jB<|kx [(45,(vb (decide (1<(qB ((t.getD ((z).toNat) tz).op))))))] [] (zM<|zE eR<|zZ) ?_
    refine jD rfl (λh4=>?_) (λh4=>?_)
    ·replace h4:=vF h4
     obtain ⟨hb0,hb1⟩:=(hT z.toNat (by omega)).2 h4
     have hnl2:(nd.set (t.getD z.toNat tz).a.toNat true).length=t.length:=by rw[length_set];exact hnl
     refine kx [] [(0,some (bm aH ((nd.set (((t.getD ((z).toNat) tz).a).toNat) true).set (((t.getD ((z).toNat) tz).b).toNat) true)))] (zM<|zM<|zM<|zE (cB zY ((z).toNat) (tz:jS))<|zE (oFc vE)<|zE (dK uN)<|zE (yF el131 (((t.getD ((z).toNat) tz).b).toNat))<|zT (fF aT (((t.getD ((z).toNat) tz).b).toNat) true)<|zZ) ?_
     refine kx [(6,(vi (z-1)))] [] (zM<|zE (zSb (z-1))<|zM<|zZ) ?_
     exact ⟨(z-1,(nd.set (t.getD z.toNat tz).a.toNat true).set (t.getD z.toNat tz).b.toNat true),wk,⟨by omega,by omega,by rw[length_set,length_set];exact hnl,ndL_step hz0 hnd (ndS_2 hne hk0 h4)⟩,(by first|omega|(dsimp only;omega))⟩
    ·replace h4:=vT h4
     refine jF<|kx [(6,(vi (z-1)))] [] (zM<|zE (zSb (z-1))<|zM<|zZ) ?_
     exact ⟨(z-1,nd.set (t.getD z.toNat tz).a.toNat true),wk,⟨by omega,by omega,by rw[length_set];exact hnl,ndL_step hz0 hnd (ndS_1 hne hk0 h4)⟩,(by first|omega|(dsimp only;omega))⟩
   ·replace h3:=vT h3
    refine jF<|kx [(6,(vi (z-1)))] [] (zM<|zE (zSb (z-1))<|zM<|zZ) ?_
    exact ⟨(z-1,nd),wk,⟨by omega,by omega,hnl,ndL_step hz0 hnd (ndS_0 hne h3)⟩,(by first|omega|(dsimp only;omega))⟩
 ·replace h1:=vT h1
  have hnd2:=ndL_end h1 hnd
  refine kO<|jB<|kx [(8,(.own 1 3 1 t.length))] [(1,some (bm jL (replicate t.length 0)))] (zM<|zE (yA zY)<|zH (oMk 1 jL (0:Int) t.length t.length uR ze3 zo3 by3)<|zM<|zZ) ?_
  refine jB<|kx [(9,(.own 2 72 7 0))] [(2,some (uD jN []))] (zOh 2 72 7<|zZ) ?_
  refine jB<|jB<|kx [(59,(vl 72 7 jN (List.take (m+1) t))),(60,(kE (m+1))),(61,(kE 0))] [] (zM<|zM<|zE (xO (m+1))<|zE (e_slc (l:=0) (h:=(m+1)) (kl:=.i64) (kh:=.i64) (es':=map jN (List.take (m+1) t)) (by exact rfl) zY (by exact rfl) (by exact rfl) (by exact rfl) (Nat.zero_le _) (by simp only[length_map];omega) (by rw[drop_zero,map_take]))<|zE (oLn zY (m+1) (hr:=by exact (by rw[length_map,length_take];congr 2;omega)))<|zM<|zZ) ?_
  refine jH<|kR (α:=Nat × List Int × List jS) (λ(k,nm,o)=>⟨[(5,(.own 0 4 1 t.length)),(8,(.own 1 3 1 t.length)),(9,(.own 2 72 7 o.length)),(59,(vl 72 7 jN (List.take (m+1) t))),(60,(kE (m+1))),(61,(kE k))],[(0,some (bm aH nd)),(1,some (bm jL nm)),(2,some (uD jN o))]⟩) (λ(k,nm,o)=>k<=m+1/\tmF t nd k=(nm,o)) (λ(k,nm,o)=>m+1-k) (0,replicate t.length 0,[]) wk ⟨Nat.zero_le _,rfl⟩ ?_
  rintro ⟨k,nm,o⟩ ⟨hk,hf⟩
  obtain ⟨hml,hol⟩:=tm_lenk hf
  refine jB<|kx [(62,(vb (decide (((k:Nat):Int)<(((m+1):Nat):Int)))))] [] (zE gX<|zZ) ?_
  refine jB<|jD rfl (λh5=>?_) (λh5=>?_)
  ·replace h5:=vF h5
   have hkm:k<m+1:=by omega
   refine jF<|jB<|jH<|jB<|kx [(10,(kE k)),(11,(.ref 3 0))] [(3,some (bx (jN (t.getD k tz))))] (zM<|zE (cB zY k (tz:jS) (L:=(List.take (m+1) t)) (hj:=by first | omega | (rw[length_take];omega) | (simp only[length_take];omega)) (h1:=by first | omega | (rw[length_take];omega) | (simp only[length_take];omega)))<|zE (oQd (jN ((List.take (m+1) t).getD k tz)) (jN (t.getD k tz)) (mR cT) (by exact (by rw[show (List.take (m+1) t).getD k tz=t.getD k tz from take_getDr t tz hkm])))<|zH (vB 3 dW fZ)<|zM<|zT (qL cT)<|zZ) ?_
   refine jB<|jB<|kx [(70,(vb (!(nd.getD k false))))] [] (zM<|zM<|zE (yF el131 k)<|zR (fE aT k (false:Bool))<|zE cU<|zZ) ?_
   refine jD (b:=!(nd.getD k false)) rfl (λh6=>?_) (λh6=>?_)
   ·refine kO<|kx [(61,(kE (k+1)))] [] (zE (xO (k+1))<|zM<|zZ) ?_
    exact ⟨(k+1,nm,o),wk,⟨by omega,tmF_n hf h6⟩,(by first|omega|(dsimp only;omega))⟩
   ·have hne:=h6
    refine jF<|jB<|jB<|kx [(12,(vi (qB ((t.getD k tz).op))))] [] (zE (kK xN)<|zR (qH cN)<|zE (kB (j_kids ((t.getD k tz).op)))<|zM<|zZ) ?_
    refine jB<|kx [(75,(vb (decide (0<(qB ((t.getD k tz).op))))))] [] (zM<|zE eR<|zZ) ?_
    refine jD (b:=decide (0<(qB ((t.getD k tz).op)))) rfl (λh7=>?_) (λh7=>?_)
    ·replace h7:=vF h7
     have hk0:=h7
     obtain ⟨ha0,ha1⟩:=(hT k (by omega)).1 h7
     refine jB<|kx [] [(3,some (bx (jN (jS.mk ((t.getD k tz).op) (nm.getD (((t.getD k tz).a).toNat) 0) ((t.getD k tz).b) ((t.getD k tz).n)))))] (zM<|zE (kK qN)<|zR (qH uN)<|zE (yF uR (((t.getD k tz).a).toNat))<|zR (fE uN (((t.getD k tz).a).toNat) (0:Int))<|zE (kK qN)<|zT (qL uN)<|zZ) ?_
     refine jB<|kx [(83,(vb (decide (1<(qB ((t.getD k tz).op))))))] [] (zM<|zE eR<|zZ) ?_
     refine jD (b:=decide (1<(qB ((t.getD k tz).op)))) rfl (λh8=>?_) (λh8=>?_)
     ·replace h8:=vF h8
      obtain ⟨hb0,hb1⟩:=(hT k (by omega)).2 h8
      refine kx [] [(3,some (bx (jN (jS.mk ((t.getD k tz).op) (nm.getD (((t.getD k tz).a).toNat) 0) (nm.getD (((t.getD k tz).b).toNat) 0) ((t.getD k tz).n)))))] (zM<|zE (kK vE)<|zR (qH uN)<|zE (yF uR (((t.getD k tz).b).toNat))<|zR (fE uN (((t.getD k tz).b).toNat) (0:Int))<|zE (kK vE)<|zT (qL uN)<|zZ) ?_
      refine jB<|kx [] [(1,some (bm jL (nm.set k ((o.length:Nat):Int))))] (zM<|zM<|zM<|zE (oLo zY)<|zE (yF uR k)<|zT (fF uN k (((o.length:Nat):Int)))<|zZ) ?_
      refine kf [(9,(.own 2 72 7 ((o++[(jS.mk ((t.getD k tz).op) (nm.getD (((t.getD k tz).a).toNat) 0) (nm.getD (((t.getD k tz).b).toNat) 0) ((t.getD k tz).n))]).length)))] [(2,some (uD jN (o++[(jS.mk ((t.getD k tz).op) (nm.getD (((t.getD k tz).a).toNat) 0) (nm.getD (((t.getD k tz).b).toNat) 0) ((t.getD k tz).n))])))] (zM<|zR (kP cT)<|zE (fC zY dW fZ)<|zAS jN o [(jS.mk ((t.getD k tz).op) (nm.getD (((t.getD k tz).a).toNat) 0) (nm.getD (((t.getD k tz).b).toNat) 0) ((t.getD k tz).n))] rfl zY dW by72<|zM<|zF) ?_
      refine kx [(61,(kE (k+1)))] [] (zE (xO (k+1))<|zM<|zZ) ?_
      exact ⟨(k+1,nm.set k ((o.length:Nat):Int),o++[jS.mk (t.getD k tz).op (nm.getD (t.getD k tz).a.toNat 0) (nm.getD (t.getD k tz).b.toNat 0) (t.getD k tz).n]),wk,⟨by omega,tmF_y hf hne (rnN_2 hk0 h8)⟩,(by first|omega|(dsimp only;omega))⟩
     ·replace h8:=vT h8
      refine jF<|jB<|kx [] [(1,some (bm jL (nm.set k ((o.length:Nat):Int))))] (zM<|zM<|zM<|zE (oLo zY)<|zE (yF uR k)<|zT (fF uN k (((o.length:Nat):Int)))<|zZ) ?_
      refine kf [(9,(.own 2 72 7 ((o++[(jS.mk ((t.getD k tz).op) (nm.getD (((t.getD k tz).a).toNat) 0) ((t.getD k tz).b) ((t.getD k tz).n))]).length)))] [(2,some (uD jN (o++[(jS.mk ((t.getD k tz).op) (nm.getD (((t.getD k tz).a).toNat) 0) ((t.getD k tz).b) ((t.getD k tz).n))])))] (zM<|zR (kP cT)<|zE (fC zY dW fZ)<|zAS jN o [(jS.mk ((t.getD k tz).op) (nm.getD (((t.getD k tz).a).toNat) 0) ((t.getD k tz).b) ((t.getD k tz).n))] rfl zY dW by72<|zM<|zF) ?_
      refine kx [(61,(kE (k+1)))] [] (zE (xO (k+1))<|zM<|zZ) ?_
      exact ⟨(k+1,nm.set k ((o.length:Nat):Int),o++[jS.mk (t.getD k tz).op (nm.getD (t.getD k tz).a.toNat 0) (t.getD k tz).b (t.getD k tz).n]),wk,⟨by omega,tmF_y hf hne (rnN_1 hk0 h8)⟩,(by first|omega|(dsimp only;omega))⟩
    ·replace h7:=vT h7
     refine jF<|jB<|kx [] [(1,some (bm jL (nm.set k ((o.length:Nat):Int))))] (zM<|zM<|zM<|zE (oLo zY)<|zE (yF uR k)<|zT (fF uN k (((o.length:Nat):Int)))<|zZ) ?_
     refine kf [(9,(.own 2 72 7 ((o++[(t.getD k tz)]).length)))] [(2,some (uD jN (o++[(t.getD k tz)])))] (zM<|zR (kP cT)<|zE (fC zY dW fZ)<|zAS jN o [(t.getD k tz)] rfl zY dW by72<|zM<|zF) ?_
     refine kx [(61,(kE (k+1)))] [] (zE (xO (k+1))<|zM<|zZ) ?_
     exact ⟨(k+1,nm.set k ((o.length:Nat):Int),o++[(t.getD k tz)]),wk,⟨by omega,tmF_y hf hne (rnN_0 h7)⟩,(by first|omega|(dsimp only;omega))⟩
  ·replace h5:=vT h5
   refine kO<|jB<|kx [(4,(.own 2 72 7 o.length))] [] (zM<|zM<|zZ) ?_
   refine kS (xY (t:=4) (k:=2) (es:=map jN o) rfl rfl (gO _ _ (λ_=>rfl)) (vK _ _ rfl) (mA jN o (λ_=>rfl) rfl)) ?_
   refine jE ⟨_,(.tmp (d:=(.sl 72 7 (map jN o))) rfl .nil),?_⟩
   rw[show yY t m=o from by unfold yY;rw[<- hnd2,<- show k=m+1 by omega,hf]];rfl
theorem cb60:callB prog 60=true:=by kernel_rfl
theorem pl103:eL prog 103=some [(0,1),(1,1),(2,1),(3,1),(4,1)]:=by kernel_rfl
theorem ze103:xH prog 103=some [.slice none 0 0,.map none,.map none,.slice none 0 0,.bool false]:=by kernel_rfl
theorem zn103:eO [.slice none 0 0,.map none,.map none,.slice none 0 0,.bool false] [.val (.slice none 0 0),.val (.map none),.val (.map none),.val (.slice none 0 0),.val (.bool false)]:=by simp [eO,Value.oneCell']
theorem e_newb :yG prog 60 [] [] (.ref 0 0) [(0,some [(.own 1 72 7 rb0.tm.length),(.mp 2),(.mp 3),(.own 4 3 1 rb0.us.length),(vb rb0.ov)]),(1,some (uD jN rb0.tm)),(2,some [.mo (vG mS vZ rb0.kn)]),(3,some [.mo (vG mY vZ rb0.os)]),(4,some (bm jL rb0.us))]:=by
 refine gW func60 rfl cb60 rfl ?_
 refine jB<|kx [] [] (zM<|zZ) ?_
 refine jB<|kS (wk (l:=[]) (b:=[])) ?_
 refine kr_cutm 2 [(1,.mp 2),(2,.mp 3)] [(3,some [.mo (vG mY vZ [])]),(2,some [.mo (vG mS vZ [])])] [(0,.ref 0 0)] ((0,some [.d (.val (.slice none 0 0)),.mp 2,.mp 3,.d (.val (.slice none 0 0)),.d (.val (.bool false))])::[(3,some [.mo (vG mY vZ [])]),(2,some [.mo (vG mS vZ [])])]) 1 2 (zN (oMm 2 mS vZ)<|zN (oMm 3 mY vZ)<|zI (sim_get (fW (by kernel_rfl)) (λ_ _ h=>h))) rfl rfl (λb b'=>zE (oOm 1 (k:=2) (b:=b) (oOm 2 (k:=3) (b:=b') (iS pl103 ze103 zn103)))<|zN (xD 0)<|zM<|zI (cell_mps5 0 1 2 rfl rfl (by exact rfl) (by kernel_rfl) rfl)) ?_
 refine kS (wk (l:=[(0,(.ref 0 0))]) (b:=[(0,some [(.d (.val (.slice none 0 0))),(.mp 2),(.mp 3),(.d (.val (.slice none 0 0))),(vb false)]),(2,some [.mo (vG mS vZ [])]),(3,some [.mo (vG mY vZ [])])])) ?_
 refine lP 0 0 1 72 7 (cs:=[(.d (.val (.slice none 0 0))),(.mp 2),(.mp 3),(.d (.val (.slice none 0 0))),(vb false)]) (h:=?_)
 refine kS (wk (l:=[(0,(.ref 0 0))]) (b:=[(0,some [(.own 1 72 7 0),(.mp 2),(.mp 3),(.d (.val (.slice none 0 0))),(vb false)]),(1,some (uD jN [])),(2,some [.mo (vG mS vZ [])]),(3,some [.mo (vG mY vZ [])])])) ?_
 refine lP 0 3 4 3 1 (cs:=[(.own 1 72 7 0),(.mp 2),(.mp 3),(.d (.val (.slice none 0 0))),(vb false)]) (h:=?_)
 refine kS (wk (l:=[(0,(.ref 0 0))]) (b:=[(0,some [(.own 1 72 7 0),(.mp 2),(.mp 3),(.own 4 3 1 0),(vb false)]),(1,some (uD jN [])),(2,some [.mo (vG mS vZ [])]),(3,some [.mo (vG mY vZ [])]),(4,some (bm jL []))])) ?_
 exact jE ⟨vR (by kernel_rfl),xX (by kernel_rfl),.inr (.inl ⟨0,rfl,rfl⟩)⟩
theorem yI:uX prog 46 0=some 0:=by kernel_rfl
theorem vS:uX prog 46 1=some 8:=by kernel_rfl
theorem fo113_2:uX prog 113 2=some 2:=by kernel_rfl
theorem mE:qD prog 43=some (false,1):=by kernel_rfl
theorem sh67:qD prog 67=some (false,1):=by kernel_rfl
theorem j_round(n:Nat)(x:jY)(a:R2)(ha:GL 67108864 a):jP prog 170 [(.cptr 1000000 (jY.cells (mcA n x false)) 0),(jG (kF a))] (jG (kF a)):=by
 refine vD func170 ?_
 refine jB<|kx [(3,(.ref 0 0)),(4,(.ref 1 0))] [(0,some (bx (jG (kF a)))),(1,some (bx (jG (jX.mk qX qX))))] (zN (xD 0)<|zN (vB 1 uQ uV)<|zZ) ?_
 refine jB<|jB<|kx [(9,(vb true))] [] (zM<|zE oNd<|zE (oFc fo113_2)<|zE (dK uN)<|zE (nA true gX)<|zZ) ?_
 refine yP ?_
 refine jB<|kx [] [(1,some (bx (jG (kF a))))] (zR (kP jW)<|zT (qL jW)<|zZ) ?_
 refine jE ⟨_,(kM (cs:=(bx (jG (kF a)))) (d:=(jG (kF a))) rfl rfl jW rfl rfl .nil),?_⟩
 rfl
theorem j_vAdd(n:Nat)(u:JV)(hu:aW 1048576 n u)(v:JV)(hv:aW 1048576 n v):jP prog 124 [(.cptr 1000000 (jY.cells (.val (.func (.func 131) #[] #[]))) 0),(.cptr 1000000 (jY.cells (jR (nI u))) 0),(.cptr 1000000 (jY.cells (jR (nI v))) 0)] (jG (kF (qE u.v v.v))):=by
 refine vD func124 ?_
 refine jB<|kx [(3,(.ref 0 0))] [(0,some (bx (jG (jX.mk qX qX))))] (zN (vB 0 uQ uV)<|zZ) ?_
 refine jB<|kx [] [(0,some (bx (jG (kF (qE u.v v.v)))))] (zE (dK sh67)<|zE (oFc yI)<|zE (mR jW)<|zE (oFc yI)<|zE (mR jW)<|zE (kB (j_add u.v (kU hu.1) v.v (kU hv.1)))<|zT (qL jW)<|zZ) ?_
 refine jE ⟨_,(kM (cs:=(bx (jG (kF (qE u.v v.v))))) (d:=(jG (kF (qE u.v v.v)))) rfl rfl jW rfl rfl .nil),?_⟩
 rfl
theorem j_gAdd(wp:jY)(i:Nat)(n:Nat)(u:JV)(hu:aW 1048576 n u)(v:JV)(hv:aW 1048576 n v)(hi:i<n):jP prog 125 [(wp),(.val (.int .i64 (((i:Nat):Int)))),(.cptr 1000000 (jY.cells (.val (.func (.func 131) #[] #[]))) 0),(.cptr 1000000 (jY.cells (jR (nI u))) 0),(.cptr 1000000 (jY.cells (jR (nI v))) 0)] (jG (kF (qE (u.g.getD i z2) (v.g.getD i z2)))):=by
 have hul:=hu.2.2
 have hvl:=hv.2.2
 refine vD func125 ?_
 refine jB<|kx [(7,(.ref 0 0))] [(0,some (bx (jG (jX.mk qX qX))))] (zN (vB 0 uQ uV)<|zZ) ?_
 refine jB<|kd [] [(0,some (bx (jG (kF (qE (u.g.getD i z2) (v.g.getD i z2))))))] mo (wE (dK sh67)<|wE (oFc vS)<|wE (dK mE)<|wM<|wE (iO xK kF i z2)<|wE (mR jW)<|wE (oFc vS)<|wE (dK mE)<|wM<|wE (iO xK kF i z2)<|wE (mR jW)<|wE (kB (j_add (u.g.getD i z2) (kU (uH hu.2.1 (by decide) i)) (v.g.getD i z2) (kU (uH hv.2.1 (by decide) i))))<|wT (qL jW)<|wZ) ?_
 refine jE ⟨_,(kM (cs:=(bx (jG (kF (qE (u.g.getD i z2) (v.g.getD i z2)))))) (d:=(jG (kF (qE (u.g.getD i z2) (v.g.getD i z2))))) rfl rfl jW rfl rfl .nil),?_⟩
 rfl
theorem j_vV(bv:List R2)(hbx:∀ x∈bv,GL 1048576 x)(a:Nat)(ha:a<bv.length)(hbl:bv.length<=1000000):jP prog 129 [(.cptr 1000000 (jY.cells (.sl 42 8 (map jG (map kF bv)))) 0),(.cptr 1000000 (jY.cells (jN (jS.mk 1 ((a:Nat):Int) 0 qX))) 0)] (jG (kF (bv.getD a z2))):=by
 refine vD func129 ?_
 refine jB<|kx [(2,(.ref 0 0))] [(0,some (bx (jG (jX.mk qX qX))))] (zN (vB 0 uQ uV)<|zZ) ?_
 refine jB<|kx [] [(0,some (bx (jG (kF (bv.getD a z2)))))] (zE (dK mE)<|zE (oFc qN)<|zE (dK uN)<|zE (iO xK kF a z2 (hj:=by first | omega | rfl | (dsimp only;omega)) (h1:=by first | omega | rfl | (dsimp only;omega)))<|zE (mR jW)<|zT (qL jW)<|zZ) ?_
 refine jE ⟨_,(kM (cs:=(bx (jG (kF (bv.getD a z2))))) (d:=(jG (kF (bv.getD a z2)))) rfl rfl jW rfl rfl .nil),?_⟩
 rfl
theorem j_gV(wp:jY)(i:Nat)(a:Nat)(zz:R2)(hzz:GL 3 zz):jP prog 130 [(wp),(.val (.int .i64 (((i:Nat):Int)))),(.cptr 1000000 (jY.cells (jN (jS.mk 1 ((a:Nat):Int) 0 qX))) 0),(.cptr 1000000 (jY.cells (jG (kF zz))) 0)] (jG (kF (if ((i:Nat):Int)=((a:Nat):Int) then gw 1 else zz))):=by
 refine vD func130 ?_
 refine jB<|kx [(6,(.ref 0 0))] [(0,some (bx (jG (jX.mk qX qX))))] (zN (vB 0 uQ uV)<|zZ) ?_
 refine jB<|jB<|kx [(10,(vb (((i:Nat):Int) == ((a:Nat):Int))))] [] (zM<|zE (oFc qN)<|zE (dK uN)<|zE xL<|zZ) ?_
 refine jD (b:=(((i:Nat):Int) == ((a:Nat):Int))) rfl (λh1=>?_) (λh1=>?_)
 ·replace h1:=eq_of_beq h1
  refine jB<|kx [] [(0,some (bx (jG (kF (gw 1)))))] (zE (kB (j_whole 1 (by omega) (by omega)))<|zT (qL jW)<|zZ) ?_
  refine jE ⟨_,(kM (cs:=(bx (jG (kF (gw 1))))) (d:=(jG (kF (gw 1)))) rfl rfl jW rfl rfl .nil),?_⟩
  rw[if_pos h1];rfl
 ·replace h1:=ne_of_beq_false h1
  refine jF<|jB<|kx [] [(0,some (bx (jG (kF zz))))] (zE (mR jW)<|zT (qL jW)<|zZ) ?_
  refine jE ⟨_,(kM (cs:=(bx (jG (kF zz)))) (d:=(jG (kF zz))) rfl rfl jW rfl rfl .nil),?_⟩
  rw[if_neg h1];rfl
theorem j_vM(n:Nat)(u:JV)(hu:aW 1048576 n u)(v:JV)(hv:aW 1048576 n v):jP prog 134 [(.cptr 1000000 (jY.cells (jR (nI u))) 0),(.cptr 1000000 (jY.cells (jR (nI v))) 0)] (jG (kF (kL u.v v.v))):=by
 refine vD func134 ?_
 refine jB<|kx [(2,(.ref 0 0))] [(0,some (bx (jG (jX.mk qX qX))))] (zN (vB 0 uQ uV)<|zZ) ?_
 refine jB<|kx [] [(0,some (bx (jG (kF (kL u.v v.v)))))] (zE (oFc yI)<|zE (mR jW)<|zE (oFc yI)<|zE (mR jW)<|zE (kB (j_mul u.v (kU hu.1) v.v (kU hv.1)))<|zT (qL jW)<|zZ) ?_
 refine jE ⟨_,(kM (cs:=(bx (jG (kF (kL u.v v.v))))) (d:=(jG (kF (kL u.v v.v)))) rfl rfl jW rfl rfl .nil),?_⟩
 rfl
theorem j_gM(wp:jY)(i:Nat)(n:Nat)(u:JV)(hu:aW 1048576 n u)(v:JV)(hv:aW 1048576 n v)(hi:i<n):jP prog 136 [(wp),(.val (.int .i64 (((i:Nat):Int)))),(.cptr 1000000 (jY.cells (jR (nI u))) 0),(.cptr 1000000 (jY.cells (jR (nI v))) 0)] (jG (kF (qE (kL u.v (v.g.getD i z2)) (kL v.v (u.g.getD i z2))))):=by
 have hul:=hu.2.2
 have hvl:=hv.2.2
 refine vD func136 ?_
 refine jB<|kx [(6,(.ref 0 0))] [(0,some (bx (jG (jX.mk qX qX))))] (zN (vB 0 uQ uV)<|zZ) ?_
 refine jB<|kd [] [(0,some (bx (jG (kF (qE (kL u.v (v.g.getD i z2)) (kL v.v (u.g.getD i z2)))))))] mo (wE (oFc yI)<|wE (mR jW)<|wE (oFc vS)<|wE (dK mE)<|wM<|wE (iO xK kF i z2)<|wE (mR jW)<|wE (kB (j_mul u.v (kU hu.1) (v.g.getD i z2) (kU (uH hv.2.1 (by decide) i))))<|wE (oFc yI)<|wE (mR jW)<|wE (oFc vS)<|wE (dK mE)<|wM<|wE (iO xK kF i z2)<|wE (mR jW)<|wE (kB (j_mul v.v (kU hv.1) (u.g.getD i z2) (kU (uH hu.2.1 (by decide) i))))<|wE (kB (j_add (kL u.v (v.g.getD i z2)) (kU (uM (k:=2097152) hu.1 (uH hv.2.1 (by decide) i))) (kL v.v (u.g.getD i z2)) (kU (uM (k:=2097152) hv.1 (uH hu.2.1 (by decide) i)))))<|wT (qL jW)<|wZ) ?_
 refine jE ⟨_,(kM (cs:=(bx (jG (kF (qE (kL u.v (v.g.getD i z2)) (kL v.v (u.g.getD i z2))))))) (d:=(jG (kF (qE (kL u.v (v.g.getD i z2)) (kL v.v (u.g.getD i z2)))))) rfl rfl jW rfl rfl .nil),?_⟩
 rfl
theorem j_vQ(n:Nat)(u:JV)(hu:aW 1048576 n u):jP prog 138 [(.cptr 1000000 (jY.cells (jR (nI u))) 0)] (jG (kF (gsq u.v))):=by
 refine vD func138 ?_
 refine jB<|kx [(1,(.ref 0 0))] [(0,some (bx (jG (jX.mk qX qX))))] (zN (vB 0 uQ uV)<|zZ) ?_
 refine jB<|kx [] [(0,some (bx (jG (kF (gsq u.v)))))] (zE (oFc yI)<|zE (mR jW)<|zE (kB (j_sq u.v (kU hu.1)))<|zT (qL jW)<|zZ) ?_
 refine jE ⟨_,(kM (cs:=(bx (jG (kF (gsq u.v))))) (d:=(jG (kF (gsq u.v)))) rfl rfl jW rfl rfl .nil),?_⟩
 rfl
theorem j_gQ(wp:jY)(i:Nat)(tt:R2)(htt:GL 3 tt)(n:Nat)(u:JV)(hu:aW 1048576 n u)(hi:i<n):jP prog 140 [(wp),(.val (.int .i64 (((i:Nat):Int)))),(.cptr 1000000 (jY.cells (jG (kF tt))) 0),(.cptr 1000000 (jY.cells (jR (nI u))) 0)] (jG (kF (kL tt (kL u.v (u.g.getD i z2))))):=by
 have hul:=hu.2.2
 refine vD func140 ?_
 refine jB<|kx [(6,(.ref 0 0))] [(0,some (bx (jG (jX.mk qX qX))))] (zN (vB 0 uQ uV)<|zZ) ?_
 refine jB<|kd [] [(0,some (bx (jG (kF (kL tt (kL u.v (u.g.getD i z2)))))))] mo (wE (mR jW)<|wE (oFc yI)<|wE (mR jW)<|wE (oFc vS)<|wE (dK mE)<|wM<|wE (iO xK kF i z2)<|wE (mR jW)<|wE (kB (j_mul u.v (kU hu.1) (u.g.getD i z2) (kU (uH hu.2.1 (by decide) i))))<|wE (kB (j_mul tt (kU htt) (kL u.v (u.g.getD i z2)) (kU (uM (k:=2097152) hu.1 (uH hu.2.1 (by decide) i)))))<|wT (qL jW)<|wZ) ?_
 refine jE ⟨_,(kM (cs:=(bx (jG (kF (kL tt (kL u.v (u.g.getD i z2))))))) (d:=(jG (kF (kL tt (kL u.v (u.g.getD i z2)))))) rfl rfl jW rfl rfl .nil),?_⟩
 rfl
end Go.Proofs.YtckccjhflbljgaaGreatDoor
