/- Part 14 of a proof: rules, plain facts, and functions walked. -/
import Derived.Test.YtckccjhflbljgaaGreatDoorM13
import Derived.Test.YtckccjhflbljgaaGreatDoorM8
import Derived.Test.YtckccjhflbljgaaGreatDoorM10
set_option linter.all false
set_option maxRecDepth 4000
namespace Go.Proofs.YtckccjhflbljgaaGreatDoor
open Go.Fid
theorem cb178:callB Tryz.prog 178=true:=by kernel_rfl
theorem pl30:eF Tryz.prog 30=some [(0,1),(1,1)]:=by kernel_rfl
theorem qZ:qD Tryz.prog 3=some (false,1):=by kernel_rfl
theorem zD:qD Tryz.prog 28=some (false,1):=by kernel_rfl
theorem kB:qD Tryz.prog 30=some (true,2):=by kernel_rfl
theorem sh137:qD Tryz.prog 137=some (false,1):=by kernel_rfl
theorem ze3:vX Tryz.prog 3=some [.int .i64 0]:=by kernel_rfl
theorem nN:vX Tryz.prog 30=some [.bool false,.slice none 0 0]:=by kernel_rfl
theorem ze137:vX Tryz.prog 137=some [.int .u64 0]:=by kernel_rfl
theorem zo3:eL [.int .i64 0] [.val (.int .i64 0)]:=by simp [eL,Value.oneCell']
theorem nL:eL [.bool false,.slice none 0 0] [.val (.bool false),.sl 107 1 []]:=by simp [eL,Value.oneCell']
theorem zo137:eL [.int .u64 0] [.val (.int .u64 0)]:=by simp [eL,Value.oneCell']
theorem t_isnan_int(a:Int):jQ Tryz.prog 177 [(.val (.int .i64 (a)))] (.val (.bool (false))):=by
 refine uR Tryz.func177 ?_
 refine jB<|kx [] [] (zM<|zZ) ?_
 refine jB<|kx [(2,(vb (a != a)))] [] (zM<|zM<|zE cK<|zM<|zZ) ?_
 refine jF ⟨_,(.tmp (d:=(.val (.bool ((a != a))))) rfl .nil),?_⟩
 simp [retD]
theorem t_cmp_int(a b:Int):jQ Tryz.prog 152 [(.val (.int .i64 (a))),(.val (.int .i64 (b)))] (.val (.int .i64 ((uT a b)))):=by
 refine uR Tryz.func152 ?_
 refine jB<|kx [] [] (zM<|zZ) ?_
 refine jB<|kx [(5,(vb false))] [] (zM<|zE (jY (t_isnan_int a))<|zM<|zZ) ?_
 refine jB<|kx [(6,(vb false))] [] (zM<|zE (jY (t_isnan_int b))<|zM<|zZ) ?_
 refine jB<|jB<|kx [(11,(vb false))] [] (zM<|zZ) ?_
 refine qE ?_
 refine jD<|jB<|jB<|kx [(13,(vb false))] [] (zM<|zZ) ?_
 refine qE ?_
 refine jD<|jB<|jB<|kx [(16,(vb (decide (a<b))))] [] (zM<|zM<|zE gZ<|zZ) ?_
 refine jE (b:=decide (a<b)) rfl (fun h1=>?_) (fun h1=>?_)
 ·replace h1:=vY h1
  refine jB<|kx [(4,(vi (-1)))] [] (zM<|zZ) ?_
  refine jF ⟨_,(.tmp (d:=(.val (.int .i64 (-1)))) rfl .nil),?_⟩
  rw[show uT a b=-1 from if_pos h1];rfl
 ·replace h1:=xC h1
  refine jD<|jB<|jB<|kx [(19,(vb (decide (b<a))))] [] (zM<|zM<|zE dV<|zZ) ?_
  refine jE (b:=decide (b<a)) rfl (fun h2=>?_) (fun h2=>?_)
  ·replace h2:=vY h2
   refine jB<|kx [(4,(kF 1))] [] (zM<|zZ) ?_
   refine jF ⟨_,(.tmp (d:=(.val (.int .i64 (1)))) rfl .nil),?_⟩
   rw[aN h2];rfl
  ·replace h2:=xC h2
   refine jD<|jB<|kx [(4,(kF 0))] [] (zM<|zZ) ?_
   refine jF ⟨_,(.tmp (d:=(.val (.int .i64 (0)))) rfl .nil),?_⟩
   rw[cmpI_eq h1 h2];rfl
theorem t_isnan_uint32(a:Nat):jQ Tryz.prog 204 [(.val (.int .u32 (((a:Nat):Int))))] (.val (.bool (false))):=by
 refine uR Tryz.func204 ?_
 refine jB<|kx [] [] (zM<|zZ) ?_
 refine jB<|kx [(2,(vb (((a:Nat):Int) != ((a:Nat):Int))))] [] (zM<|zM<|zE cK<|zM<|zZ) ?_
 refine jF ⟨_,(.tmp (d:=(.val (.bool ((((a:Nat):Int) != ((a:Nat):Int)))))) rfl .nil),?_⟩
 simp [retD]
theorem t_cmp_uint32(a b:Nat):jQ Tryz.prog 179 [(.val (.int .u32 (((a:Nat):Int)))),(.val (.int .u32 (((b:Nat):Int))))] (.val (.int .i64 ((uT ((a:Nat):Int) ((b:Nat):Int))))):=by
 refine uR Tryz.func179 ?_
 refine jB<|kx [] [] (zM<|zZ) ?_
 refine jB<|kx [(5,(vb false))] [] (zM<|zE (jY (t_isnan_uint32 a))<|zM<|zZ) ?_
 refine jB<|kx [(6,(vb false))] [] (zM<|zE (jY (t_isnan_uint32 b))<|zM<|zZ) ?_
 refine jB<|jB<|kx [(11,(vb false))] [] (zM<|zZ) ?_
 refine qE ?_
 refine jD<|jB<|jB<|kx [(13,(vb false))] [] (zM<|zZ) ?_
 refine qE ?_
 refine jD<|jB<|jB<|kx [(16,(vb (decide (((a:Nat):Int)<((b:Nat):Int)))))] [] (zM<|zM<|zE gZ<|zZ) ?_
 refine jE rfl (fun h1=>?_) (fun h1=>?_)
 ·replace h1:=vY h1
  refine jB<|kx [(4,(vi (-1)))] [] (zM<|zZ) ?_
  refine jF ⟨_,(.tmp (d:=(.val (.int .i64 (-1)))) rfl .nil),?_⟩
  rw[show uT ((a:Nat):Int) ((b:Nat):Int)=-1 from if_pos h1];rfl
 ·replace h1:=xC h1
  refine jD<|jB<|jB<|kx [(19,(vb (decide (((b:Nat):Int)<((a:Nat):Int)))))] [] (zM<|zM<|zE dV<|zZ) ?_
  refine jE rfl (fun h2=>?_) (fun h2=>?_)
  ·replace h2:=vY h2
   refine jB<|kx [(4,(kF 1))] [] (zM<|zZ) ?_
   refine jF ⟨_,(.tmp (d:=(.val (.int .i64 (1)))) rfl .nil),?_⟩
   rw[aN h2];rfl
  ·replace h2:=xC h2
   refine jD<|jB<|kx [(4,(kF 0))] [] (zM<|zZ) ?_
   refine jF ⟨_,(.tmp (d:=(.val (.int .i64 (0)))) rfl .nil),?_⟩
   rw[cmpI_eq h1 h2];rfl
theorem eB(neg:Bool)(l:List Nat)(hd:Dig l)(hb:l.length<=17592186044416):jQ Tryz.prog 155 [(.val (.bool (neg))),(.sl 107 1 (List.map jC l))] (jR (xI neg (val l))):=by
 refine uR Tryz.func155 ?_
 refine jB<|kx [(4,(.ref 0 0))] [(0,some (bx (jR (kS.mk false []))))] (zN (vH 0 nN nL)<|zZ) ?_
 refine jB<|kx [(1,(vl 107 1 jC (ofNat (val l))))] [] (zM<|zE (jY (t_trim l (by assumption) (by omega)))<|zM<|zZ) ?_
 refine jB<|jB<|kx [(9,(vb ((((ofNat (val l)).length:Nat):Int) == 0)))] [] (zM<|zE (xW kG (L:=(ofNat (val l))))<|zE xU<|zZ) ?_
 refine jE rfl (fun h1=>?_) (fun h1=>?_)
 ·replace h1:=eq_of_beq h1
  refine jB<|kx [] [(0,some (bx (jR (kS.mk false []))))] (zE (oBd pl30 nN nL)<|zT (qJ kB)<|zZ) ?_
  refine jF ⟨_,(kR (cs:=(bx (jR (kS.mk false [])))) (d:=(jR (kS.mk false []))) rfl rfl kB rfl rfl .nil),?_⟩
  rw[mkI_zero h1];rfl
 ·replace h1:=ne_of_beq_false h1
  refine jD<|jB<|kx [] [(0,some (bx (jR (kS.mk neg (ofNat (val l))))))] (zM<|zM<|zE (oBd pl30 nN nL)<|zT (qJ kB)<|zZ) ?_
  refine jF ⟨_,(kR (cs:=(bx (jR (kS.mk neg (ofNat (val l)))))) (d:=(jR (kS.mk neg (ofNat (val l))))) rfl rfl kB rfl rfl .nil),?_⟩
  rw[mkI_pos h1];rfl
theorem t_word(l:List Nat)(hd:Dig l):jQ Tryz.prog 154 [(.sl 107 1 (List.map jC l))] (.tup [(.val (.int .u64 ((((yJ l):Nat):Int)))),(.val (.bool ((mO l))))]):=by
 refine uR Tryz.func154 ?_
 refine jB<|kx [(2,(gE 0)),(3,(vb false))] [] (zM<|zM<|zZ) ?_
 refine jB<|jB<|kx [(9,(vb (decide (2<((l.length:Nat):Int)))))] [] (zM<|zE (xW kG)<|zE dV<|zZ) ?_
 refine jE (b:=decide (2<((l.length:Nat):Int))) rfl (fun h1=>?_) (fun h1=>?_)
 ·replace h1:=vY h1
  refine jB<|kx [(2,(gE 0)),(3,(vb false))] [] (zM<|zM<|zZ) ?_
  refine jF ⟨_,(.tmp (d:=(.val (.int .u64 (0)))) rfl (.tmp (d:=(.val (.bool (false)))) rfl .nil)),?_⟩
  rw[show yJ l=0 from if_neg (by omega),show mO l=false from decide_eq_false (by omega)];rfl
 ·replace h1:=xC h1
  have h2:l.length<=2:=by omega
  refine jD<|jB<|kx [(4,(.ref 0 0))] [(0,some (bx (.val (.int .u64 (0)))))] (zN (vH 0 ze137 zo137)<|zT (qJ sh137)<|zZ) ?_
  refine jB<|pwp_backL backs cb178 rfl 5 jC l 0 (fun n=>⟨[(2,(gE 0)),(3,(vb false)),(4,(.ref 0 0))],[(0,some (bx (.val (.int .u64 (((n:Nat):Int))))))]⟩) (fun (j:Nat) n=>n=val (l.drop (l.length-j))) 0 rfl rfl rfl rfl rfl rfl rfl rfl rfl rfl rfl rfl (fun _=>rfl) (fun _=>rfl) wk (by simp [val]) (by omega) ?_ ?_
  ·rintro rl j n hj hn
   have hw:=word_bound hd hj h2
   rw[<- hn] at hw
   have hg:=hd.getD (l.length-1-j)
   refine kx [(6,(iJ (l.getD (l.length-1-j) 0)))] [] (zM<|zZ) ?_
   refine jH<|kx [] [(0,some (bx (.val (.int .u64 (((((n*1000000000)+(l.getD (l.length-1-j) 0)):Nat):Int))))))] (zR (qH sh137)<|zE (oMl (n*1000000000))<|zM<|zE (cB yM yI (l.getD (l.length-1-j) 0))<|zE (vT ((n*1000000000)+(l.getD (l.length-1-j) 0)))<|zT (qJ sh137)<|zZ) ?_
   exact ⟨n*1000000000+l.getD (l.length-1-j) 0,wk,(by dsimp only;rw[bK l j hj,<- hn];omega)⟩
  ·rintro n hn
   refine jB<|kx [(2,(gE n)),(3,(vb true))] [] (zR (qH sh137)<|zM<|zM<|zZ) ?_
   refine jF ⟨_,(.tmp (d:=(.val (.int .u64 (((n:Nat):Int))))) rfl (.tmp (d:=(.val (.bool (true)))) rfl .nil)),?_⟩
   rw[show yJ l=n by rw[hn,Nat.sub_self,List.drop_zero];exact if_pos h2,show mO l=true from decide_eq_true h2];rfl
theorem t_compare(a b:List Nat)(ha:yY a)(hb:yY b)(hla:a.length<=17592186044416):jQ Tryz.prog 153 [(.sl 107 1 (List.map jC a)),(.sl 107 1 (List.map jC b))] (.val (.int .i64 ((uT ((val a:Nat):Int) ((val b:Nat):Int))))):=by
 refine uR Tryz.func153 ?_
 refine jB<|kx [(3,(.ref 0 0)),(4,(.ref 1 0))] [(0,some (bx (.sl 107 1 (List.map jC b)))),(1,some (bx (.val (.int .i64 (0)))))] (zN (xO 0)<|zN (vH 1 ze3 zo3)<|zZ) ?_
 refine jB<|jB<|kx [(11,(vb (((a.length:Nat):Int) != ((b.length:Nat):Int))))] [] (zM<|zE (xW kG)<|zR (qH zD)<|zE (xW kG)<|zE cK<|zZ) ?_
 refine jE rfl (fun h1=>?_) (fun h1=>?_)
 ·replace h1:=bne_iff_ne.1 h1
  refine jB<|kx [] [(1,some (bx (.val (.int .i64 ((uT ((a.length:Nat):Int) ((b.length:Nat):Int)))))))] (zM<|zE (xW kG)<|zR (qH zD)<|zE (xW kG)<|zE (jY (t_cmp_int ((a.length:Nat):Int) ((b.length:Nat):Int)))<|zT (qJ qZ)<|zZ) ?_
  refine jF ⟨_,(res_1 (cs:=(bx (.val (.int .i64 ((uT ((a.length:Nat):Int) ((b.length:Nat):Int))))))) (d:=(.val (.int .i64 ((uT ((a.length:Nat):Int) ((b.length:Nat):Int)))))) rfl rfl qZ rfl rfl .nil),?_⟩
  rw[<- cmpI_len ha hb h1];rfl
 ·replace h1:=bne_eq_false_iff_eq.1 h1
  have hl:a.length=b.length:=by omega
  refine jD<|jB<|pwp_backL backs cb178 rfl 5 jC a 0 (fun _=>⟨[(3,(.ref 0 0)),(4,(.ref 1 0))],[(0,some (bx (.sl 107 1 (List.map jC b)))),(1,some (bx (.val (.int .i64 (0)))))]⟩) (fun (j:Nat) _=>val (a.drop (a.length-j))=val (b.drop (a.length-j))) () rfl rfl rfl rfl rfl rfl rfl rfl rfl rfl rfl rfl (fun _=>rfl) (fun _=>rfl) wk (by rw[Nat.sub_zero,List.drop_length,hl,List.drop_length]) (by omega) ?_ ?_
  ·rintro rl j ⟨⟩ hj he
   refine jB<|kx [(5,(kF (a.length-1-j)))] [] (zM<|zZ) ?_
   refine kx [(6,(iJ (a.getD (a.length-1-j) 0)))] [] (zM<|zZ) ?_
   refine jH<|jB<|kx [(26,(vb ((((a.getD (a.length-1-j) 0):Nat):Int) != (((b.getD (a.length-1-j) 0):Nat):Int))))] [] (zM<|zR (qH zD)<|zM<|zE (cT kG (a.length-1-j) (0:Nat))<|zE (nY qL)<|zE cK<|zZ) ?_
   refine jE rfl (fun h2=>?_) (fun h2=>?_)
   ·replace h2:=bne_iff_ne.1 h2
    refine jB<|kx [] [(1,some (bx (.val (.int .i64 ((uT (((a.getD (a.length-1-j) 0):Nat):Int) (((b.getD (a.length-1-j) 0):Nat):Int)))))))] (zM<|zR (qH zD)<|zM<|zE (cT kG (a.length-1-j) (0:Nat))<|zE (nY qL)<|zE (jY (t_cmp_uint32 (a.getD (a.length-1-j) 0) (b.getD (a.length-1-j) 0)))<|zT (qJ qZ)<|zZ) ?_
    refine jF ⟨⟨[(4,(.ref 1 0))],[(1,some (bx (.val (.int .i64 ((uT (((a.getD (a.length-1-j) 0):Nat):Int) (((b.getD (a.length-1-j) 0):Nat):Int)))))))]⟩,wk,keys_of rfl,⟨_,(res_1 (cs:=(bx (.val (.int .i64 ((uT (((a.getD (a.length-1-j) 0):Nat):Int) (((b.getD (a.length-1-j) 0):Nat):Int))))))) (d:=(.val (.int .i64 ((uT (((a.getD (a.length-1-j) 0):Nat):Int) (((b.getD (a.length-1-j) 0):Nat):Int)))))) rfl rfl qZ rfl rfl .nil),?_⟩⟩
    rw[<- cmpI_top ha.1 hb.1 hl hj he h2];rfl
   ·replace h2:=bne_eq_false_iff_eq.1 h2
    refine jD ?_
    exact ⟨(),wk,(by dsimp only;have e1:=bK a j hj;have e2:=bK b j (by omega);rw[<- hl] at e2;rw[e1,e2,he];omega)⟩
  ·rintro ⟨⟩ he
   refine jB<|kx [] [(1,some (bx (.val (.int .i64 (0)))))] (zT (qJ qZ)<|zZ) ?_
   refine jF ⟨_,(res_1 (cs:=(bx (.val (.int .i64 (0))))) (d:=(.val (.int .i64 (0)))) rfl rfl qZ rfl rfl .nil),?_⟩
   rw[cmpI_same (by rw[Nat.sub_self,List.drop_zero,List.drop_zero] at he;exact he)];rfl
theorem t_split(n:Nat)(hn:n<18446744073709551616):jQ Tryz.prog 156 [(.val (.int .u64 (((n:Nat):Int))))] (.sl 107 1 (List.map jC (ofNat n))):=by
 refine uR Tryz.func156 ?_
 refine jB<|kx [] [] (zE (aY 107 1)<|zZ) ?_
 refine jB<|kx [(3,(.own 0 107 1 0))] [(0,some (bm jC []))] (zO 0 107 1<|zZ) ?_
 refine jB<|jH<|kO (α:=Nat × List Nat) (fun (m,g)=>⟨[(0,(gE m)),(3,(.own 0 107 1 g.length))],[(0,some (bm jC g))]⟩) (fun (m,g)=>m<=n/\g++ofNat m=ofNat n) (fun (m,g)=>m) (n,[]) wk ⟨Nat.le_refl _,by rw[List.nil_append]⟩ ?_
 rintro ⟨m,g⟩ ⟨hm,hg⟩
 have hl:=split_len hg hn
 refine jB<|jB<|kx [(5,(vb (decide (0<((m:Nat):Int)))))] [] (zM<|zE dV<|zZ) ?_
 refine jE (b:=decide (0<((m:Nat):Int))) rfl (fun h1=>?_) (fun h1=>?_)
 ·replace h1:=vY h1
  refine jD<|jB<|jH<|kf [(3,(.own 0 107 1 ((g++[(m % 1000000000)]).length)))] [(0,some (bm jC (g++[(m % 1000000000)])))] (zM<|zM<|zE (oRe (m % 1000000000))<|zE (cB nA gJ (m % 1000000000))<|zE (eY kG vQ yQ)<|zA jC g [(m % 1000000000)] rfl kG vQ mB<|zM<|zF) ?_
  refine kx [(0,(gE (m / 1000000000)))] [] (zM<|zE (oQu (m / 1000000000))<|zM<|zZ) ?_
  exact ⟨(m / 1000000000,g++[m % 1000000000]),wk,⟨by omega,split_step hg h1⟩,(by first|omega|(dsimp only;omega))⟩
 ·replace h1:=xC h1
  refine kL<|jB<|qG (yG (t:=3) (k:=0) (es:=List.map jC g) rfl rfl (vW _ _ (fun _=>rfl)) (xR _ _ rfl) (xY _ _ (fun _=>rfl) rfl)) ?_
  refine kx [(2,(vl 107 1 jC g))] [] (zM<|zM<|zZ) ?_
  refine jF ⟨_,(.tmp (d:=(.sl 107 1 (List.map jC g))) rfl .nil),?_⟩
  rw[split_end hg h1];rfl
theorem vK:uU Tryz.prog 30 0=some 0:=by kernel_rfl
theorem vG:uU Tryz.prog 30 1=some 1:=by kernel_rfl
theorem aU:qD Tryz.prog 4=some (false,1):=by kernel_rfl
theorem t_big(a:Nat):jQ Tryz.prog 150 [(.val (.int .u32 (((a:Nat):Int))))] (.val (.bool ((decide (1000000000<=((a:Nat):Int)))))):=by
 refine uR Tryz.func150 ?_
 refine jB<|kx [] [] (zM<|zZ) ?_
 refine jB<|kx [(2,(vb (decide (1000000000<=((a:Nat):Int)))))] [] (zM<|zE oGe<|zM<|zZ) ?_
 refine jF ⟨_,(.tmp (d:=(.val (.bool (decide (1000000000<=((a:Nat):Int)))))) rfl .nil),?_⟩
 rfl
theorem t_index(l:List Nat)(hb:l.length<=17592186044416):jQ Tryz.prog 176 [(.sl 107 1 (List.map jC l)),(.val (.func (.func 150) #[] #[]))] (.val (.int .i64 ((xN l)))):=by
 refine uR Tryz.func176 ?_
 refine jB<|kx [] [] (zM<|zZ) ?_
 refine jB<|jB<|kx [(7,(kF l.length)),(8,(kF 0))] [] (zM<|zE (xW kG)<|zM<|zZ) ?_
 refine jH<|kO (α:=Nat) (fun i=>⟨[(0,(vl 107 1 jC l)),(1,(.d (.val (.func (.func 150) #[] #[])))),(7,(kF l.length)),(8,(kF i))],[]⟩) (fun i=>i<=l.length/\Dig (l.take i)) (fun i=>l.length-i) 0 wk ⟨Nat.zero_le _,gL⟩ ?_
 rintro i ⟨hi,hd⟩
 refine jB<|kx [(9,(vb (decide (((i:Nat):Int)<((l.length:Nat):Int)))))] [] (zE gZ<|zZ) ?_
 refine jB<|jE rfl (fun h1=>?_) (fun h1=>?_)
 ·replace h1:=vY h1
  refine jD<|jB<|jH<|jB<|kx [(5,(kF i))] [] (zM<|zM<|zZ) ?_
  refine jB<|kx [(16,(vb (decide (1000000000<=(((l.getD i 0):Nat):Int)))))] [] (zM<|zM<|zM<|zE (cT kG i (0:Nat))<|zE (nY qL)<|zE (jY (t_big (l.getD i 0)))<|zZ) ?_
  refine jE rfl (fun h2=>?_) (fun h2=>?_)
  ·replace h2:=vY h2
   refine jB<|kx [(4,(kF i))] [] (zM<|zM<|zZ) ?_
   refine jF ⟨_,(.tmp (d:=(.val (.int .i64 (((i:Nat):Int))))) rfl .nil),?_⟩
   rw[firstBig_at (by omega) hd (by omega)];rfl
  ·replace h2:=xC h2
   refine jD<|kx [(8,(kF (i+1)))] [] (zE (vT (i+1))<|zM<|zZ) ?_
   exact ⟨(i+1),wk,⟨by omega,dig_take_succ (by omega) hd (by omega)⟩,(by omega)⟩
 ·replace h1:=xC h1
  refine kL<|jB<|kx [(4,(vi (-1)))] [] (zM<|zZ) ?_
  refine jF ⟨_,(.tmp (d:=(.val (.int .i64 (-1)))) rfl .nil),?_⟩
  rw[lJ (by rw[List.take_of_length_le (by omega)] at hd;exact hd)];rfl
theorem t_contains(l:List Nat)(hb:l.length<=17592186044416):jQ Tryz.prog 149 [(.sl 107 1 (List.map jC l)),(.val (.func (.func 150) #[] #[]))] (.val (.bool ((decide (0<=xN l))))):=by
 refine uR Tryz.func149 ?_
 refine jB<|kx [] [] (zM<|zZ) ?_
 refine jB<|kx [(4,(vb (decide (0<=(xN l)))))] [] (zM<|zM<|zE (jY (t_index l (by omega)))<|zE oGe<|zM<|zZ) ?_
 refine jF ⟨_,(.tmp (d:=(.val (.bool (decide (0<=(xN l)))))) rfl .nil),?_⟩
 rfl
theorem t_valid(x:kS)(hb:x.gs.length<=17592186044416):jQ Tryz.prog 83 [(jR x)] (.val (.bool ((uF x)))):=by
 refine uR Tryz.func83 ?_
 refine jB<|kx [(1,(.ref 0 0))] [(0,some (bx (jR x)))] (zN (xO 0)<|zM<|zZ) ?_
 refine jB<|kx [(3,(kF x.gs.length))] [] (zE (kI vG)<|zR (qH zD)<|zE (xW kG)<|zM<|zZ) ?_
 refine jB<|jB<|kx [(8,(vb (((x.gs.length:Nat):Int) == 0)))] [] (zM<|zE xU<|zZ) ?_
 refine jE (b:=(((x.gs.length:Nat):Int) == 0)) rfl (fun h1=>?_) (fun h1=>?_)
 ·replace h1:=eq_of_beq h1
  refine jB<|kx [(2,(vb (!x.neg)))] [] (zE (kI vK)<|zR (qH aU)<|zE yT<|zM<|zZ) ?_
  refine jF ⟨_,(.tmp (d:=(.val (.bool (!x.neg)))) rfl .nil),?_⟩
  rw[show uF x=!x.neg from if_pos h1];rfl
 ·replace h1:=ne_of_beq_false h1
  refine jD<|jB<|kx [(2,(vb (((((x.gs.getD (x.gs.length-1) 0):Nat):Int) != 0)&&!(decide (0<=xN x.gs)))))] [] ?_ ?_
  ·refine zE (kI vG)<|zR (qH zD)<|zM<|zE (oSb (x.gs.length-1))<|zE (cT kG (x.gs.length-1) (0:Nat))<|zE (nY qL)<|zE cK<|zE (oV (vb ((((x.gs.getD (x.gs.length-1) 0):Nat):Int) != 0)) (kW (by kernel_rfl)))<|?_
   rcases hb2:((((x.gs.getD (x.gs.length-1) 0):Nat):Int) != 0) with _ | _
   ·replace hb2:=bne_eq_false_iff_eq.1 hb2
    exact zK<|zK<|zK<|zK<|zE vL<|zM<|zZ
   ·replace hb2:=bne_iff_ne.1 hb2
    exact zE (kI vG)<|zR (qH zD)<|zE (jY (t_contains x.gs (by omega)))<|zE yT<|zE aD<|zM<|zZ
  refine jF ⟨_,(.tmp (d:=(.val (.bool ((((((x.gs.getD (x.gs.length-1) 0):Nat):Int) != 0)&&!(decide (0<=xN x.gs))))))) rfl .nil),?_⟩
  rw[show uF x=_ from if_neg h1];rfl
theorem gQ(x:kS)(hb:x.gs.length<=17592186044416):jQ Tryz.prog 151 [(jR x)] (.sl 107 1 (List.map jC (kJ x))):=by
 refine uR Tryz.func151 ?_
 refine jB<|kx [(1,(.ref 0 0))] [(0,some (bx (jR x)))] (zN (xO 0)<|zE (aY 107 1)<|zZ) ?_
 refine jB<|jB<|kx [(5,(vb (!(uF x))))] [] (zR (kP kB)<|zE (jY (t_valid x (by omega)))<|zE yT<|zZ) ?_
 refine jE (b:=!(uF x)) rfl (fun h1=>?_) (fun h1=>?_)
 ·refine jB<|kx [(2,(vl 107 1 jC []))] [] (zE (aY 107 1)<|zZ) ?_
  refine jF ⟨_,(.tmp (d:=(.sl 107 1 (List.map jC []))) rfl .nil),?_⟩
  rw[show kJ x=[] from if_neg (by simpa using h1)];rfl
 ·refine jD<|jB<|kx [(2,(vl 107 1 jC x.gs))] [] (zE (kI vG)<|zR (qH zD)<|zM<|zZ) ?_
  refine jF ⟨_,(.tmp (d:=(.sl 107 1 (List.map jC x.gs))) rfl .nil),?_⟩
  rw[show kJ x=x.gs from if_pos (by simpa using h1)];rfl
theorem t_clone(l:List Nat)(hb:l.length<=17592186044416):jQ Tryz.prog 158 [(.sl 107 1 (List.map jC l))] (.sl 107 1 (List.map jC l)):=by
 refine uR Tryz.func158 ?_
 refine jB<|kx [] [] (zE (aY 107 1)<|zZ) ?_
 refine jB<|jB<|pwp_nilq rfl rfl rfl rfl rfl rfl kG rfl rfl rfl (fun nb hnb=>?_)
 refine jE (b:=nb) rfl (fun h1=>?_) (fun h1=>?_)
 ·refine jB<|kx [(2,(vl 107 1 jC []))] [] (zE (aY 107 1)<|zZ) ?_
  refine jF ⟨_,(.tmp (d:=(.sl 107 1 (List.map jC []))) rfl .nil),?_⟩
  rw[List.map_eq_nil_iff.1 (hnb h1)];rfl
 ·refine jD<|jB<|kf [(2,(.own 0 107 1 (([]++l).length)))] [(0,some (bm jC ([]++l)))] (zN (oBo 0 kG vQ yQ)<|zM<|zA jC [] l rfl kG vQ mB<|zM<|zF) ?_
  refine qG (yG (t:=2) (k:=0) (es:=List.map jC ([]++l)) rfl rfl (vW _ _ (fun _=>rfl)) (xR _ _ rfl) (xY _ _ (fun _=>rfl) rfl)) ?_
  refine jF ⟨_,(.tmp (d:=(.sl 107 1 (List.map jC ([]++l)))) rfl .nil),?_⟩
  rfl
end Go.Proofs.YtckccjhflbljgaaGreatDoor
namespace Go.Fid
open Go.RowKit (Below)
section
variable {P:Program} {o:Oper} {S:Nat->SV}
theorem e_mkf{f:FuncId}{ks:List Nat}{caps:List Operand}(ho:o.op=.makeFunc (.func f) #[] caps.toArray)(hx:caps.map (ev S)=ks.map (fun k=>.ref k 0)):uN P o S [] (.clo f ks) :=
 uN.same fun a w D β hop _=>by
  refine ⟨.func (.func f) #[] (caps.map a.eval).toArray,?_,caps.map a.eval,rfl,?_,fun i k hk=>?_⟩
  ·simp only[execOp,ho,Instr.makeFunc,Array.map_empty,List.map_toArray,Sem.run_bind,Sem.run_pure,Result.andThen_ok]
   rfl
  ·simpa using congrArg List.length hx
  ·have hi:=congrArg (fun l:List SV=>l[i]?) hx
   simp only[List.getElem?_map,hk,Option.map_some,Option.map_eq_some_iff] at hi
   obtain ⟨c,hc,e⟩:=hi
   have hm:=hop c (by simp [ho,Op.operands,List.mem_of_getElem? hc])
   rw[e] at hm
   obtain ⟨b,h1,h2⟩:=hm
   exact ⟨b,h1,by rw[List.getElem?_map,hc,Option.map_some,h2]⟩
theorem e_clc{y:Operand}{xs:List Operand}{ats:Array TypeId}{f:FuncId}{ds:List jS}{r:jS}{ks:List Nat}{css:List (List jS)}{E:TypeId}{rd:List (Nat × List SV)}
  (hf:jQ P f (ds++css.map (fun cs=>.cptr E cs 0)) r) (ho:o.op=.call { callee:=.value y,args:=xs.toArray,argTypes:=ats }) (hy:ev S y=.clo f ks) (hx:xs.map (ev S)=ds.map .d)
  (hrk:rd=ks.zip (css.map (fun cs=>cs.map SV.d))) (qK:css.length=ks.length) (ha:yP E r):uN P o S rd (.d r) :=
 fun a w D β Q hop hrd hD=>by
  have hyv:=hop y (by simp [ho,Op.operands,Call.operands])
  rw[hy] at hyv
  obtain ⟨vs,hv1,hv2,hv3⟩:=hyv
  have hl:xs.length=ds.length:=by simpa using congrArg List.length hx
  have hargs0:Args w D (xs.map a.eval) ds:=by
   refine ⟨by simpa using hl,fun i v d hv hd=>?_⟩
   rw[List.getElem?_map,Option.map_eq_some_iff] at hv
   obtain ⟨x,hxi,rfl⟩:=hv
   have hm:=hop x (by simp [ho,Op.operands,Call.operands,List.mem_of_getElem? hxi])
   have hi:=congrArg (fun l:List SV=>l[i]?) hx
   simp only[List.getElem?_map,hxi,hd,Option.map_some,Option.some.injEq] at hi
   rw[hi] at hm
   exact hm
  have hrun:(execOp a.eval o).run P w=.ok (.enter f (xs.map a.eval++vs).toArray) w:=by
   simp only[execOp,ho,resolve,Deferred.ofValue,hv1,Sem.run_bind,Sem.run_pure,Result.andThen_ok,invoke,Array.empty_append]
   rw[vM hf.may]
   simp
  -- the private variables are published for the time of the call
  let X:TypeId->Nat->Nat->Prop:=fun t g _=>t=E/\∃ k∈ks,β k=some g
  have hblk:∀ (i:Nat) k cs,ks[i]?=some k->css[i]?=some cs->uD w D β k (cs.map SV.d):=fun i k cs hk hc=>by
   refine hrd (k,cs.map SV.d) ?_
   rw[hrk]
   refine List.mem_of_getElem? (i:=i) ?_
   rw[List.getElem?_zip_eq_some]
   exact ⟨hk,by rw[List.getElem?_map,hc];rfl⟩
  have hcap:∀ (i:Nat) k cs,ks[i]?=some k->css[i]?=some cs->∃ b us T',β k=some b/\vs[i]?=some (.pointer (some ⟨b,0,none⟩))/\w.heap[b]?=some (.cells us T' (0,0)) /\
    (∀ (j:Nat) x,(cs.map SV.d)[j]?=some x->∃ u,us[j]?=some u/\u.oneCell'=true/\kX w D β u x)/\∀ t o,¬ D t b o:=fun i k cs hk hc=>by
   obtain ⟨b,h1,h2⟩:=hv3 i k hk
   rcases hblk i k cs hk hc with g1 | ⟨b',us,T',g1,g2,g3,g4,g5⟩
   ·have g1:=(g1.cells (mI _)).1;rw[h1] at g1;cases g1
   ·obtain rfl:b=b':=by rw[h1] at g1;injection g1
    exact ⟨b,us,T',h1,h2,g2,g4,g5⟩
  have hXb:∀ t g i,X t g i->(∀ t' i',¬ D t' g i')/\g<w.heap.size:=fun t g i ⟨_,k,hk,hb⟩=>by
   obtain ⟨i,hi⟩:=List.getElem?_of_mem hk
   have hlt:i<css.length:=by rw[qK];exact (List.getElem?_eq_some_iff.1 hi).1
   obtain ⟨b,us,T',h1,_,h3,_,h5⟩:=hcap i k _ hi (List.getElem?_eq_getElem hlt)
   obtain rfl:g=b:=by rw[hb] at h1;injection h1
   exact ⟨fun t' i'=>h5 t' i',qV h3⟩
  have hD':iI (fun t g i=>D t g i\/X t g i) w:=hD.more (fun _ _ _ hd=>.inl hd) fun t g i hd=>by
   rcases hd with hd | hd
   ·exact hD.lt _ _ _ hd
   ·exact (hXb t g i hd).2
  have hmono:∀ t' g i,D t' g i->(D t' g i\/X t' g i)/\w.cell? ⟨g,i,none⟩=w.cell? ⟨g,i,none⟩:=fun t' g i hd=>⟨.inl hd,rfl⟩
  have hargs:Args w (fun t g i=>D t g i\/X t g i) (xs.map a.eval++vs) (ds++css.map (fun cs=>.cptr E cs 0)):=by
   refine ⟨by simp [hl,hv2,qK],fun i v d hv hd=>?_⟩
   by_cases hi:i<xs.length
   ·rw[List.getElem?_append_left (by simpa using hi)] at hv
    rw[List.getElem?_append_left (by omega)] at hd
    exact uS.mono hmono (hargs0.2 i v d hv hd)
   ·rw[List.getElem?_append_right (by simpa using hi),List.length_map] at hv
    rw[List.getElem?_append_right (by omega),<- hl] at hd
    rw[List.getElem?_map,Option.map_eq_some_iff] at hd
    obtain ⟨cs,hcs,rfl⟩:=hd
    have hlt:i-xs.length<ks.length:=by rw[<- qK];exact (List.getElem?_eq_some_iff.1 hcs).1
    obtain ⟨b,us,T',h1,h2,h3,h4,h5⟩:=hcap _ _ cs (List.getElem?_eq_getElem hlt) hcs
    rw[h2] at hv
    injection hv with hv
    subst hv
    have hcell:∀ j,w.cell? ⟨b,j,none⟩=us[j]?:=fun j=>cell_of_row w b j us T' (0,0) h3
    have hj:∀ j,j<cs.length->∃ u,us[j]?=some u/\u.oneCell'=true/\uS w D u (cs[j]?.getD (.tup [])):=fun j hj=>by
     obtain ⟨u,q1,q2,q3⟩:=h4 j (.d cs[j]) (by rw[List.getElem?_map,List.getElem?_eq_getElem hj];rfl)
     exact ⟨u,q1,q2,by rw[List.getElem?_eq_getElem hj];exact q3⟩
    refine uS.cptr (off:=0) b 0 (fun j=>us.getD j undef) (fun j _=>.inr ⟨rfl,_,List.getElem_mem hlt,h1⟩) (fun j hj'=>?_) (fun j hj'=>?_) (fun j d hd=>?_)
    ·obtain ⟨u,q1,_,_⟩:=hj j hj'
     rw[Nat.zero_add,hcell,Array.getD_eq_getD_getElem?,q1];rfl
    ·obtain ⟨u,q1,q2,_⟩:=hj j hj'
     rw[Array.getD_eq_getD_getElem?,q1];exact q2
    ·obtain ⟨u,q1,q2,q3⟩:=hj j (List.getElem?_eq_some_iff.1 hd).1
     rw[Array.getD_eq_getD_getElem?,q1]
     rw[hd] at q3
     exact uS.mono hmono q3
  refine mX hrun ((hf.run w _ _ hD' hargs).mono fun e w' h=>?_)
  obtain ⟨v,D2,he,h1,h2,h3⟩:=h
  refine ⟨v,he,v,fun t g i=>D2 t g i/\¬ X t g i,rfl,h1,⟨fun t g i hd=>⟨h2.up _ _ _ (.inl hd),fun hx'=>(hXb t g i hx').1 t i hd⟩,fun t g i hd=>?_⟩,?_⟩
  ·rcases h2.new t g i hd.1 with h | h
   ·rcases h with h | h
    ·exact .inl h
    ·exact absurd h hd.2
   ·exact .inr h
  ·exact ha.rep (fun t g i hne hd=>⟨hd,fun hx'=>hne hx'.1⟩) h3
theorem oMf{f:FuncId}{caps:List Operand}(ks:List Nat)(ho:o.op=.makeFunc (.func f) #[] caps.toArray:=by exact rfl)(hx:caps.map (ev S)=ks.map (fun k=>.ref k 0):=by kernel_rfl):uN P o S [] (.clo f ks):=e_mkf ho hx
end
def RKs(P:Program)(o:Oper)(S:SL)(B:BS)(ks:List Nat)(x:SV):Prop:=∃ rd:List (Nat × List SV),rd.map (·.1)=ks/\uN P o (jZ S) rd x/\∀ p∈rd,kA B p.1=some p.2
theorem oCc{P:Program}{o:Oper}{S:SL}{B:BS}{y:Operand}{xs:List Operand}{ats:Array TypeId}{f:FuncId}{ds:List jS}{r:jS}(ks:List Nat)(css:List (List jS))
  (hf:jQ P f (ds++css.map (fun cs=>.cptr 1000000 cs 0)) r) (ha:yP 1000000 r) (ho:o.op=.call { callee:=.value y,args:=xs.toArray,argTypes:=ats }:=by exact rfl) (hy:ev (jZ S) y=.clo f ks:=by kernel_rfl) (hx:xs.map (ev (jZ S))=ds.map .d:=by kernel_rfl)
  (qK:Nat.beq css.length ks.length=true:=by kernel_rfl) (hb:ks.map (fun k=>kA B k)=css.map (fun cs=>some (cs.map SV.d)):=by kernel_rfl):RKs P o S B ks (.d r):=by
 have qK:=Nat.eq_of_beq_eq_true qK
 refine ⟨ks.zip (css.map (fun cs=>cs.map SV.d)),?_,e_clc hf ho hy hx rfl qK ha,fun p hp=>?_⟩
 ·rw[List.map_fst_zip];simp [qK]
 ·obtain ⟨i,hi⟩:=List.getElem?_of_mem hp
  rw[List.getElem?_zip_eq_some] at hi
  have h1:=congrArg (fun l:List (Option (List SV))=>l[i]?) hb
  simp only[List.getElem?_map,hi.1,Option.map_some] at h1
  have h2:=hi.2
  rw[List.getElem?_map,Option.map_eq_some_iff] at h2
  obtain ⟨cs,hc,e⟩:=h2
  rw[hc] at h1
  simp only[Option.map_some,Option.some.injEq] at h1
  rw[h1,e]
section
variable {P:Program} {n:Fr} {ops:Array Oper} {K:SL->BS->Prop} {S:SL} {B:BS} {l:List Oper} {o:Oper} {news:List Nat} {acc0:List (List Nat × List Nat)}
theorem zC{ks:List Nat}{x:SV}(h:RKs P o S B ks x)(r:SK P n ops K ((dO o,x)::S) B l)(g:goK n ops S o=true:=by kernel_rfl):SK P n ops K S B (o::l):=by
 obtain ⟨st1,r1,r2⟩:=r
 obtain ⟨rd,_,h,hbk⟩:=h
 obtain ⟨hd,hg,hb⟩:=yO g
 have hs:=Step.e (P:=P) (n:=n) (ops:=ops) (st:=⟨S,B⟩) (o:=o) h hg (by rw[hd];exact hb) hbk
 rw[hd] at hs
 exact ⟨st1,.cons hs r1,r2⟩
theorem wC{ks:List Nat}{x:SV}(h:RKs P o S B ks x)(r:DK P n ops K news (acc0++[(ks,[])]) ((dO o,x)::S) B l)(g:goK n ops S o=true:=by kernel_rfl)(hn:clearR ops S o news x=true:=by kernel_rfl):DK P n ops K news acc0 S B (o::l):=by
 obtain ⟨st1,acc,r1,r0,r2⟩:=r
 obtain ⟨rd,hk,h,hbk⟩:=h
 obtain ⟨hd,hg,hb⟩:=yO g
 have hs:=mP.e (P:=P) (n:=n) (ops:=ops) (news:=news) (st:=⟨S,B⟩) (o:=o) h hg (by rw[hd];exact hb) hbk hn
 rw[hd,hk] at hs
 exact ⟨st1,(ks,[])::acc,.cons hs r1,by simpa using r0,r2⟩
end
inductive CArgs (bl:List (Nat × List jS)):List Nat->List (List jS)->Prop
 |nil:CArgs bl [] []
 |cons {k:Nat} {cs:List jS} {ks:List Nat} {css:List (List jS)} (hk:(k,cs)∈bl) (h:CArgs bl ks css):CArgs bl (k::ks) (cs::css)
theorem CArgs.len{bl:List (Nat × List jS)}{ks:List Nat}{css:List (List jS)}(h:CArgs bl ks css):ks.length=css.length:=by
 induction h with
 |nil=>rfl
 |cons hk h ih=>simp [ih]
theorem CArgs.get{bl:List (Nat × List jS)}{ks:List Nat}{css:List (List jS)}(h:CArgs bl ks css):∀ (i:Nat) k cs,ks[i]?=some k->css[i]?=some cs->(k,cs)∈bl:=by
 induction h with
 |nil=>intro i k cs h;simp at h
 |cons hk h ih=>
  intro i k cs h1 h2
  rcases i with _ | i
  ·simp at h1 h2;subst h1;subst h2;exact hk
  ·exact ih i k cs (by simpa using h1) (by simpa using h2)
inductive bL (bl:List (Nat × List jS)) (E:TypeId):List SV->List jS->Prop
 |nil:bL bl E [] []
 |d {x:jS} {zs:List SV} {ds:List jS} (h:bL bl E zs ds):bL bl E (.d x::zs) (x::ds)
 |v {k q n s:Nat} {cs es:List jS} {zs:List SV} {ds:List jS} (hk:(k,cs)∈bl) (hes:∀ e∈es,e.cells.length=s) (hl:es.length=n) (hc:(cs.drop q).take (n*s)=qA es) (h:bL bl E zs ds):bL bl E (.view k q n::zs) (.sl E s es::ds)
 |p {k o:Nat} {cs:List jS} {zs:List SV} {ds:List jS} (hk:(k,cs)∈bl) (h:bL bl E zs ds):bL bl E (.ref k o::zs) (.cptr E cs o::ds)
 |c {f:FuncId} {ks:List Nat} {css:List (List jS)} {zs:List SV} {ds:List jS} (hk:CArgs bl ks css) (h:bL bl E zs ds):bL bl E (.clo f ks::zs) (.clo f (css.map fun cs=>.cptr E cs 0)::ds)
theorem bL.len{bl:List (Nat × List jS)}{E:TypeId}{zs:List SV}{ds:List jS}(h:bL bl E zs ds):zs.length=ds.length:=by
 induction h with
 |nil=>rfl
 |d h ih=>simp [ih]
 |v hk hes hl hc h ih=>simp [ih]
 |p hk h ih=>simp [ih]
 |c hk h ih=>simp [ih]
theorem bL.rep{bl:List (Nat × List jS)}{E:TypeId}{zs:List SV}{ds:List jS}(h:bL bl E zs ds){w:World}{D D':kQ}{β:kU}(h1:∀ v x,uS w D v x->uS w D' v x)
  (h2:∀ (k q n s:Nat) (cs es:List jS) (v:Value),(k,cs)∈bl->(∀ e∈es,e.cells.length=s)->es.length=n->(cs.drop q).take (n*s)=qA es->kX w D β v (.view k q n)->uS w D' v (.sl E s es))
  (h3:∀ (k o:Nat) (cs:List jS) (v:Value),(k,cs)∈bl->kX w D β v (.ref k o)->uS w D' v (.cptr E cs o)) :
  ∀ (vs:List Value),vs.length=zs.length->(∀ (i:Nat) v x,vs[i]?=some v->zs[i]?=some x->kX w D β v x)->∀ (i:Nat) v d,vs[i]?=some v->ds[i]?=some d->uS w D' v d:=by
 induction h with
 |nil=>intro vs _ _ i v d _ hd;simp at hd
 |d h ih=>
  intro vs hl hr i v d' hv hd
  rcases vs with _ | ⟨v0,vs⟩
  ·simp at hl
  ·rcases i with _ | i
   ·simp at hv hd;subst hv;subst hd;exact h1 _ _ (hr 0 _ _ rfl rfl)
   ·exact ih vs (by simpa using hl) (fun i v x h3 h4=>hr (i+1) v x (by simpa using h3) (by simpa using h4)) i v d' (by simpa using hv) (by simpa using hd)
 |v hk hes hl' hc h ih=>
  intro vs hl hr i v d' hv hd
  rcases vs with _ | ⟨v0,vs⟩
  ·simp at hl
  ·rcases i with _ | i
   ·simp at hv hd;subst hv;subst hd;exact h2 _ _ _ _ _ _ _ hk hes hl' hc (hr 0 _ _ rfl rfl)
   ·exact ih vs (by simpa using hl) (fun i v x h3 h4=>hr (i+1) v x (by simpa using h3) (by simpa using h4)) i v d' (by simpa using hv) (by simpa using hd)
 |p hk h ih=>
  intro vs hl hr i v d' hv hd
  rcases vs with _ | ⟨v0,vs⟩
  ·simp at hl
  ·rcases i with _ | i
   ·simp at hv hd;subst hv;subst hd;exact h3 _ _ _ _ hk (hr 0 _ _ rfl rfl)
   ·exact ih vs (by simpa using hl) (fun i v x h3 h4=>hr (i+1) v x (by simpa using h3) (by simpa using h4)) i v d' (by simpa using hv) (by simpa using hd)
 |c hk h ih=>
  intro vs hl hr i v d' hv hd
  rcases vs with _ | ⟨v0,vs⟩
  ·simp at hl
  ·rcases i with _ | i
   ·simp at hv hd;subst hv;subst hd
    obtain ⟨us,e1,e2,e3⟩:=hr 0 _ _ rfl rfl
    rw[e1]
    refine .clo us (by rw[e2,hk.len,List.length_map]) fun j u d hu hd=>?_
    rw[List.getElem?_map,Option.map_eq_some_iff] at hd
    obtain ⟨cs,hcs,rfl⟩:=hd
    have hlt:j<_:=(List.getElem?_eq_some_iff.1 hcs).1
    rw[<- hk.len] at hlt
    obtain ⟨b,g1,g2⟩:=e3 j _ (List.getElem?_eq_getElem hlt)
    rw[hu] at g2
    injection g2 with g2
    exact h3 _ 0 cs u (hk.get j _ cs (List.getElem?_eq_getElem hlt) hcs) ⟨b,g1,g2⟩
   ·exact ih vs (by simpa using hl) (fun i v x h3 h4=>hr (i+1) v x (by simpa using h3) (by simpa using h4)) i v d' (by simpa using hv) (by simpa using hd)
variable {P:Program}
theorem iN{t:TypeId}{ms:List Int}{i:Nat}{m:Int}{k j:IntKind}(ht:P.underlying t=some (.int j))(hi:ms[i]?=some m)(w:World):(part t (ms.map (Value.int k)).toArray i).run P w=.ok (.int k m) w:=by
 have h2:(ms.map (Value.int k))[i]?=some (.int k m):=by rw[List.getElem?_map,hi];rfl
 simp [part,iD ht,isAggD,h2]
theorem run_eqInt{t:TypeId}{k j:IntKind}{m n:Int}(ht:P.underlying t=some (.int j))(d:Nat)(w:World):(Op.equalIn (d+1) t (.int k m) (.int k n)).run P w=.ok (m == n) w:=by
 simp [Op.equalIn,run_underlying ht]
end Go.Fid
namespace Go.Fid
variable {P:Program} {o:Oper} {S:Nat->SV}
theorem e_nckd{x:Operand}{t:TypeId}{q:Nat}{cs:List jS}(ho:o.op=.nilCheck x)(hx:ev S x=.d (.cptr t cs q)):uN P o S [] (.d (.cptr t cs q)) :=
 uN.same fun a' w D β hop _=>by
  have hp:=hop x (by simp [ho,Op.operands])
  rw[hx] at hp
  generalize hvv:a'.eval x=v at hp
  cases hp with
  |cptr g p u hD hu h1 hr=>
   exact ⟨.pointer (some ⟨g,p+q,none⟩),by simp [execOp,ho,hvv],uS.cptr g p u hD hu h1 hr⟩
theorem oNd{x:Operand}{t:TypeId}{q:Nat}{cs:List jS}(ho:o.op=.nilCheck x:=by exact rfl)(hx:ev S x=.d (.cptr t cs q):=by exact rfl):uN P o S [] (.d (.cptr t cs q)):=e_nckd ho hx
end Go.Fid
namespace Go.Fid
variable {P:Program} {o:Oper} {S:Nat->SV}
theorem e_cld{y:Operand}{xs:List Operand}{ats:Array TypeId}{f:FuncId}{ds caps:List jS}{r:jS}(hf:jQ P f (ds++caps) r)(ho:o.op=.call { callee:=.value y,args:=xs.toArray,argTypes:=ats })(hy:ev S y=.d (.clo f caps))(hx:xs.map (ev S)=ds.map .d):uN P o S [] (.d r) :=
 fun a w D β Q hop hrd hD=>by
  have hyv:=hop y (by simp [ho,Op.operands,Call.operands])
  rw[hy] at hyv
  generalize hvv:a.eval y=v at hyv
  cases hyv with
  |clo vs hl hr=>
   have hlx:xs.length=ds.length:=by simpa using congrArg List.length hx
   have hargs:Args w D (xs.map a.eval++vs) (ds++caps):=by
    refine ⟨by simp [hlx,hl],fun i v d hv hd=>?_⟩
    by_cases hi:i<xs.length
    ·rw[List.getElem?_append_left (by simpa using hi),List.getElem?_map,Option.map_eq_some_iff] at hv
     rw[List.getElem?_append_left (by omega)] at hd
     obtain ⟨x,hxi,rfl⟩:=hv
     have hm:=hop x (by simp [ho,Op.operands,Call.operands,List.mem_of_getElem? hxi])
     have hi:=congrArg (fun l:List SV=>l[i]?) hx
     simp only[List.getElem?_map,hxi,hd,Option.map_some,Option.some.injEq] at hi
     rw[hi] at hm
     exact hm
    ·rw[List.getElem?_append_right (by simpa using hi),List.length_map] at hv
     rw[List.getElem?_append_right (by omega),<- hlx] at hd
     exact hr _ _ _ hv hd
   have hrun:(execOp a.eval o).run P w=.ok (.enter f (xs.map a.eval++vs).toArray) w:=by
    simp only[execOp,ho,resolve,Deferred.ofValue,hvv,Sem.run_bind,Sem.run_pure,Result.andThen_ok,invoke,Array.empty_append]
    rw[vM hf.may]
    simp
   refine mX hrun ((hf.run w _ _ hD hargs).mono fun e w' h=>?_)
   obtain ⟨v,D2,he,h1,h2,h3⟩:=h
   exact ⟨v,he,v,D2,rfl,h1,h2,h3⟩
theorem oCd{S:SL}{y:Operand}{xs:List Operand}{ats:Array TypeId}{f:FuncId}{ds caps:List jS}{r:jS}(hf:jQ P f (ds++caps) r)(ho:o.op=.call { callee:=.value y,args:=xs.toArray,argTypes:=ats }:=by exact rfl)
  (hy:ev (jZ S) y=.d (.clo f caps):=by exact rfl) (hx:xs.map (ev (jZ S))=ds.map .d:=by kernel_rfl):uN P o (jZ S) [] (.d r):=e_cld hf ho hy hx
end Go.Fid
namespace Go.Fid
open Go.RowKit (Below)
theorem app_blkG{w:World}{D:kQ}{β:kU}{b:Nat}{arr:List Value}{E:TypeId}{k:Nat}{cs:List SV}(hkb:β k=some b)(dQ:w.heap[b]?=some (.cells arr.toArray E (0,0)))(qK:cs.length<=arr.length)
  (h:∀ (i:Nat) x,cs[i]?=some x->∃ u,arr[i]?=some u/\u.oneCell'=true/\kX w D β u x) (hp:∀ t o,¬ D t b o):uD w D β k cs:=by
 refine .inr ⟨b,arr.toArray,E,hkb,dQ,by simpa using qK,fun i x hx=>?_,hp⟩
 obtain ⟨u,e1,e2,e3⟩:=h i x hx
 exact ⟨u,by simpa using e1,e2,e3⟩
theorem names_get{k:Nat}{cs:List SV}(h:qC k cs=false){i:Nat}{x:SV}(hx:cs[i]?=some x):x.names k=false:=by
 simp only[qC,List.any_eq_false] at h
 simpa using h x (List.mem_of_getElem? hx)
theorem app_getG{cs:List SV}{ds:List jS}{q:Nat}{x:SV}(h:(cs++ds.map .d)[q]?=some x):(q<cs.length/\cs[q]?=some x)\/(cs.length<=q/\∃ d,ds[q-cs.length]?=some d/\x=.d d):=by
 by_cases hq:q<cs.length
 ·rw[List.getElem?_append_left hq] at h;exact .inl ⟨hq,h⟩
 ·rw[List.getElem?_append_right (by omega),List.getElem?_map,Option.map_eq_some_iff] at h
  obtain ⟨d,h1,h2⟩:=h
  exact .inr ⟨by omega,d,h1,h2.symm⟩
section
variable {P:Program} {o:Oper} {st:PS}
end
section
variable {P:Program} {o:Oper} {S:Nat->SV}
theorem app_local{T E t':TypeId}{x y:Operand}{k k' s m bytes:Nat}{zv:List Value}{es':List jS}{cs:List SV}(ho:o.op=.call { callee:=.builtin .append,args:=#[x,y],argTypes:=#[T,T] })
  (hT:uM P T=some (E,s)) (hz:vX P E=some zv) (hzl:zv.length=s) (hby:zG P E=some bytes) (hx:ev S x=.own k E s m) (hself:qC k' cs=false)
  (hes:cs.length=m*s) (hy:ev S y=.d (.sl t' s es')) (hpos:0<es'.length) (hbig:m+es'.length<=maxLen) (hbig':(m+es'.length)*bytes<=140737488355328) :
  AOk P o S k k' cs (cs++(qA es').map .d) (.own k' E s (m+es'.length)):=fun a w D β Q hop hblk hdok=>by
 have h1:=hop x (by simp [ho,Op.operands,Call.operands])
 have h2:=hop y (by simp [ho,Op.operands,Call.operands])
 have hβ:∀ (b j:Nat),j≠k'->(β.set k' b) j=β j:=fun b j hj=>by simp [kU.set,hj]
 rw[hx] at h1
 rw[hy] at h2
 obtain ⟨ao,c,us,hyv,hcc,hul,hfl',eC,hrep,had⟩:=lF h2
 obtain ⟨i,z,z1,z2,z3⟩:=fJ hz
 obtain ⟨j,f1,f2,f3⟩:=mY hT
 have hij:i=j:=by rw[z1] at f2;injection f2
 subst hij
 have hbi:i.bytes=bytes:=by
  unfold zG at hby
  rw[z1] at hby
  simpa using hby
 subst hbi
 have hzs:z.cells.size=s:=by rw[z3];simpa using hzl
 have hml:(maxLen:Int)<=9223372036854775807:=by decide
 have hfll:(cs++(qA es').map SV.d).length=(m+es'.length)*s:=by rw[List.length_append,List.length_map,hes,hfl',Nat.add_mul]
 ·obtain ⟨ad,rfl,hcell⟩:=had hpos
  rcases h1 with ⟨hk0,hm,hv⟩ | ⟨b,cap,vs,hkb,hv,dQ,hvs,hmc,hcap⟩
  ·subst hm
   have hbytes:es'.length*i.bytes<=281474976710656:=by rw[Nat.zero_add] at hbig';omega
   have hr:=run_append_nil (P:=P) w T o.type E i z f1 z1 z2 ad es'.length c us (by rw[hul,f3]) hcell (by omega) (by omega) hbytes
   have hes0:cs=[]:=List.eq_nil_of_length_eq_zero (by simpa using hes)
   subst hes0
   have hge:=grownCap_ge w es'.length 0 E
   have hcm:=grownCap_le_maxLen w es'.length 0 E (by omega)
   generalize grownCap w es'.length 0 E=G at hr hge hcm
   have gW:Below w.heap.size w (w.drew.alloc (.cells (us.toArray++Builtin.zeroCells z.cells (G-es'.length)) E)):=⟨rfl,rfl,rfl,by simp,fun q hq=>heap_alloc_old w.drew _ hq⟩
   have hblk':uD (w.drew.alloc (.cells (us.toArray++Builtin.zeroCells z.cells (G-es'.length)) E)) D (β.set k' w.heap.size) k' ([]++(qA es').map .d):=by
    have earr:us.toArray++Builtin.zeroCells z.cells (G-es'.length)=(us++(Builtin.zeroCells z.cells (G-es'.length)).toList).toArray:=by apply Array.ext';simp
    refine app_blkG (b:=w.heap.size) (E:=E) (arr:=us++(Builtin.zeroCells z.cells (G-es'.length)).toList) (by simp [kU.set]) (by rw[<- earr];exact heap_alloc_new w.drew _) (by rw[hfll,Nat.zero_add,List.length_append];omega) ?_ (fun t q hq=>Nat.lt_irrefl _ (hdok.lt t _ q hq))
    intro q x hq
    obtain ⟨d,hq2,rfl⟩:∃ d,(qA es')[q]?=some d/\x=.d d:=by
     rcases app_getG hq with ⟨h1,_⟩ | ⟨_,h2⟩
     ·cases h1
     ·simpa using h2
    have hlt:q<us.length:=by
     have:=(List.getElem?_eq_some_iff.1 hq2).1
     omega
    exact ⟨us[q],by rw[List.getElem?_append_left hlt];simp [hlt],eC _ (by simp),(hrep q us[q] d (by simp [hlt]) hq2).up gW (aE.of_same D) hdok⟩
   have hx':kX (w.drew.alloc (.cells (us.toArray++Builtin.zeroCells z.cells (G-es'.length)) E)) D (β.set k' w.heap.size) (.slice (some ⟨w.heap.size,0,none⟩) es'.length G) (.own k' E s (0+es'.length)):=by
    rw[Nat.zero_add]
    refine .inr ⟨w.heap.size,G,_,by simp [kU.set],rfl,heap_alloc_new w.drew _,?_,hge,hcm⟩
    simp only[Array.size_append,List.size_toArray,size_zeroCells,hzs,hul,<- Nat.add_mul]
    congr 1
    omega
   have this:APost a w D β o.dst k k' _ _ _ _:=⟨_,_,rfl,hblk',hx',.inl ⟨gW,Nat.le_refl _,by simp⟩⟩
   unfold Oper.wp execOp
   simp only[ho,resolve,invoke,builtin,Sem.run_bind,Sem.run_pure,Result.andThen_ok,List.map_toArray,List.map_cons,List.map_nil,hv,hyv,hr]
   exact this
  ·have hb4:∃ b' vs' T',β k=some b'/\w.heap[b']?=some (.cells vs' T' (0,0))/\cs.length<=vs'.size/\(∀ (i:Nat) x,cs[i]?=some x->∃ u,vs'[i]?=some u/\u.oneCell'=true/\kX w D β u x)/\∀ t o,¬ D t b' o:=by
    rcases hblk with h | h
    ·exact (h.at_cells hkb dQ).elim
    ·exact h
   obtain ⟨b',vs',T',e1,e2,e3,e4,e5⟩:=hb4
   have:b'=b:=by rw[hkb] at e1;injection e1 with e1;exact e1.symm
   subst this
   have:vs'=vs:=by rw[dQ] at e2;injection e2 with e2;injection e2 with e2;exact e2.symm
   subst this
   have hle:m*s<=vs'.size:=by rw[hvs];exact Nat.mul_le_mul_right _ hmc
   by_cases hroom:m+es'.length<=cap
   ·have hfit:m*s+us.length<=vs'.size:=by rw[hul,hvs,<- Nat.add_mul];exact Nat.mul_le_mul_right _ hroom
    have hr:=run_append_room (P:=P) w T o.type E i f1 z1 b' m cap vs' dQ ad es'.length c us (by rw[hul,f3]) hcell eC hroom (by rw[f3];exact hfit)
    rw[f3] at hr
    have hpl:=nC (l:=vs'.toList) (off:=m*s) (new:=us) (by simpa using hfit)
    have hw:=iR w b' (vs'.toList.take (m*s)++us++vs'.toList.drop (m*s+us.length)).toArray (fun vs2 T2 f2 h=>by
     rw[dQ] at h
     injection h with h
     injection h with h
     subst h
     have e:patch vs'.toList (m*s) us=vs'.toList.take (m*s)++us++vs'.toList.drop (m*s+us.length):=rfl
     rw[e] at hpl
     simpa using hpl)
    have hheap':=setRow_heap w b' vs' (vs'.toList.take (m*s)++us++vs'.toList.drop (m*s+us.length)).toArray E _ dQ
    have hpg:∀ q,(vs'.toList.take (m*s)++us++vs'.toList.drop (m*s+us.length))[q]?=if q<m*s then vs'.toList[q]? else if q<m*s+us.length then us[q-m*s]? else vs'.toList[q]?:=fun q=>nO (by simpa using hfit) q
    have hblk':uD (w.setRow b' (vs'.toList.take (m*s)++us++vs'.toList.drop (m*s+us.length)).toArray) D (β.set k' b') k' (cs++(qA es').map .d):=by
     refine app_blkG (b:=b') (by simp [kU.set]) hheap' ?_ ?_ e5
     ·have e:patch vs'.toList (m*s) us=vs'.toList.take (m*s)++us++vs'.toList.drop (m*s+us.length):=rfl
      rw[e] at hpl
      rw[hpl,hfll,Nat.add_mul]
      simp only[Array.length_toList]
      omega
     ·intro q x hq
      rw[hpg q]
      rcases app_getG hq with ⟨c1,hq2⟩ | ⟨c1,d,hq2,rfl⟩
      ·rw[hes] at c1
       rw[if_pos c1]
       obtain ⟨u,g1,g2,g3⟩:=e4 q x hq2
       exact ⟨u,by simpa using g1,g2,(hw.repS e5 g3).frame (hβ b') (names_get hself hq2)⟩
      ·rw[hes] at c1 hq2
       have hlt:q-m*s<us.length:=by
        have:=(List.getElem?_eq_some_iff.1 hq2).1
        omega
       rw[if_neg (by omega),if_pos (by omega)]
       exact ⟨us[q-m*s],by simp [hlt],eC _ (by simp),hw.rep e5 (hrep _ _ d (by simp [hlt]) hq2)⟩
    have hx':kX (w.setRow b' (vs'.toList.take (m*s)++us++vs'.toList.drop (m*s+us.length)).toArray) D (β.set k' b') (.slice (some ⟨b',0,none⟩) (m+es'.length) cap) (.own k' E s (m+es'.length)):=by
     refine .inr ⟨b',cap,_,by simp [kU.set],rfl,hheap',?_,hroom,hcap⟩
     have e:patch vs'.toList (m*s) us=vs'.toList.take (m*s)++us++vs'.toList.drop (m*s+us.length):=rfl
     rw[e] at hpl
     simpa [hvs] using hpl
    have this:APost a w D β o.dst k k' _ _ _ _:=⟨_,_,rfl,hblk',hx',.inr ⟨hkb,hw,e5⟩⟩
    unfold Oper.wp execOp
    simp only[ho,resolve,invoke,builtin,Sem.run_bind,Sem.run_pure,Result.andThen_ok,List.map_toArray,List.map_cons,List.map_nil,hv,hyv,hr]
    exact this
   ·have hol:(vs'.toList.take (m*s)).length=m*i.size:=by rw[f3,List.length_take];simp;omega
    have holds:∀ q u,(vs'.toList.take (m*s))[q]?=some u->w.cell? ((⟨b',0,none⟩:Addr).add q)=some u:=fun q u hq=>by
     rw[Addr.add_lit,Nat.zero_add,cell_of_row w b' q vs' E (0,0) dQ]
     rw[List.getElem?_take] at hq
     split at hq
     ·simpa using hq
     ·cases hq
    have hr:=run_append_grow (P:=P) w T o.type E i z f1 z1 z2 ⟨b',0,none⟩ m cap (vs'.toList.take (m*s)) hol holds ad es'.length c us (by rw[hul,f3]) hcell (by omega) (by omega) (growslice_fits (by omega) hbig')
    have hge:=grownCap_ge w (m+es'.length) cap E
    have hcm:=grownCap_le_maxLen w (m+es'.length) cap E (by omega)
    generalize grownCap w (m+es'.length) cap E=G at hr hge hcm
    have gW:Below w.heap.size w (w.drew.alloc (.cells ((vs'.toList.take (m*s)).toArray++us.toArray++Builtin.zeroCells z.cells (G-(m+es'.length))) E)):=⟨rfl,rfl,rfl,by simp,fun q hq=>heap_alloc_old w.drew _ hq⟩
    have hblk':uD (w.drew.alloc (.cells ((vs'.toList.take (m*s)).toArray++us.toArray++Builtin.zeroCells z.cells (G-(m+es'.length))) E)) D (β.set k' w.heap.size) k' (cs++(qA es').map .d):=by
     have earr:(vs'.toList.take (m*s)).toArray++us.toArray++Builtin.zeroCells z.cells (G-(m+es'.length))=(vs'.toList.take (m*s)++us++(Builtin.zeroCells z.cells (G-(m+es'.length))).toList).toArray:=by apply Array.ext';simp
     rw[f3] at hol
     refine app_blkG (b:=w.heap.size) (E:=E) (by simp [kU.set]) (by rw[<- earr];exact heap_alloc_new w.drew _) (by rw[hfll,List.length_append,List.length_append,hol,Nat.add_mul];omega) ?_ (fun t q hq=>Nat.lt_irrefl _ (hdok.lt t _ q hq))
     intro q x hq
     rcases app_getG hq with ⟨c1,hq2⟩ | ⟨c1,d,hq2,rfl⟩
     ·rw[hes] at c1
      obtain ⟨u,g1,g2,g3⟩:=e4 q x hq2
      refine ⟨u,?_,g2,(g3.up gW (aE.of_same D) hdok).frame (fun j hj=>by simp [kU.set,hj]) (names_get hself hq2)⟩
      rw[List.append_assoc,List.getElem?_append_left (by omega),List.getElem?_take,if_pos c1]
      simpa using g1
     ·rw[hes] at c1 hq2
      have hlt:q-m*s<us.length:=by
       have:=(List.getElem?_eq_some_iff.1 hq2).1
       omega
      refine ⟨us[q-m*s],?_,eC _ (by simp),(hrep _ _ d (by simp [hlt]) hq2).up gW (aE.of_same D) hdok⟩
      rw[List.append_assoc,List.getElem?_append_right (by omega),hol,List.getElem?_append_left hlt]
      simp [hlt]
    have hx':kX (w.drew.alloc (.cells ((vs'.toList.take (m*s)).toArray++us.toArray++Builtin.zeroCells z.cells (G-(m+es'.length))) E)) D (β.set k' w.heap.size) (.slice (some ⟨w.heap.size,0,none⟩) (m+es'.length) G) (.own k' E s (m+es'.length)):=by
     refine .inr ⟨w.heap.size,G,_,by simp [kU.set],rfl,heap_alloc_new w.drew _,?_,hge,hcm⟩
     rw[f3] at hol
     simp only[Array.size_append,List.size_toArray,size_zeroCells,hzs,hul,hol,<- Nat.add_mul]
     congr 1
     omega
    have this:APost a w D β o.dst k k' _ _ _ _:=⟨_,_,rfl,hblk',hx',.inl ⟨gW,Nat.le_refl _,by simp⟩⟩
    unfold Oper.wp execOp
    simp only[ho,resolve,invoke,builtin,Sem.run_bind,Sem.run_pure,Result.andThen_ok,List.map_toArray,List.map_cons,List.map_nil,hv,hyv,hr]
    exact this
end
end Go.Fid
