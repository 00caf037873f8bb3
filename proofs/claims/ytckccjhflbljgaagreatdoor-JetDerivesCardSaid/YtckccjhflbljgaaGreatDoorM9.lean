/- Part 9 of a proof: rules, plain facts, and functions walked. -/
import Derived.Test.YtckccjhflbljgaaGreatDoorM8
import Derived.Test.YtckccjhflbljgaaGreatDoorM5
import Derived.Test.YtckccjhflbljgaaGreatDoorM6
set_option linter.all false
set_option maxRecDepth 4000
namespace Go.Proofs.YtckccjhflbljgaaGreatDoor
open List Tryz
open Go.Fid
theorem cb178:callB prog 178=true:=by kernel_rfl
theorem pl30:eL prog 30=some [(0,1),(1,1)]:=by kernel_rfl
theorem uN:qD prog 3=some (false,1):=by kernel_rfl
theorem zU:qD prog 28=some (false,1):=by kernel_rfl
theorem kG:qD prog 30=some (true,2):=by kernel_rfl
theorem sh137:qD prog 137=some (false,1):=by kernel_rfl
theorem ze3:xH prog 3=some [.int .i64 0]:=by kernel_rfl
theorem nT:xH prog 30=some [.bool false,.slice none 0 0]:=by kernel_rfl
theorem ze137:xH prog 137=some [.int .u64 0]:=by kernel_rfl
theorem zo3:eO [.int .i64 0] [.val (.int .i64 0)]:=by simp [eO,Value.oneCell']
theorem nY:eO [.bool false,.slice none 0 0] [.val (.bool false),.sl 107 1 []]:=by simp [eO,Value.oneCell']
theorem zo137:eO [.int .u64 0] [.val (.int .u64 0)]:=by simp [eO,Value.oneCell']
theorem t_isnan_int(a:Int):jP prog 177 [(.val (.int .i64 (a)))] (.val (.bool (false))):=by
 refine vD func177 ?_
 refine jB<|kx [] [] (zM<|zZ) ?_
 refine jB<|kx [(2,(vb (a != a)))] [] (zM<|zM<|zE aZ<|zM<|zZ) ?_
 refine jE ⟨_,(.tmp (d:=(.val (.bool ((a != a))))) rfl .nil),?_⟩
 simp [retD]
theorem t_cmp_int(a b:Int):jP prog 152 [(.val (.int .i64 (a))),(.val (.int .i64 (b)))] (.val (.int .i64 ((uY a b)))):=by
 refine vD func152 ?_
 refine jB<|kx [] [] (zM<|zZ) ?_
 refine jB<|kx [(5,(vb false))] [] (zM<|zE (kB (t_isnan_int a))<|zM<|zZ) ?_
 refine jB<|kx [(6,(vb false))] [] (zM<|zE (kB (t_isnan_int b))<|zM<|zZ) ?_
 refine jB<|jB<|kx [(11,(vb false))] [] (zM<|zZ) ?_
 refine uI ?_
 refine jF<|jB<|jB<|kx [(13,(vb false))] [] (zM<|zZ) ?_
 refine uI ?_
 refine jF<|jB<|jB<|kx [(16,(vb (decide (a<b))))] [] (zM<|zM<|zE gX<|zZ) ?_
 refine jD (b:=decide (a<b)) rfl (λh1=>?_) (λh1=>?_)
 ·replace h1:=vF h1
  refine jB<|kx [(4,(vi (-1)))] [] (zM<|zZ) ?_
  refine jE ⟨_,(.tmp (d:=(.val (.int .i64 (-1)))) rfl .nil),?_⟩
  rw[show uY a b=-1 from if_pos h1];rfl
 ·replace h1:=vT h1
  refine jF<|jB<|jB<|kx [(19,(vb (decide (b<a))))] [] (zM<|zM<|zE eR<|zZ) ?_
  refine jD (b:=decide (b<a)) rfl (λh2=>?_) (λh2=>?_)
  ·replace h2:=vF h2
   refine jB<|kx [(4,(kE 1))] [] (zM<|zZ) ?_
   refine jE ⟨_,(.tmp (d:=(.val (.int .i64 (1)))) rfl .nil),?_⟩
   rw[aQ h2];rfl
  ·replace h2:=vT h2
   refine jF<|jB<|kx [(4,(kE 0))] [] (zM<|zZ) ?_
   refine jE ⟨_,(.tmp (d:=(.val (.int .i64 (0)))) rfl .nil),?_⟩
   rw[cmpI_eq h1 h2];rfl
theorem t_isnan_uint32(a:Nat):jP prog 204 [(.val (.int .u32 (((a:Nat):Int))))] (.val (.bool (false))):=by
 refine vD func204 ?_
 refine jB<|kx [] [] (zM<|zZ) ?_
 refine jB<|kx [(2,(vb (((a:Nat):Int) != ((a:Nat):Int))))] [] (zM<|zM<|zE aZ<|zM<|zZ) ?_
 refine jE ⟨_,(.tmp (d:=(.val (.bool ((((a:Nat):Int) != ((a:Nat):Int)))))) rfl .nil),?_⟩
 simp [retD]
theorem t_cmp_uint32(a b:Nat):jP prog 179 [(.val (.int .u32 (((a:Nat):Int)))),(.val (.int .u32 (((b:Nat):Int))))] (.val (.int .i64 ((uY ((a:Nat):Int) ((b:Nat):Int))))):=by
 refine vD func179 ?_
 refine jB<|kx [] [] (zM<|zZ) ?_
 refine jB<|kx [(5,(vb false))] [] (zM<|zE (kB (t_isnan_uint32 a))<|zM<|zZ) ?_
 refine jB<|kx [(6,(vb false))] [] (zM<|zE (kB (t_isnan_uint32 b))<|zM<|zZ) ?_
 refine jB<|jB<|kx [(11,(vb false))] [] (zM<|zZ) ?_
 refine uI ?_
 refine jF<|jB<|jB<|kx [(13,(vb false))] [] (zM<|zZ) ?_
 refine uI ?_
 refine jF<|jB<|jB<|kx [(16,(vb (decide (((a:Nat):Int)<((b:Nat):Int)))))] [] (zM<|zM<|zE gX<|zZ) ?_
 refine jD rfl (λh1=>?_) (λh1=>?_)
 ·replace h1:=vF h1
  refine jB<|kx [(4,(vi (-1)))] [] (zM<|zZ) ?_
  refine jE ⟨_,(.tmp (d:=(.val (.int .i64 (-1)))) rfl .nil),?_⟩
  rw[show uY ((a:Nat):Int) ((b:Nat):Int)=-1 from if_pos h1];rfl
 ·replace h1:=vT h1
  refine jF<|jB<|jB<|kx [(19,(vb (decide (((b:Nat):Int)<((a:Nat):Int)))))] [] (zM<|zM<|zE eR<|zZ) ?_
  refine jD rfl (λh2=>?_) (λh2=>?_)
  ·replace h2:=vF h2
   refine jB<|kx [(4,(kE 1))] [] (zM<|zZ) ?_
   refine jE ⟨_,(.tmp (d:=(.val (.int .i64 (1)))) rfl .nil),?_⟩
   rw[aQ h2];rfl
  ·replace h2:=vT h2
   refine jF<|jB<|kx [(4,(kE 0))] [] (zM<|zZ) ?_
   refine jE ⟨_,(.tmp (d:=(.val (.int .i64 (0)))) rfl .nil),?_⟩
   rw[cmpI_eq h1 h2];rfl
theorem dY(neg:Bool)(l:List Nat)(hd:Dig l)(hb:l.length<=17592186044416):jP prog 155 [(.val (.bool (neg))),(.sl 107 1 (map jC l))] (jQ (xU neg (val l))):=by
 refine vD func155 ?_
 refine jB<|kx [(4,(.ref 0 0))] [(0,some (bx (jQ (kW.mk false []))))] (zN (vB 0 nT nY)<|zZ) ?_
 refine jB<|kx [(1,(vl 107 1 jC (ofNat (val l))))] [] (zM<|zE (kB (t_trim l (by assumption) (by omega)))<|zM<|zZ) ?_
 refine jB<|jB<|kx [(9,(vb ((((ofNat (val l)).length:Nat):Int) == 0)))] [] (zM<|zE (yA kJ (L:=(ofNat (val l))))<|zE xL<|zZ) ?_
 refine jD rfl (λh1=>?_) (λh1=>?_)
 ·replace h1:=eq_of_beq h1
  refine jB<|kx [] [(0,some (bx (jQ (kW.mk false []))))] (zE (iS pl30 nT nY)<|zT (qL kG)<|zZ) ?_
  refine jE ⟨_,(kM (cs:=(bx (jQ (kW.mk false [])))) (d:=(jQ (kW.mk false []))) rfl rfl kG rfl rfl .nil),?_⟩
  rw[mkI_zero h1];rfl
 ·replace h1:=ne_of_beq_false h1
  refine jF<|jB<|kx [] [(0,some (bx (jQ (kW.mk neg (ofNat (val l))))))] (zM<|zM<|zE (iS pl30 nT nY)<|zT (qL kG)<|zZ) ?_
  refine jE ⟨_,(kM (cs:=(bx (jQ (kW.mk neg (ofNat (val l)))))) (d:=(jQ (kW.mk neg (ofNat (val l))))) rfl rfl kG rfl rfl .nil),?_⟩
  rw[mkI_pos h1];rfl
theorem t_word(l:List Nat)(hd:Dig l):jP prog 154 [(.sl 107 1 (map jC l))] (.tup [(.val (.int .u64 ((((yK l):Nat):Int)))),(.val (.bool ((mZ l))))]):=by
 refine vD func154 ?_
 refine jB<|kx [(2,(gL 0)),(3,(vb false))] [] (zM<|zM<|zZ) ?_
 refine jB<|jB<|kx [(9,(vb (decide (2<((l.length:Nat):Int)))))] [] (zM<|zE (yA kJ)<|zE eR<|zZ) ?_
 refine jD (b:=decide (2<((l.length:Nat):Int))) rfl (λh1=>?_) (λh1=>?_)
 ·replace h1:=vF h1
  refine jB<|kx [(2,(gL 0)),(3,(vb false))] [] (zM<|zM<|zZ) ?_
  refine jE ⟨_,(.tmp (d:=(.val (.int .u64 (0)))) rfl (.tmp (d:=(.val (.bool (false)))) rfl .nil)),?_⟩
  rw[show yK l=0 from if_neg (by omega),show mZ l=false from decide_eq_false (by omega)];rfl
 ·replace h1:=vT h1
  have h2:l.length<=2:=by omega
  refine jF<|jB<|kx [(4,(.ref 0 0))] [(0,some (bx (.val (.int .u64 (0)))))] (zN (vB 0 ze137 zo137)<|zT (qL sh137)<|zZ) ?_
  refine jB<|pwp_backL backs cb178 rfl 5 jC l 0 (λn=>⟨[(2,(gL 0)),(3,(vb false)),(4,(.ref 0 0))],[(0,some (bx (.val (.int .u64 (((n:Nat):Int))))))]⟩) (λ(j:Nat) n=>n=val (l.drop (l.length-j))) 0 rfl rfl rfl rfl rfl rfl rfl rfl rfl rfl rfl rfl (λ_=>rfl) (λ_=>rfl) wk (by simp [val]) (by omega) ?_ ?_
  ·rintro rl j n hj hn
   have hw:=word_bound hd hj h2
   rw[<- hn] at hw
   have hg:=hd.getD (l.length-1-j)
   refine kx [(6,(iT (l.getD (l.length-1-j) 0)))] [] (zM<|zZ) ?_
   refine jH<|kx [] [(0,some (bx (.val (.int .u64 (((((n*1000000000)+(l.getD (l.length-1-j) 0)):Nat):Int))))))] (zR (qH sh137)<|zE (oMl (n*1000000000))<|zM<|zE (cA yU yJ (l.getD (l.length-1-j) 0))<|zE (xO ((n*1000000000)+(l.getD (l.length-1-j) 0)))<|zT (qL sh137)<|zZ) ?_
   exact ⟨n*1000000000+l.getD (l.length-1-j) 0,wk,(by dsimp only;rw[bU l j hj,<- hn];omega)⟩
  ·rintro n hn
   refine jB<|kx [(2,(gL n)),(3,(vb true))] [] (zR (qH sh137)<|zM<|zM<|zZ) ?_
   refine jE ⟨_,(.tmp (d:=(.val (.int .u64 (((n:Nat):Int))))) rfl (.tmp (d:=(.val (.bool (true)))) rfl .nil)),?_⟩
   rw[show yK l=n by rw[hn,Nat.sub_self,drop_zero];exact if_pos h2,show mZ l=true from decide_eq_true h2];rfl
theorem t_compare(a b:List Nat)(ha:gG a)(hb:gG b)(hla:a.length<=17592186044416):jP prog 153 [(.sl 107 1 (map jC a)),(.sl 107 1 (map jC b))] (.val (.int .i64 ((uY ((val a:Nat):Int) ((val b:Nat):Int))))):=by
 refine vD func153 ?_
 refine jB<|kx [(3,(.ref 0 0)),(4,(.ref 1 0))] [(0,some (bx (.sl 107 1 (map jC b)))),(1,some (bx (.val (.int .i64 (0)))))] (zN (xD 0)<|zN (vB 1 ze3 zo3)<|zZ) ?_
 refine jB<|jB<|kx [(11,(vb (((a.length:Nat):Int) != ((b.length:Nat):Int))))] [] (zM<|zE (yA kJ)<|zR (qH zU)<|zE (yA kJ)<|zE aZ<|zZ) ?_
 refine jD rfl (λh1=>?_) (λh1=>?_)
 ·replace h1:=bne_iff_ne.1 h1
  refine jB<|kx [] [(1,some (bx (.val (.int .i64 ((uY ((a.length:Nat):Int) ((b.length:Nat):Int)))))))] (zM<|zE (yA kJ)<|zR (qH zU)<|zE (yA kJ)<|zE (kB (t_cmp_int ((a.length:Nat):Int) ((b.length:Nat):Int)))<|zT (qL uN)<|zZ) ?_
  refine jE ⟨_,(res_1 (cs:=(bx (.val (.int .i64 ((uY ((a.length:Nat):Int) ((b.length:Nat):Int))))))) (d:=(.val (.int .i64 ((uY ((a.length:Nat):Int) ((b.length:Nat):Int)))))) rfl rfl uN rfl rfl .nil),?_⟩
  rw[<- cmpI_len ha hb h1];rfl
 ·replace h1:=bne_eq_false_iff_eq.1 h1
  have hl:a.length=b.length:=by omega
  refine jF<|jB<|pwp_backL backs cb178 rfl 5 jC a 0 (λ_=>⟨[(3,(.ref 0 0)),(4,(.ref 1 0))],[(0,some (bx (.sl 107 1 (map jC b)))),(1,some (bx (.val (.int .i64 (0)))))]⟩) (λ(j:Nat) _=>val (a.drop (a.length-j))=val (b.drop (a.length-j))) () rfl rfl rfl rfl rfl rfl rfl rfl rfl rfl rfl rfl (λ_=>rfl) (λ_=>rfl) wk (by rw[Nat.sub_zero,drop_length,hl,drop_length]) (by omega) ?_ ?_
  ·rintro rl j ⟨⟩ hj he
   refine jB<|kx [(5,(kE (a.length-1-j)))] [] (zM<|zZ) ?_
   refine kx [(6,(iT (a.getD (a.length-1-j) 0)))] [] (zM<|zZ) ?_
   refine jH<|jB<|kx [(26,(vb ((((a.getD (a.length-1-j) 0):Nat):Int) != (((b.getD (a.length-1-j) 0):Nat):Int))))] [] (zM<|zR (qH zU)<|zM<|zE (cB kJ (a.length-1-j) (0:Nat))<|zE (dK qP)<|zE aZ<|zZ) ?_
   refine jD rfl (λh2=>?_) (λh2=>?_)
   ·replace h2:=bne_iff_ne.1 h2
    refine jB<|kx [] [(1,some (bx (.val (.int .i64 ((uY (((a.getD (a.length-1-j) 0):Nat):Int) (((b.getD (a.length-1-j) 0):Nat):Int)))))))] (zM<|zR (qH zU)<|zM<|zE (cB kJ (a.length-1-j) (0:Nat))<|zE (dK qP)<|zE (kB (t_cmp_uint32 (a.getD (a.length-1-j) 0) (b.getD (a.length-1-j) 0)))<|zT (qL uN)<|zZ) ?_
    refine jE ⟨⟨[(4,(.ref 1 0))],[(1,some (bx (.val (.int .i64 ((uY (((a.getD (a.length-1-j) 0):Nat):Int) (((b.getD (a.length-1-j) 0):Nat):Int)))))))]⟩,wk,keys_of rfl,⟨_,(res_1 (cs:=(bx (.val (.int .i64 ((uY (((a.getD (a.length-1-j) 0):Nat):Int) (((b.getD (a.length-1-j) 0):Nat):Int))))))) (d:=(.val (.int .i64 ((uY (((a.getD (a.length-1-j) 0):Nat):Int) (((b.getD (a.length-1-j) 0):Nat):Int)))))) rfl rfl uN rfl rfl .nil),?_⟩⟩
    rw[<- cmpI_top ha.1 hb.1 hl hj he h2];rfl
   ·replace h2:=bne_eq_false_iff_eq.1 h2
    refine jF ?_
    exact ⟨(),wk,(by dsimp only;have e1:=bU a j hj;have e2:=bU b j (by omega);rw[<- hl] at e2;rw[e1,e2,he];omega)⟩
  ·rintro ⟨⟩ he
   refine jB<|kx [] [(1,some (bx (.val (.int .i64 (0)))))] (zT (qL uN)<|zZ) ?_
   refine jE ⟨_,(res_1 (cs:=(bx (.val (.int .i64 (0))))) (d:=(.val (.int .i64 (0)))) rfl rfl uN rfl rfl .nil),?_⟩
   rw[cmpI_same (by rw[Nat.sub_self,drop_zero,drop_zero] at he;exact he)];rfl
theorem t_split(n:Nat)(hn:n<18446744073709551616):jP prog 156 [(.val (.int .u64 (((n:Nat):Int))))] (.sl 107 1 (map jC (ofNat n))):=by
 refine vD func156 ?_
 refine jB<|kx [] [] (zE (aN 107 1)<|zZ) ?_
 refine jB<|kx [(3,(.own 0 107 1 0))] [(0,some (bm jC []))] (zO 0 107 1<|zZ) ?_
 refine jB<|jH<|kR (α:=Nat × List Nat) (λ(m,g)=>⟨[(0,(gL m)),(3,(.own 0 107 1 g.length))],[(0,some (bm jC g))]⟩) (λ(m,g)=>m<=n/\g++ofNat m=ofNat n) (λ(m,g)=>m) (n,[]) wk ⟨Nat.le_refl _,by rw[nil_append]⟩ ?_
 rintro ⟨m,g⟩ ⟨hm,hg⟩
 have hl:=split_len hg hn
 refine jB<|jB<|kx [(5,(vb (decide (0<((m:Nat):Int)))))] [] (zM<|zE eR<|zZ) ?_
 refine jD (b:=decide (0<((m:Nat):Int))) rfl (λh1=>?_) (λh1=>?_)
 ·replace h1:=vF h1
  refine jF<|jB<|jH<|kf [(3,(.own 0 107 1 ((g++[(m % 1000000000)]).length)))] [(0,some (bm jC (g++[(m % 1000000000)])))] (zM<|zM<|zE (oRe (m % 1000000000))<|zE (cA nL gP (m % 1000000000))<|zE (fC kJ xA yR)<|zA jC g [(m % 1000000000)] rfl kJ xA mK<|zM<|zF) ?_
  refine kx [(0,(gL (m / 1000000000)))] [] (zM<|zE (oQu (m / 1000000000))<|zM<|zZ) ?_
  exact ⟨(m / 1000000000,g++[m % 1000000000]),wk,⟨by omega,split_step hg h1⟩,(by first|omega|(dsimp only;omega))⟩
 ·replace h1:=vT h1
  refine kO<|jB<|kS (xY (t:=3) (k:=0) (es:=map jC g) rfl rfl (vX _ _ (λ_=>rfl)) (vK _ _ rfl) (xV _ _ (λ_=>rfl) rfl)) ?_
  refine kx [(2,(vl 107 1 jC g))] [] (zM<|zM<|zZ) ?_
  refine jE ⟨_,(.tmp (d:=(.sl 107 1 (map jC g))) rfl .nil),?_⟩
  rw[split_end hg h1];rfl
theorem vN:uX prog 30 0=some 0:=by kernel_rfl
theorem vM:uX prog 30 1=some 1:=by kernel_rfl
theorem aT:qD prog 4=some (false,1):=by kernel_rfl
theorem t_big(a:Nat):jP prog 150 [(.val (.int .u32 (((a:Nat):Int))))] (.val (.bool ((decide (1000000000<=((a:Nat):Int)))))):=by
 refine vD func150 ?_
 refine jB<|kx [] [] (zM<|zZ) ?_
 refine jB<|kx [(2,(vb (decide (1000000000<=((a:Nat):Int)))))] [] (zM<|zE oGe<|zM<|zZ) ?_
 refine jE ⟨_,(.tmp (d:=(.val (.bool (decide (1000000000<=((a:Nat):Int)))))) rfl .nil),?_⟩
 rfl
theorem t_index(l:List Nat)(hb:l.length<=17592186044416):jP prog 176 [(.sl 107 1 (map jC l)),(.val (.func (.func 150) #[] #[]))] (.val (.int .i64 ((zD l)))):=by
 refine vD func176 ?_
 refine jB<|kx [] [] (zM<|zZ) ?_
 refine jB<|jB<|kx [(7,(kE l.length)),(8,(kE 0))] [] (zM<|zE (yA kJ)<|zM<|zZ) ?_
 refine jH<|kR (α:=Nat) (λi=>⟨[(0,(vl 107 1 jC l)),(1,(.d (.val (.func (.func 150) #[] #[])))),(7,(kE l.length)),(8,(kE i))],[]⟩) (λi=>i<=l.length/\Dig (l.take i)) (λi=>l.length-i) 0 wk ⟨Nat.zero_le _,gU⟩ ?_
 rintro i ⟨hi,hd⟩
 refine jB<|kx [(9,(vb (decide (((i:Nat):Int)<((l.length:Nat):Int)))))] [] (zE gX<|zZ) ?_
 refine jB<|jD rfl (λh1=>?_) (λh1=>?_)
 ·replace h1:=vF h1
  refine jF<|jB<|jH<|jB<|kx [(5,(kE i))] [] (zM<|zM<|zZ) ?_
  refine jB<|kx [(16,(vb (decide (1000000000<=(((l.getD i 0):Nat):Int)))))] [] (zM<|zM<|zM<|zE (cB kJ i (0:Nat))<|zE (dK qP)<|zE (kB (t_big (l.getD i 0)))<|zZ) ?_
  refine jD rfl (λh2=>?_) (λh2=>?_)
  ·replace h2:=vF h2
   refine jB<|kx [(4,(kE i))] [] (zM<|zM<|zZ) ?_
   refine jE ⟨_,(.tmp (d:=(.val (.int .i64 (((i:Nat):Int))))) rfl .nil),?_⟩
   rw[firstBig_at (by omega) hd (by omega)];rfl
  ·replace h2:=vT h2
   refine jF<|kx [(8,(kE (i+1)))] [] (zE (xO (i+1))<|zM<|zZ) ?_
   exact ⟨(i+1),wk,⟨by omega,dig_take_succ (by omega) hd (by omega)⟩,(by omega)⟩
 ·replace h1:=vT h1
  refine kO<|jB<|kx [(4,(vi (-1)))] [] (zM<|zZ) ?_
  refine jE ⟨_,(.tmp (d:=(.val (.int .i64 (-1)))) rfl .nil),?_⟩
  rw[lH (by rw[take_of_length_le (by omega)] at hd;exact hd)];rfl
theorem t_contains(l:List Nat)(hb:l.length<=17592186044416):jP prog 149 [(.sl 107 1 (map jC l)),(.val (.func (.func 150) #[] #[]))] (.val (.bool ((decide (0<=zD l))))):=by
 refine vD func149 ?_
 refine jB<|kx [] [] (zM<|zZ) ?_
 refine jB<|kx [(4,(vb (decide (0<=(zD l)))))] [] (zM<|zM<|zE (kB (t_index l (by omega)))<|zE oGe<|zM<|zZ) ?_
 refine jE ⟨_,(.tmp (d:=(.val (.bool (decide (0<=(zD l)))))) rfl .nil),?_⟩
 rfl
theorem t_valid(x:kW)(hb:x.gs.length<=17592186044416):jP prog 83 [(jQ x)] (.val (.bool ((uL x)))):=by
 refine vD func83 ?_
 refine jB<|kx [(1,(.ref 0 0))] [(0,some (bx (jQ x)))] (zN (xD 0)<|zM<|zZ) ?_
 refine jB<|kx [(3,(kE x.gs.length))] [] (zE (kK vM)<|zR (qH zU)<|zE (yA kJ)<|zM<|zZ) ?_
 refine jB<|jB<|kx [(8,(vb (((x.gs.length:Nat):Int) == 0)))] [] (zM<|zE xL<|zZ) ?_
 refine jD (b:=(((x.gs.length:Nat):Int) == 0)) rfl (λh1=>?_) (λh1=>?_)
 ·replace h1:=eq_of_beq h1
  refine jB<|kx [(2,(vb (!x.neg)))] [] (zE (kK vN)<|zR (qH aT)<|zE cU<|zM<|zZ) ?_
  refine jE ⟨_,(.tmp (d:=(.val (.bool (!x.neg)))) rfl .nil),?_⟩
  rw[show uL x=!x.neg from if_pos h1];rfl
 ·replace h1:=ne_of_beq_false h1
  refine jF<|jB<|kx [(2,(vb (((((x.gs.getD (x.gs.length-1) 0):Nat):Int) != 0)&&!(decide (0<=zD x.gs)))))] [] ?_ ?_
  ·refine zE (kK vM)<|zR (qH zU)<|zM<|zE (oSb (x.gs.length-1))<|zE (cB kJ (x.gs.length-1) (0:Nat))<|zE (dK qP)<|zE aZ<|zE (oV (vb ((((x.gs.getD (x.gs.length-1) 0):Nat):Int) != 0)) (qA (by kernel_rfl)))<|?_
   rcases hb2:((((x.gs.getD (x.gs.length-1) 0):Nat):Int) != 0) with _ | _
   ·replace hb2:=bne_eq_false_iff_eq.1 hb2
    exact zK<|zK<|zK<|zK<|zE yD<|zM<|zZ
   ·replace hb2:=bne_iff_ne.1 hb2
    exact zE (kK vM)<|zR (qH zU)<|zE (kB (t_contains x.gs (by omega)))<|zE cU<|zE fL<|zM<|zZ
  refine jE ⟨_,(.tmp (d:=(.val (.bool ((((((x.gs.getD (x.gs.length-1) 0):Nat):Int) != 0)&&!(decide (0<=zD x.gs))))))) rfl .nil),?_⟩
  rw[show uL x=_ from if_neg h1];rfl
theorem hZ(x:kW)(hb:x.gs.length<=17592186044416):jP prog 151 [(jQ x)] (.sl 107 1 (map jC (kQ x))):=by
 refine vD func151 ?_
 refine jB<|kx [(1,(.ref 0 0))] [(0,some (bx (jQ x)))] (zN (xD 0)<|zE (aN 107 1)<|zZ) ?_
 refine jB<|jB<|kx [(5,(vb (!(uL x))))] [] (zR (kP kG)<|zE (kB (t_valid x (by omega)))<|zE cU<|zZ) ?_
 refine jD (b:=!(uL x)) rfl (λh1=>?_) (λh1=>?_)
 ·refine jB<|kx [(2,(vl 107 1 jC []))] [] (zE (aN 107 1)<|zZ) ?_
  refine jE ⟨_,(.tmp (d:=(.sl 107 1 (map jC []))) rfl .nil),?_⟩
  rw[show kQ x=[] from if_neg (by simpa using h1)];rfl
 ·refine jF<|jB<|kx [(2,(vl 107 1 jC x.gs))] [] (zE (kK vM)<|zR (qH zU)<|zM<|zZ) ?_
  refine jE ⟨_,(.tmp (d:=(.sl 107 1 (map jC x.gs))) rfl .nil),?_⟩
  rw[show kQ x=x.gs from if_pos (by simpa using h1)];rfl
theorem t_clone(l:List Nat)(hb:l.length<=17592186044416):jP prog 158 [(.sl 107 1 (map jC l))] (.sl 107 1 (map jC l)):=by
 refine vD func158 ?_
 refine jB<|kx [] [] (zE (aN 107 1)<|zZ) ?_
 refine jB<|jB<|pwp_nilq rfl rfl rfl rfl rfl rfl kJ rfl rfl rfl (λnb hnb=>?_)
 refine jD (b:=nb) rfl (λh1=>?_) (λh1=>?_)
 ·refine jB<|kx [(2,(vl 107 1 jC []))] [] (zE (aN 107 1)<|zZ) ?_
  refine jE ⟨_,(.tmp (d:=(.sl 107 1 (map jC []))) rfl .nil),?_⟩
  rw[map_eq_nil_iff.1 (hnb h1)];rfl
 ·refine jF<|jB<|kf [(2,(.own 0 107 1 (([]++l).length)))] [(0,some (bm jC ([]++l)))] (zN (oBo 0 kJ xA yR)<|zM<|zA jC [] l rfl kJ xA mK<|zM<|zF) ?_
  refine kS (xY (t:=2) (k:=0) (es:=map jC ([]++l)) rfl rfl (vX _ _ (λ_=>rfl)) (vK _ _ rfl) (xV _ _ (λ_=>rfl) rfl)) ?_
  refine jE ⟨_,(.tmp (d:=(.sl 107 1 (map jC ([]++l)))) rfl .nil),?_⟩
  rfl
end Go.Proofs.YtckccjhflbljgaaGreatDoor
namespace Go.Fid
open List
open Go.RowKit (Below)
section
variable {P:Program} {o:Oper} {S:Nat->SV}
theorem e_mkf{f:FuncId}{ks:List Nat}{iR:List Operand}(ho:o.op=.makeFunc (.func f) #[] iR.toArray)(hx:iR.map (ev S)=ks.map (λk=>.ref k 0)):uP P o S [] (.clo f ks) :=
 uP.same λa w D β hop _=>by
  refine ⟨.func (.func f) #[] (iR.map a.eval).toArray,?_,iR.map a.eval,rfl,?_,λi k hk=>?_⟩
  ·simp only[execOp,ho,Instr.makeFunc,Array.map_empty,map_toArray,Sem.run_bind,Sem.run_pure,Result.andThen_ok]
   rfl
  ·simpa using congrArg List.length hx
  ·have hi:=congrArg (λl:List SV=>l[i]?) hx
   simp only[getElem?_map,hk,Option.map_some,Option.map_eq_some_iff] at hi
   obtain ⟨c,hc,e⟩:=hi
   have hm:=hop c (by simp [ho,Op.operands,mem_of_getElem? hc])
   rw[e] at hm
   obtain ⟨b,h1,h2⟩:=hm
   exact ⟨b,h1,by rw[getElem?_map,hc,Option.map_some,h2]⟩
theorem e_clc{y:Operand}{xs:List Operand}{ats:Array TypeId}{f:FuncId}{ds:List jY}{r:jY}{ks:List Nat}{css:List (List jY)}{E:TypeId}{rd:List (Nat × List SV)}
  (hf:jP P f (ds++css.map (λcs=>.cptr E cs 0)) r) (ho:o.op=.call { callee:=.value y,args:=xs.toArray,argTypes:=ats }) (hy:ev S y=.clo f ks) (hx:xs.map (ev S)=ds.map .d)
  (hrk:rd=ks.zip (css.map (λcs=>cs.map SV.d))) (qM:css.length=ks.length) (ha:yS E r):uP P o S rd (.d r) :=
 λa w D β Q hop hrd hD=>by
  have hyv:=hop y (by simp [ho,Op.operands,Call.operands])
  rw[hy] at hyv
  obtain ⟨vs,hv1,hv2,hv3⟩:=hyv
  have hl:xs.length=ds.length:=by simpa using congrArg List.length hx
  have hargs0:Args w D (xs.map a.eval) ds:=by
   refine ⟨by simpa using hl,λi v d hv hd=>?_⟩
   rw[getElem?_map,Option.map_eq_some_iff] at hv
   obtain ⟨x,hxi,rfl⟩:=hv
   have hm:=hop x (by simp [ho,Op.operands,Call.operands,mem_of_getElem? hxi])
   have hi:=congrArg (λl:List SV=>l[i]?) hx
   simp only[getElem?_map,hxi,hd,Option.map_some,Option.some.injEq] at hi
   rw[hi] at hm
   exact hm
  have hrun:(execOp a.eval o).run P w=.ok (.enter f (xs.map a.eval++vs).toArray) w:=by
   simp only[execOp,ho,resolve,Deferred.ofValue,hv1,Sem.run_bind,Sem.run_pure,Result.andThen_ok,invoke,Array.empty_append]
   rw[xJ hf.may]
   simp
  -- the private variables are published for the time of the call
  let X:TypeId->Nat->Nat->Prop:=λt g _=>t=E/\∃ k∈ks,β k=some g
  have hblk:∀ (i:Nat) k cs,ks[i]?=some k->css[i]?=some cs->uE w D β k (cs.map SV.d):=λi k cs hk hc=>by
   refine hrd (k,cs.map SV.d) ?_
   rw[hrk]
   refine mem_of_getElem? (i:=i) ?_
   rw[getElem?_zip_eq_some]
   exact ⟨hk,by rw[getElem?_map,hc];rfl⟩
  have hcap:∀ (i:Nat) k cs,ks[i]?=some k->css[i]?=some cs->∃ b us T',β k=some b/\vs[i]?=some (.pointer (some ⟨b,0,none⟩))/\w.heap[b]?=some (.cells us T' (0,0)) /\
    (∀ (j:Nat) x,(cs.map SV.d)[j]?=some x->∃ u,us[j]?=some u/\u.oneCell'=true/\kZ w D β u x)/\∀ t o,¬ D t b o:=λi k cs hk hc=>by
   obtain ⟨b,h1,h2⟩:=hv3 i k hk
   rcases hblk i k cs hk hc with g1 | ⟨b',us,T',g1,g2,g3,g4,g5⟩
   ·have g1:=(g1.cells (mM _)).1;rw[h1] at g1;cases g1
   ·obtain rfl:b=b':=by rw[h1] at g1;injection g1
    exact ⟨b,us,T',h1,h2,g2,g4,g5⟩
  have hXb:∀ t g i,X t g i->(∀ t' i',¬ D t' g i')/\g<w.heap.size:=λt g i ⟨_,k,hk,hb⟩=>by
   obtain ⟨i,hi⟩:=getElem?_of_mem hk
   have hlt:i<css.length:=by rw[qM];exact (List.getElem?_eq_some_iff.1 hi).1
   obtain ⟨b,us,T',h1,_,h3,_,h5⟩:=hcap i k _ hi (getElem?_eq_getElem hlt)
   obtain rfl:g=b:=by rw[hb] at h1;injection h1
   exact ⟨λt' i'=>h5 t' i',qW h3⟩
  have hD':iU (λt g i=>D t g i\/X t g i) w:=hD.more (λ_ _ _ hd=>.inl hd) λt g i hd=>by
   rcases hd with hd | hd
   ·exact hD.lt _ _ _ hd
   ·exact (hXb t g i hd).2
  have hmono:∀ t' g i,D t' g i->(D t' g i\/X t' g i)/\w.cell? ⟨g,i,none⟩=w.cell? ⟨g,i,none⟩:=λt' g i hd=>⟨.inl hd,rfl⟩
  have hargs:Args w (λt g i=>D t g i\/X t g i) (xs.map a.eval++vs) (ds++css.map (λcs=>.cptr E cs 0)):=by
   refine ⟨by simp [hl,hv2,qM],λi v d hv hd=>?_⟩
   by_cases hi:i<xs.length
   ·rw[getElem?_append_left (by simpa using hi)] at hv
    rw[getElem?_append_left (by omega)] at hd
    exact uS.mono hmono (hargs0.2 i v d hv hd)
   ·rw[getElem?_append_right (by simpa using hi),length_map] at hv
    rw[getElem?_append_right (by omega),<- hl] at hd
    rw[getElem?_map,Option.map_eq_some_iff] at hd
    obtain ⟨cs,hcs,rfl⟩:=hd
    have hlt:i-xs.length<ks.length:=by rw[<- qM];exact (List.getElem?_eq_some_iff.1 hcs).1
    obtain ⟨b,us,T',h1,h2,h3,h4,h5⟩:=hcap _ _ cs (getElem?_eq_getElem hlt) hcs
    rw[h2] at hv
    injection hv with hv
    subst hv
    have hcell:∀ j,w.cell? ⟨b,j,none⟩=us[j]?:=λj=>cell_of_row w b j us T' (0,0) h3
    have hj:∀ j,j<cs.length->∃ u,us[j]?=some u/\u.oneCell'=true/\uS w D u (cs[j]?.getD (.tup [])):=λj hj=>by
     obtain ⟨u,q1,q2,q3⟩:=h4 j (.d cs[j]) (by rw[getElem?_map,getElem?_eq_getElem hj];rfl)
     exact ⟨u,q1,q2,by rw[getElem?_eq_getElem hj];exact q3⟩
    refine uS.cptr (off:=0) b 0 (λj=>us.getD j undef) (λj _=>.inr ⟨rfl,_,getElem_mem hlt,h1⟩) (λj hj'=>?_) (λj hj'=>?_) (λj d hd=>?_)
    ·obtain ⟨u,q1,_,_⟩:=hj j hj'
     rw[Nat.zero_add,hcell,Array.getD_eq_getD_getElem?,q1];rfl
    ·obtain ⟨u,q1,q2,_⟩:=hj j hj'
     rw[Array.getD_eq_getD_getElem?,q1];exact q2
    ·obtain ⟨u,q1,q2,q3⟩:=hj j (List.getElem?_eq_some_iff.1 hd).1
     rw[Array.getD_eq_getD_getElem?,q1]
     rw[hd] at q3
     exact uS.mono hmono q3
  refine dG hrun ((hf.run w _ _ hD' hargs).mono λe w' h=>?_)
  obtain ⟨v,D2,he,h1,h2,h3⟩:=h
  refine ⟨v,he,v,λt g i=>D2 t g i/\¬ X t g i,rfl,h1,⟨λt g i hd=>⟨h2.up _ _ _ (.inl hd),λhx'=>(hXb t g i hx').1 t i hd⟩,λt g i hd=>?_⟩,?_⟩
  ·rcases h2.new t g i hd.1 with h | h
   ·rcases h with h | h
    ·exact .inl h
    ·exact absurd h hd.2
   ·exact .inr h
  ·exact ha.rep (λt g i hne hd=>⟨hd,λhx'=>hne hx'.1⟩) h3
theorem oMf{f:FuncId}{iR:List Operand}(ks:List Nat)(ho:o.op=.makeFunc (.func f) #[] iR.toArray:=by exact rfl)(hx:iR.map (ev S)=ks.map (λk=>.ref k 0):=by kernel_rfl):uP P o S [] (.clo f ks):=e_mkf ho hx
end
def RKs(P:Program)(o:Oper)(S:SL)(B:BS)(ks:List Nat)(x:SV):Prop:=∃ rd:List (Nat × List SV),rd.map (·.1)=ks/\uP P o (kD S) rd x/\∀ p∈rd,kC B p.1=some p.2
theorem oCc{P:Program}{o:Oper}{S:SL}{B:BS}{y:Operand}{xs:List Operand}{ats:Array TypeId}{f:FuncId}{ds:List jY}{r:jY}(ks:List Nat)(css:List (List jY))
  (hf:jP P f (ds++css.map (λcs=>.cptr 1000000 cs 0)) r) (ha:yS 1000000 r) (ho:o.op=.call { callee:=.value y,args:=xs.toArray,argTypes:=ats }:=by exact rfl) (hy:ev (kD S) y=.clo f ks:=by kernel_rfl) (hx:xs.map (ev (kD S))=ds.map .d:=by kernel_rfl)
  (qM:Nat.beq css.length ks.length=true:=by kernel_rfl) (hb:ks.map (λk=>kC B k)=css.map (λcs=>some (cs.map SV.d)):=by kernel_rfl):RKs P o S B ks (.d r):=by
 have qM:=Nat.eq_of_beq_eq_true qM
 refine ⟨ks.zip (css.map (λcs=>cs.map SV.d)),?_,e_clc hf ho hy hx rfl qM ha,λp hp=>?_⟩
 ·rw[map_fst_zip];simp [qM]
 ·obtain ⟨i,hi⟩:=getElem?_of_mem hp
  rw[getElem?_zip_eq_some] at hi
  have h1:=congrArg (λl:List (Option (List SV))=>l[i]?) hb
  simp only[getElem?_map,hi.1,Option.map_some] at h1
  have h2:=hi.2
  rw[getElem?_map,Option.map_eq_some_iff] at h2
  obtain ⟨cs,hc,e⟩:=h2
  rw[hc] at h1
  simp only[Option.map_some,Option.some.injEq] at h1
  rw[h1,e]
section
variable {P:Program} {n:Fr} {ops:Array Oper} {K:SL->BS->Prop} {S:SL} {B:BS} {l:List Oper} {o:Oper} {news:List Nat} {acc0:List (List Nat × List Nat)}
theorem zC{ks:List Nat}{x:SV}(h:RKs P o S B ks x)(r:SK P n ops K ((dO o,x)::S) B l)(g:goK n ops S o=true:=by kernel_rfl):SK P n ops K S B (o::l):=by
 obtain ⟨st1,r1,r2⟩:=r
 obtain ⟨rd,_,h,hbk⟩:=h
 obtain ⟨hd,hg,hb⟩:=yV g
 have hs:=Step.e (P:=P) (n:=n) (ops:=ops) (st:=⟨S,B⟩) (o:=o) h hg (by rw[hd];exact hb) hbk
 rw[hd] at hs
 exact ⟨st1,.cons hs r1,r2⟩
theorem wC{ks:List Nat}{x:SV}(h:RKs P o S B ks x)(r:DK P n ops K news (acc0++[(ks,[])]) ((dO o,x)::S) B l)(g:goK n ops S o=true:=by kernel_rfl)(hn:clearR ops S o news x=true:=by kernel_rfl):DK P n ops K news acc0 S B (o::l):=by
 obtain ⟨st1,acc,r1,r0,r2⟩:=r
 obtain ⟨rd,hk,h,hbk⟩:=h
 obtain ⟨hd,hg,hb⟩:=yV g
 have hs:=mV.e (P:=P) (n:=n) (ops:=ops) (news:=news) (st:=⟨S,B⟩) (o:=o) h hg (by rw[hd];exact hb) hbk hn
 rw[hd,hk] at hs
 exact ⟨st1,(ks,[])::acc,.cons hs r1,by simpa using r0,r2⟩
end
inductive CArgs (bl:List (Nat × List jY)):List Nat->List (List jY)->Prop
 |nil:CArgs bl [] []
 |cons {k:Nat} {cs:List jY} {ks:List Nat} {css:List (List jY)} (hk:(k,cs)∈bl) (h:CArgs bl ks css):CArgs bl (k::ks) (cs::css)
theorem CArgs.len{bl:List (Nat × List jY)}{ks:List Nat}{css:List (List jY)}(h:CArgs bl ks css):ks.length=css.length:=by
 induction h with
 |nil=>rfl
 |cons hk h ih=>simp [ih]
theorem CArgs.get{bl:List (Nat × List jY)}{ks:List Nat}{css:List (List jY)}(h:CArgs bl ks css):∀ (i:Nat) k cs,ks[i]?=some k->css[i]?=some cs->(k,cs)∈bl:=by
 induction h with
 |nil=>intro i k cs h;simp at h
 |cons hk h ih=>
  intro i k cs h1 h2
  rcases i with _ | i
  ·simp at h1 h2;subst h1;subst h2;exact hk
  ·exact ih i k cs (by simpa using h1) (by simpa using h2)
inductive bS (bl:List (Nat × List jY)) (E:TypeId):List SV->List jY->Prop
 |nil:bS bl E [] []
 |d {x:jY} {zs:List SV} {ds:List jY} (h:bS bl E zs ds):bS bl E (.d x::zs) (x::ds)
 |v {k q n s:Nat} {cs es:List jY} {zs:List SV} {ds:List jY} (hk:(k,cs)∈bl) (hes:∀ e∈es,e.cells.length=s) (hl:es.length=n) (hc:(cs.drop q).take (n*s)=qK es) (h:bS bl E zs ds):bS bl E (.view k q n::zs) (.sl E s es::ds)
 |p {k o:Nat} {cs:List jY} {zs:List SV} {ds:List jY} (hk:(k,cs)∈bl) (h:bS bl E zs ds):bS bl E (.ref k o::zs) (.cptr E cs o::ds)
 |c {f:FuncId} {ks:List Nat} {css:List (List jY)} {zs:List SV} {ds:List jY} (hk:CArgs bl ks css) (h:bS bl E zs ds):bS bl E (.clo f ks::zs) (.clo f (css.map λcs=>.cptr E cs 0)::ds)
theorem bS.len{bl:List (Nat × List jY)}{E:TypeId}{zs:List SV}{ds:List jY}(h:bS bl E zs ds):zs.length=ds.length:=by
 induction h with
 |nil=>rfl
 |d h ih=>simp [ih]
 |v hk hes hl hc h ih=>simp [ih]
 |p hk h ih=>simp [ih]
 |c hk h ih=>simp [ih]
theorem bS.rep{bl:List (Nat × List jY)}{E:TypeId}{zs:List SV}{ds:List jY}(h:bS bl E zs ds){w:World}{D D':kV}{β:kX}(h1:∀ v x,uS w D v x->uS w D' v x)
  (h2:∀ (k q n s:Nat) (cs es:List jY) (v:Value),(k,cs)∈bl->(∀ e∈es,e.cells.length=s)->es.length=n->(cs.drop q).take (n*s)=qK es->kZ w D β v (.view k q n)->uS w D' v (.sl E s es))
  (h3:∀ (k o:Nat) (cs:List jY) (v:Value),(k,cs)∈bl->kZ w D β v (.ref k o)->uS w D' v (.cptr E cs o)) :
  ∀ (vs:List Value),vs.length=zs.length->(∀ (i:Nat) v x,vs[i]?=some v->zs[i]?=some x->kZ w D β v x)->∀ (i:Nat) v d,vs[i]?=some v->ds[i]?=some d->uS w D' v d:=by
 induction h with
 |nil=>intro vs _ _ i v d _ hd;simp at hd
 |d h ih=>
  intro vs hl hr i v d' hv hd
  rcases vs with _ | ⟨v0,vs⟩
  ·simp at hl
  ·rcases i with _ | i
   ·simp at hv hd;subst hv;subst hd;exact h1 _ _ (hr 0 _ _ rfl rfl)
   ·exact ih vs (by simpa using hl) (λi v x h3 h4=>hr (i+1) v x (by simpa using h3) (by simpa using h4)) i v d' (by simpa using hv) (by simpa using hd)
 |v hk hes hl' hc h ih=>
  intro vs hl hr i v d' hv hd
  rcases vs with _ | ⟨v0,vs⟩
  ·simp at hl
  ·rcases i with _ | i
   ·simp at hv hd;subst hv;subst hd;exact h2 _ _ _ _ _ _ _ hk hes hl' hc (hr 0 _ _ rfl rfl)
   ·exact ih vs (by simpa using hl) (λi v x h3 h4=>hr (i+1) v x (by simpa using h3) (by simpa using h4)) i v d' (by simpa using hv) (by simpa using hd)
 |p hk h ih=>
  intro vs hl hr i v d' hv hd
  rcases vs with _ | ⟨v0,vs⟩
  ·simp at hl
  ·rcases i with _ | i
   ·simp at hv hd;subst hv;subst hd;exact h3 _ _ _ _ hk (hr 0 _ _ rfl rfl)
   ·exact ih vs (by simpa using hl) (λi v x h3 h4=>hr (i+1) v x (by simpa using h3) (by simpa using h4)) i v d' (by simpa using hv) (by simpa using hd)
 |c hk h ih=>
  intro vs hl hr i v d' hv hd
  rcases vs with _ | ⟨v0,vs⟩
  ·simp at hl
  ·rcases i with _ | i
   ·simp at hv hd;subst hv;subst hd
    obtain ⟨us,e1,e2,e3⟩:=hr 0 _ _ rfl rfl
    rw[e1]
    refine .clo us (by rw[e2,hk.len,length_map]) λj u d hu hd=>?_
    rw[getElem?_map,Option.map_eq_some_iff] at hd
    obtain ⟨cs,hcs,rfl⟩:=hd
    have hlt:j<_:=(List.getElem?_eq_some_iff.1 hcs).1
    rw[<- hk.len] at hlt
    obtain ⟨b,g1,g2⟩:=e3 j _ (getElem?_eq_getElem hlt)
    rw[hu] at g2
    injection g2 with g2
    exact h3 _ 0 cs u (hk.get j _ cs (getElem?_eq_getElem hlt) hcs) ⟨b,g1,g2⟩
   ·exact ih vs (by simpa using hl) (λi v x h3 h4=>hr (i+1) v x (by simpa using h3) (by simpa using h4)) i v d' (by simpa using hv) (by simpa using hd)
variable {P:Program}
theorem lK{t:TypeId}{ms:List Int}{i:Nat}{m:Int}{k j:IntKind}(ht:P.underlying t=some (.int j))(hi:ms[i]?=some m)(w:World):(part t (ms.map (Value.int k)).toArray i).run P w=.ok (.int k m) w:=by
 have h2:(ms.map (Value.int k))[i]?=some (.int k m):=by rw[getElem?_map,hi];rfl
 simp [part,iE ht,isAggD,h2]
theorem run_eqInt{t:TypeId}{k j:IntKind}{m n:Int}(ht:P.underlying t=some (.int j))(d:Nat)(w:World):(Op.equalIn (d+1) t (.int k m) (.int k n)).run P w=.ok (m == n) w:=by
 simp [Op.equalIn,run_underlying ht]
end Go.Fid
namespace Go.Fid
open List
variable {P:Program} {o:Oper} {S:Nat->SV}
theorem e_nckd{x:Operand}{t:TypeId}{q:Nat}{cs:List jY}(ho:o.op=.nilCheck x)(hx:ev S x=.d (.cptr t cs q)):uP P o S [] (.d (.cptr t cs q)) :=
 uP.same λa' w D β hop _=>by
  have hp:=hop x (by simp [ho,Op.operands])
  rw[hx] at hp
  generalize hvv:a'.eval x=v at hp
  cases hp with
  |cptr g p u hD hu h1 hr=>
   exact ⟨.pointer (some ⟨g,p+q,none⟩),by simp [execOp,ho,hvv],uS.cptr g p u hD hu h1 hr⟩
theorem oNd{x:Operand}{t:TypeId}{q:Nat}{cs:List jY}(ho:o.op=.nilCheck x:=by exact rfl)(hx:ev S x=.d (.cptr t cs q):=by exact rfl):uP P o S [] (.d (.cptr t cs q)):=e_nckd ho hx
end Go.Fid
namespace Go.Fid
open List
variable {P:Program} {o:Oper} {S:Nat->SV}
end Go.Fid
namespace Go.Fid
open List
open Go.RowKit (Below)
theorem app_blkG{w:World}{D:kV}{β:kX}{b:Nat}{arr:List Value}{E:TypeId}{k:Nat}{cs:List SV}(hkb:β k=some b)(dR:w.heap[b]?=some (.cells arr.toArray E (0,0)))(qM:cs.length<=arr.length)
  (h:∀ (i:Nat) x,cs[i]?=some x->∃ u,arr[i]?=some u/\u.oneCell'=true/\kZ w D β u x) (hp:∀ t o,¬ D t b o):uE w D β k cs:=by
 refine .inr ⟨b,arr.toArray,E,hkb,dR,by simpa using qM,λi x hx=>?_,hp⟩
 obtain ⟨u,e1,e2,e3⟩:=h i x hx
 exact ⟨u,by simpa using e1,e2,e3⟩
theorem names_get{k:Nat}{cs:List SV}(h:qI k cs=false){i:Nat}{x:SV}(hx:cs[i]?=some x):x.names k=false:=by
 simp only[qI,any_eq_false] at h
 simpa using h x (mem_of_getElem? hx)
theorem app_getG{cs:List SV}{ds:List jY}{q:Nat}{x:SV}(h:(cs++ds.map .d)[q]?=some x):(q<cs.length/\cs[q]?=some x)\/(cs.length<=q/\∃ d,ds[q-cs.length]?=some d/\x=.d d):=by
 by_cases hq:q<cs.length
 ·rw[getElem?_append_left hq] at h;exact .inl ⟨hq,h⟩
 ·rw[getElem?_append_right (by omega),getElem?_map,Option.map_eq_some_iff] at h
  obtain ⟨d,h1,h2⟩:=h
  exact .inr ⟨by omega,d,h1,h2.symm⟩
section
variable {P:Program} {o:Oper} {st:PS}
end
section
variable {P:Program} {o:Oper} {S:Nat->SV}
theorem app_local{T E t':TypeId}{x y:Operand}{k k' s m bytes:Nat}{zv:List Value}{es':List jY}{cs:List SV}(ho:o.op=.call { callee:=.builtin .append,args:=#[x,y],argTypes:=#[T,T] })
  (hT:uU P T=some (E,s)) (hz:xH P E=some zv) (hzl:zv.length=s) (hby:zJ P E=some bytes) (hx:ev S x=.own k E s m) (hself:qI k' cs=false)
  (hes:cs.length=m*s) (hy:ev S y=.d (.sl t' s es')) (hpos:0<es'.length) (hbig:m+es'.length<=maxLen) (hbig':(m+es'.length)*bytes<=140737488355328) :
  AOk P o S k k' cs (cs++(qK es').map .d) (.own k' E s (m+es'.length)):=λa w D β Q hop hblk hdok=>by
 have h1:=hop x (by simp [ho,Op.operands,Call.operands])
 have h2:=hop y (by simp [ho,Op.operands,Call.operands])
 have hβ:∀ (b j:Nat),j≠k'->(β.set k' b) j=β j:=λb j hj=>by simp [kX.set,hj]
 rw[hx] at h1
 rw[hy] at h2
 obtain ⟨ao,c,us,hyv,hcc,hul,hfl',eD,hrep,had⟩:=lB h2
 obtain ⟨i,z,z1,z2,z3⟩:=fG hz
 obtain ⟨j,f1,f2,f3⟩:=cL hT
 have hij:i=j:=by rw[z1] at f2;injection f2
 subst hij
 have hbi:i.bytes=bytes:=by
  unfold zJ at hby
  rw[z1] at hby
  simpa using hby
 subst hbi
 have hzs:z.cells.size=s:=by rw[z3];simpa using hzl
 have hml:(maxLen:Int)<=9223372036854775807:=by decide
 have hfll:(cs++(qK es').map SV.d).length=(m+es'.length)*s:=by rw[length_append,length_map,hes,hfl',Nat.add_mul]
 ·obtain ⟨ad,rfl,hcell⟩:=had hpos
  rcases h1 with ⟨hk0,hm,hv⟩ | ⟨b,cap,vs,hkb,hv,dR,hvs,hmc,hcap⟩
  ·subst hm
   have hbytes:es'.length*i.bytes<=281474976710656:=by rw[Nat.zero_add] at hbig';omega
   have hr:=run_append_nil (P:=P) w T o.type E i z f1 z1 z2 ad es'.length c us (by rw[hul,f3]) hcell (by omega) (by omega) hbytes
   have hes0:cs=[]:=eq_nil_of_length_eq_zero (by simpa using hes)
   subst hes0
   have hge:=grownCap_ge w es'.length 0 E
   have hcm:=grownCap_le_maxLen w es'.length 0 E (by omega)
   generalize grownCap w es'.length 0 E=G at hr hge hcm
   have nC:Below w.heap.size w (w.drew.alloc (.cells (us.toArray++Builtin.zeroCells z.cells (G-es'.length)) E)):=⟨rfl,rfl,rfl,by simp,λq hq=>heap_alloc_old w.drew _ hq⟩
   have hblk':uE (w.drew.alloc (.cells (us.toArray++Builtin.zeroCells z.cells (G-es'.length)) E)) D (β.set k' w.heap.size) k' ([]++(qK es').map .d):=by
    have earr:us.toArray++Builtin.zeroCells z.cells (G-es'.length)=(us++(Builtin.zeroCells z.cells (G-es'.length)).toList).toArray:=by apply Array.ext';simp
    refine app_blkG (b:=w.heap.size) (E:=E) (arr:=us++(Builtin.zeroCells z.cells (G-es'.length)).toList) (by simp [kX.set]) (by rw[<- earr];exact heap_alloc_new w.drew _) (by rw[hfll,Nat.zero_add,length_append];omega) ?_ (λt q hq=>Nat.lt_irrefl _ (hdok.lt t _ q hq))
    intro q x hq
    obtain ⟨d,hq2,rfl⟩:∃ d,(qK es')[q]?=some d/\x=.d d:=by
     rcases app_getG hq with ⟨h1,_⟩ | ⟨_,h2⟩
     ·cases h1
     ·simpa using h2
    have hlt:q<us.length:=by
     have:=(List.getElem?_eq_some_iff.1 hq2).1
     omega
    exact ⟨us[q],by rw[getElem?_append_left hlt];simp [hlt],eD _ (by simp),(hrep q us[q] d (by simp [hlt]) hq2).up nC (aJ.of_same D) hdok⟩
   have hx':kZ (w.drew.alloc (.cells (us.toArray++Builtin.zeroCells z.cells (G-es'.length)) E)) D (β.set k' w.heap.size) (.slice (some ⟨w.heap.size,0,none⟩) es'.length G) (.own k' E s (0+es'.length)):=by
    rw[Nat.zero_add]
    refine .inr ⟨w.heap.size,G,_,by simp [kX.set],rfl,heap_alloc_new w.drew _,?_,hge,hcm⟩
    simp only[Array.size_append,size_toArray,size_zeroCells,hzs,hul,<- Nat.add_mul]
    congr 1
    omega
   have this:APost a w D β o.dst k k' _ _ _ _:=⟨_,_,rfl,hblk',hx',.inl ⟨nC,Nat.le_refl _,by simp⟩⟩
   unfold Oper.wp execOp
   simp only[ho,resolve,invoke,builtin,Sem.run_bind,Sem.run_pure,Result.andThen_ok,map_toArray,map_cons,map_nil,hv,hyv,hr]
   exact this
  ·have hb4:∃ b' vs' T',β k=some b'/\w.heap[b']?=some (.cells vs' T' (0,0))/\cs.length<=vs'.size/\(∀ (i:Nat) x,cs[i]?=some x->∃ u,vs'[i]?=some u/\u.oneCell'=true/\kZ w D β u x)/\∀ t o,¬ D t b' o:=by
    rcases hblk with h | h
    ·exact (h.at_cells hkb dR).elim
    ·exact h
   obtain ⟨b',vs',T',e1,e2,e3,e4,e5⟩:=hb4
   have:b'=b:=by rw[hkb] at e1;injection e1 with e1;exact e1.symm
   subst this
   have:vs'=vs:=by rw[dR] at e2;injection e2 with e2;injection e2 with e2;exact e2.symm
   subst this
   have hle:m*s<=vs'.size:=by rw[hvs];exact Nat.mul_le_mul_right _ hmc
   by_cases hroom:m+es'.length<=cap
   ·have hfit:m*s+us.length<=vs'.size:=by rw[hul,hvs,<- Nat.add_mul];exact Nat.mul_le_mul_right _ hroom
    have hr:=run_append_room (P:=P) w T o.type E i f1 z1 b' m cap vs' dR ad es'.length c us (by rw[hul,f3]) hcell eD hroom (by rw[f3];exact hfit)
    rw[f3] at hr
    have hpl:=nS (l:=vs'.toList) (off:=m*s) (new:=us) (by simpa using hfit)
    have hw:=lG w b' (vs'.toList.take (m*s)++us++vs'.toList.drop (m*s+us.length)).toArray (λvs2 T2 f2 h=>by
     rw[dR] at h
     injection h with h
     injection h with h
     subst h
     have e:patch vs'.toList (m*s) us=vs'.toList.take (m*s)++us++vs'.toList.drop (m*s+us.length):=rfl
     rw[e] at hpl
     simpa using hpl)
    have hheap':=setRow_heap w b' vs' (vs'.toList.take (m*s)++us++vs'.toList.drop (m*s+us.length)).toArray E _ dR
    have hpg:∀ q,(vs'.toList.take (m*s)++us++vs'.toList.drop (m*s+us.length))[q]?=if q<m*s then vs'.toList[q]? else if q<m*s+us.length then us[q-m*s]? else vs'.toList[q]?:=λq=>mB (by simpa using hfit) q
    have hblk':uE (w.setRow b' (vs'.toList.take (m*s)++us++vs'.toList.drop (m*s+us.length)).toArray) D (β.set k' b') k' (cs++(qK es').map .d):=by
     refine app_blkG (b:=b') (by simp [kX.set]) hheap' ?_ ?_ e5
     ·have e:patch vs'.toList (m*s) us=vs'.toList.take (m*s)++us++vs'.toList.drop (m*s+us.length):=rfl
      rw[e] at hpl
      rw[hpl,hfll,Nat.add_mul]
      simp only[Array.length_toList]
      omega
     ·intro q x hq
      rw[hpg q]
      rcases app_getG hq with ⟨c1,hq2⟩ | ⟨c1,d,hq2,rfl⟩
      ·rw[hes] at c1
       rw[if_pos c1]
       obtain ⟨u,g1,g2,g3⟩:=e4 q x hq2
       exact ⟨u,by simpa using g1,g2,(hw.repS e5 g3).frame (hβ b') (names_get hself hq2)⟩
      ·rw[hes] at c1 hq2
       have hlt:q-m*s<us.length:=by
        have:=(List.getElem?_eq_some_iff.1 hq2).1
        omega
       rw[if_neg (by omega),if_pos (by omega)]
       exact ⟨us[q-m*s],by simp [hlt],eD _ (by simp),hw.rep e5 (hrep _ _ d (by simp [hlt]) hq2)⟩
    have hx':kZ (w.setRow b' (vs'.toList.take (m*s)++us++vs'.toList.drop (m*s+us.length)).toArray) D (β.set k' b') (.slice (some ⟨b',0,none⟩) (m+es'.length) cap) (.own k' E s (m+es'.length)):=by
     refine .inr ⟨b',cap,_,by simp [kX.set],rfl,hheap',?_,hroom,hcap⟩
     have e:patch vs'.toList (m*s) us=vs'.toList.take (m*s)++us++vs'.toList.drop (m*s+us.length):=rfl
     rw[e] at hpl
     simpa [hvs] using hpl
    have this:APost a w D β o.dst k k' _ _ _ _:=⟨_,_,rfl,hblk',hx',.inr ⟨hkb,hw,e5⟩⟩
    unfold Oper.wp execOp
    simp only[ho,resolve,invoke,builtin,Sem.run_bind,Sem.run_pure,Result.andThen_ok,map_toArray,map_cons,map_nil,hv,hyv,hr]
    exact this
   ·have hol:(vs'.toList.take (m*s)).length=m*i.size:=by rw[f3,length_take];simp;omega
    have holds:∀ q u,(vs'.toList.take (m*s))[q]?=some u->w.cell? ((⟨b',0,none⟩:Addr).add q)=some u:=λq u hq=>by
     rw[Addr.add_lit,Nat.zero_add,cell_of_row w b' q vs' E (0,0) dR]
     rw[getElem?_take] at hq
     split at hq
     ·simpa using hq
     ·cases hq
    have hr:=run_append_grow (P:=P) w T o.type E i z f1 z1 z2 ⟨b',0,none⟩ m cap (vs'.toList.take (m*s)) hol holds ad es'.length c us (by rw[hul,f3]) hcell (by omega) (by omega) (growslice_fits (by omega) hbig')
    have hge:=grownCap_ge w (m+es'.length) cap E
    have hcm:=grownCap_le_maxLen w (m+es'.length) cap E (by omega)
    generalize grownCap w (m+es'.length) cap E=G at hr hge hcm
    have nC:Below w.heap.size w (w.drew.alloc (.cells ((vs'.toList.take (m*s)).toArray++us.toArray++Builtin.zeroCells z.cells (G-(m+es'.length))) E)):=⟨rfl,rfl,rfl,by simp,λq hq=>heap_alloc_old w.drew _ hq⟩
    have hblk':uE (w.drew.alloc (.cells ((vs'.toList.take (m*s)).toArray++us.toArray++Builtin.zeroCells z.cells (G-(m+es'.length))) E)) D (β.set k' w.heap.size) k' (cs++(qK es').map .d):=by
     have earr:(vs'.toList.take (m*s)).toArray++us.toArray++Builtin.zeroCells z.cells (G-(m+es'.length))=(vs'.toList.take (m*s)++us++(Builtin.zeroCells z.cells (G-(m+es'.length))).toList).toArray:=by apply Array.ext';simp
     rw[f3] at hol
     refine app_blkG (b:=w.heap.size) (E:=E) (by simp [kX.set]) (by rw[<- earr];exact heap_alloc_new w.drew _) (by rw[hfll,length_append,length_append,hol,Nat.add_mul];omega) ?_ (λt q hq=>Nat.lt_irrefl _ (hdok.lt t _ q hq))
     intro q x hq
     rcases app_getG hq with ⟨c1,hq2⟩ | ⟨c1,d,hq2,rfl⟩
     ·rw[hes] at c1
      obtain ⟨u,g1,g2,g3⟩:=e4 q x hq2
      refine ⟨u,?_,g2,(g3.up nC (aJ.of_same D) hdok).frame (λj hj=>by simp [kX.set,hj]) (names_get hself hq2)⟩
      rw[append_assoc,getElem?_append_left (by omega),getElem?_take,if_pos c1]
      simpa using g1
     ·rw[hes] at c1 hq2
      have hlt:q-m*s<us.length:=by
       have:=(List.getElem?_eq_some_iff.1 hq2).1
       omega
      refine ⟨us[q-m*s],?_,eD _ (by simp),(hrep _ _ d (by simp [hlt]) hq2).up nC (aJ.of_same D) hdok⟩
      rw[append_assoc,getElem?_append_right (by omega),hol,getElem?_append_left hlt]
      simp [hlt]
    have hx':kZ (w.drew.alloc (.cells ((vs'.toList.take (m*s)).toArray++us.toArray++Builtin.zeroCells z.cells (G-(m+es'.length))) E)) D (β.set k' w.heap.size) (.slice (some ⟨w.heap.size,0,none⟩) (m+es'.length) G) (.own k' E s (m+es'.length)):=by
     refine .inr ⟨w.heap.size,G,_,by simp [kX.set],rfl,heap_alloc_new w.drew _,?_,hge,hcm⟩
     rw[f3] at hol
     simp only[Array.size_append,size_toArray,size_zeroCells,hzs,hul,hol,<- Nat.add_mul]
     congr 1
     omega
    have this:APost a w D β o.dst k k' _ _ _ _:=⟨_,_,rfl,hblk',hx',.inl ⟨nC,Nat.le_refl _,by simp⟩⟩
    unfold Oper.wp execOp
    simp only[ho,resolve,invoke,builtin,Sem.run_bind,Sem.run_pure,Result.andThen_ok,map_toArray,map_cons,map_nil,hv,hyv,hr]
    exact this
end
def rowC(E:TypeId)(s:Nat):Nat->List (List jY)->List SV
 |_,[]=>[]
 |k,r::rs=>.own k E s r.length::rowC E s (k+1) rs
theorem mapCs_rowC(E:TypeId)(s k:Nat)(rows:List (List jY)):yC (rowC E s k rows)=false:=by
 rcases rows with _ | ⟨a,_ | ⟨b,l⟩⟩<;>rfl
theorem blk_weak{w:World}{D:kV}{β:kX}{k:Nat}{cs cs':List SV}(h:uE w D β k cs)(hl:cs'.length=cs.length)(hx:∀ (i:Nat) (x:SV),cs'[i]?=some x->x=SV.junk\/cs[i]?=some x)(hm:yC cs=false):uE w D β k cs':=by
 rcases h with h | ⟨b,vs,T,h1,h2,h3,h4,h5⟩
 ·obtain ⟨h1,h2⟩:=h.cells hm;exact .inl (.inl ⟨h1,eq_nil_of_length_eq_zero (by rw[hl,h2];rfl)⟩)
 ·refine .inr ⟨b,vs,T,h1,h2,by omega,λi x hi=>?_,h5⟩
  have hlt:i<cs.length:=by have:=(List.getElem?_eq_some_iff.1 hi).1;omega
  obtain ⟨u,e1,e2,e3⟩:=h4 i _ (getElem?_eq_getElem hlt)
  rcases hx i x hi with rfl | h
  ·exact ⟨u,e1,e2,trivial⟩
  ·rw[getElem?_eq_getElem hlt] at h
   injection h with h
   exact ⟨u,e1,e2,h▸e3⟩
section
variable {P:Program} {o:Oper} {S:SL}
theorem bX{st:PS}{j k s m:Nat}{T:TypeId}{pre post cs:List SV}{es:List jY}(hj:kC st.bs j=some (pre++.own k T s m::post))(hjk:k≠j)(hb:kC st.bs k=some cs)(hes:∀ e∈es,e.cells.length=s)(hl:es.length=m)(hc:cs.take (m*s)=(qK es).map .d) :
  xI st ⟨st.sl,(j,some (pre++.d (.sl T s es)::post))::(k,none)::st.bs⟩:=λC a w ⟨D,β,h⟩=>by
 obtain ⟨D',h',hown⟩:=publish_core (T:=T) h hb hes hl hc
 have hj2:kC ((k,none)::st.bs) j=some (pre++.own k T s m::post):=by rw[jI,if_neg hjk];exact hj
 have conv:∀ {i c},kC ((j,some (pre++SV.d (.sl T s es)::post))::(k,none)::st.bs) i=some c->∃ c',kC ((k,none)::st.bs) i=some c':=fun {i c} hi=>by
  rw[jI] at hi
  split at hi
  ·rename_i e;subst e;exact ⟨_,hj2⟩
  ·exact ⟨c,hi⟩
 refine ⟨D',β,h'.base,⟨λi c hi=>?_,λi1 i2 c1 c2 q1 q2=>?_⟩,λi c hi=>?_,h'.slots⟩
 ·rw[jI] at hi
  split at hi
  ·rename_i e;subst e
   injection hi with hi;subst hi
   rcases h'.mem.ok j _ hj2 with q | ⟨b,vs,T2,q1,q2,q3,q4,q5⟩
   ·obtain ⟨_,q⟩:=q.cells (mapCs_at (i:=pre.length) (by rw[getElem?_append_right (Nat.le_refl _),Nat.sub_self];rfl) rfl);simp at q
   ·refine .inr ⟨b,vs,T2,q1,q2,by simpa using q3,λi x hx=>?_,q5⟩
    by_cases h1:i<pre.length
    ·rw[getElem?_append_left h1] at hx
     exact q4 i x (by rw[getElem?_append_left h1];exact hx)
    ·rw[getElem?_append_right (by omega)] at hx
     cases hq:i-pre.length with
     |zero=>
      rw[hq] at hx
      simp at hx
      subst hx
      obtain ⟨u,e1,e2,e3⟩:=q4 i (.own k T s m) (by rw[getElem?_append_right (by omega),hq];rfl)
      exact ⟨u,e1,e2,hown u D' e3⟩
     |succ q=>
      rw[hq] at hx
      exact q4 i x (by rw[getElem?_append_right (by omega),hq];simpa using hx)
  ·exact h'.mem.ok i c hi
 ·obtain ⟨d1,g1⟩:=conv q1
  obtain ⟨d2,g2⟩:=conv q2
  exact h'.mem.inj i1 i2 d1 d2 g1 g2
 ·obtain ⟨d,g⟩:=conv hi
  exact h'.high i d g
end
theorem sim_mask{S:SL}{B:BS}{j:Nat}{cs:List SV}(i:Nat)(hb:kC B j=some cs)(hm:yC cs=false:=by first | exact mM _ | exact mapCs_rowC _ _ _ _ | kernel_rfl):xI ⟨S,B⟩ ⟨S,(j,some (cs.set i .junk))::B⟩:=λC a w ⟨D,β,hs⟩=>by
 have conv:∀ {q c},kC ((j,some (cs.set i SV.junk))::B) q=some c->∃ c',kC B q=some c':=fun {q c} hq=>by
  rw[jI] at hq
  split at hq
  ·rename_i e;subst e;exact ⟨_,hb⟩
  ·exact ⟨_,hq⟩
 refine ⟨D,β,hs.base,⟨λq c hq=>?_,λi1 i2 c1 c2 q1 q2=>?_⟩,λq c hq=>?_,hs.slots⟩
 ·rw[jI] at hq
  split at hq
  ·rename_i e;subst e
   injection hq with hq;subst hq
   refine blk_weak (hs.mem.ok _ cs hb) (by simp) (λq x hx=>?_) hm
   rw[getElem?_set] at hx
   split at hx
   ·split at hx
    ·injection hx with hx;exact .inl hx.symm
    ·cases hx
   ·exact .inr hx
  ·exact hs.mem.ok q c hq
 ·obtain ⟨d1,g1⟩:=conv q1
  obtain ⟨d2,g2⟩:=conv q2
  exact hs.mem.inj i1 i2 d1 d2 g1 g2
 ·obtain ⟨d,g⟩:=conv hq
  exact hs.high q d g
theorem ownCell{S:SL}{B:BS}{j:Nat}{cs:List SV}(i k E s:Nat)(hj:kC B j=some cs)(hi:cs[i]?=some (.d (.val (.slice none 0 0))))(hf:gN k ⟨S,B⟩=true) :
  xI ⟨S,B⟩ ⟨S,(j,some (cs.set i (.own k E s 0)))::(k,some [])::B⟩:=λC a w ⟨D,β,hs⟩=>by
 have hβ:∀ q,q≠k->(λq=>if q=k then none else β q:kX) q=β q:=λq hq=>by simp [hq]
 have hβ0:(λq=>if q=k then none else β q:kX) k=none:=by simp
 generalize (λq=>if q=k then none else β q:kX)=β' at hβ hβ0
 obtain ⟨hjk,hnm⟩:=bP hf hj
 have conv:∀ {q c},q≠k->kC ((j,some (cs.set i (SV.own k E s 0)))::(k,some [])::B) q=some c->∃ c',kC B q=some c':=fun {q c} hne hq=>by
  rw[jI] at hq
  split at hq
  ·rename_i e;subst e;exact ⟨_,hj⟩
  ·rw[jI,if_neg (λe=>hne e.symm)] at hq;exact ⟨_,hq⟩
 refine ⟨D,β',hs.base,⟨λq c hq=>?_,λi1 i2 c1 c2 q1 q2 b e1 e2=>?_⟩,λq c hq b e=>?_,λt=>(hs.slots t).frame hβ (lL hf t)⟩
 ·rw[jI] at hq
  split at hq
  ·rename_i e;subst e
   injection hq with hq;subst hq
   rcases hs.mem.ok _ cs hj with h | ⟨b,vs,T,h1,h2,h3,h4,h5⟩
   ·obtain ⟨h1,h2⟩:=h.cells (mapCs_at hi rfl);rw[h2] at hi;simp at hi
   ·refine .inr ⟨b,vs,T,(hβ _ hjk).trans h1,h2,by simpa using h3,λq x hx=>?_,h5⟩
    rw[getElem?_set] at hx
    split at hx
    ·rename_i e;subst e
     split at hx
     ·injection hx with hx;subst hx
      obtain ⟨u,e1,e2,e3⟩:=h4 i _ hi
      exact ⟨u,e1,e2,.inl ⟨hβ0,rfl,vA e3⟩⟩
     ·cases hx
    ·obtain ⟨u,e1,e2,e3⟩:=h4 q x hx
     exact ⟨u,e1,e2,e3.frame hβ (names_get hnm hx)⟩
  ·rw[jI] at hq
   split at hq
   ·rename_i e;subst e
    injection hq with hq;subst hq
    exact .inl (.inl ⟨hβ0,rfl⟩)
   ·obtain ⟨g1,g2⟩:=bP hf hq
    exact (hs.mem.ok q c hq).frame hβ g1 g2
 ·have n1:i1≠k:=λe=>by rw[e,hβ0] at e1;cases e1
  have n2:i2≠k:=λe=>by rw[e,hβ0] at e2;cases e2
  obtain ⟨d1,g1⟩:=conv n1 q1
  obtain ⟨d2,g2⟩:=conv n2 q2
  exact hs.mem.inj i1 i2 d1 d2 g1 g2 b ((hβ _ n1).symm.trans e1) ((hβ _ n2).symm.trans e2)
 ·have n1:q≠k:=λe'=>by rw[e',hβ0] at e;cases e
  obtain ⟨d,g⟩:=conv n1 hq
  exact hs.high q d g b ((hβ _ n1).symm.trans e)
theorem lP{P:Program}{n:Fr}{c:Code}{Q:Exit->PS->Prop}{S:SL}{B:BS}(j i k E s:Nat){cs:List SV}(hj:kC B j=some cs:=by kernel_rfl)(hi:cs[i]?=some (.d (.val (.slice none 0 0))):=by kernel_rfl)(h1:(S.all λp=>!p.2.names k)=true:=by kernel_rfl)
  (h2:FrB k B:=by repeat first | exact frb_nil _ | refine frb_map rfl ?_ | refine frb_d rfl ?_ | refine frb_cs rfl rfl ?_ | refine frb_none rfl ?_) (h:eM P n c Q ⟨S,(j,some (cs.set i (.own k E s 0)))::(k,some [])::B⟩):eM P n c Q ⟨S,B⟩ :=
 kS (ownCell i k E s hj hi (bO h1 h2)) h
section
variable {P:Program} {n:Fr} {ops:Array Oper} {K:SL->BS->Prop} {S:SL} {B:BS} {l:List Oper} {o:Oper} {α:Type} {T E t':TypeId} {x y:Operand} {k s m bytes:Nat} {zv:List Value}
theorem zAm(j i:Nat){cs:List SV}(F:α->jY)(L L':List α)(hL:L.length=m)(hT:uU P T=some (E,1))(hz:xH P E=some zv)(hby:zJ P E=some bytes)(r:SK P n ops K ((dO o,.own k E 1 (L++L').length)::nR k S) ((k,some ((L++L').map (λg=>SV.d (F g))))::(j,some (cs.set i .junk))::B) l)
  (ho:o.op=.call { callee:=.builtin .append,args:=#[x,y],argTypes:=#[T,T] }:=by exact rfl) (g:goK n ops S o=true:=by kernel_rfl) (hx:ev (kD S) x=.own k E 1 m:=by exact rfl) (hj:kC B j=some cs:=by exact rfl) (hjk:Nat.beq j k=false:=by kernel_rfl) (hb:kC B k=some (L.map (λg=>SV.d (F g))):=by kernel_rfl) (hy:ev (kD S) y=.d (.sl t' 1 (L'.map F)):=by exact rfl) (hF:∀ g,(F g).cells=[F g]:=by intro g;kernel_rfl) (hzl:zv.length=1:=by kernel_rfl)
  (hbig:m+L'.length<=maxLen:=by first | (simp only[length_cons,length_nil,maxLen];omega) | (simp [maxLen];omega)) (hbig':(m+L'.length)*bytes<=140737488355328:=by first | omega | (simp only[length_cons,length_nil];omega) | (simp;omega))
  (hm:qI k (cs.set i .junk)=false:=by kernel_rfl) (hB:Clr k ((j,none)::B):=by refine eS ?_;repeat first | exact lE _ | refine iP ?_ | refine clr_map ?_ | refine eS ?_ | refine clr_bx ?_ | refine clr_d ?_) (hmc:yC cs=false:=by first | exact mM _ | kernel_rfl):SK P n ops K S B (o::l):=by
 obtain ⟨hd,hg,hdB⟩:=yV g
 have hne:j≠k:=fH hjk
 refine zX (S1:=(dO o,.own k E 1 (L++L').length)::nR k S) (B1:=(k,some ((L++L').map (λg=>SV.d (F g))))::(j,some (cs.set i .junk))::B) (λC a w Q hn hs=>?_) hg r
 have hs':=sim_mask i hj hmc C a w hs
 have:=app_sound (st:=⟨S,(j,some (cs.set i .junk))::B⟩) (N:=n) (es:=L.map F) (es':=L'.map F) ho (by rw[hd];exact hdB) hT hz hzl hby hx (by show kC ((j,_)::B) k=_;rw[jI,if_neg hne];exact hb) (by rw[flat_one F hF,map_map];rfl) (by rw[flat_one F hF,length_map,hL,Nat.mul_one]) hy (by simpa using hbig) (by simpa using hbig') (λq c hq hc=>by
  dsimp only at hc
  rw[jI] at hc
  split at hc
  ·injection hc with hc;subst hc;exact hm
  ·rename_i e;exact hB q c hq (by rw[jI,if_neg e];exact hc)) C a w Q hn hs'
 have e1:(qK (L.map F++L'.map F)).map SV.d=(L++L').map (λg=>SV.d (F g)):=by rw[<- map_append,flat_one F hF,map_map];rfl
 have e2:m+(L'.map F).length=(L++L').length:=by rw[length_map,length_append,hL]
 rw[hd,e1,e2] at this
 exact this
theorem oSx{k j E s N off:Nat}{old:List SV}(hs:qD P T=some (false,1))(ho:o.op=.store T x y:=by exact rfl)(hx:ev (kD S) x=.ref k off:=by exact rfl)(hy:ev (kD S) y=.own j E s N:=by exact rfl)(hb:kC B k=some old:=by exact rfl)(hle:Nat.ble (off+1) old.length=true:=by kernel_rfl)(hm:yC old=false:=by first | exact mM _ | kernel_rfl):TK P o S B k (patch old off [.own j E s N]) :=
 ⟨_,t_store ho hx hy hs (.inr ⟨⟨j,E,s,N,rfl⟩,rfl⟩) rfl (Nat.le_of_ble_eq_true hle) hm,hb⟩
variable {news:List Nat} {acc0:List (List Nat × List Nat)}
end
def swN(k k' j:Nat):Nat:=bif Nat.beq j k then k' else j
def SV.sw(k k':Nat):SV->SV
 |.ref j o=>.ref (swN k k' j) o
 |.own j t s n=>.own (swN k k' j) t s n
 |.view j o n=>.view (swN k k' j) o n
 |.clo f ks=>.clo f (ks.map (swN k k'))
 |.pr j t s n x=>.pr (swN k k' j) t s n x
 |.refx j o b=>.refx (swN k k' j) o b
 |.mpx j b=>.mpx (swN k k' j) b
 |.bnd f j o=>.bnd f (swN k k' j) o
 |.ownx j t s n u=>.ownx (swN k k' j) t s n u
 |.mp j=>.mp (swN k k' j)
 |x=>x
theorem swN_eq(k k':Nat):swN k k' k=k':=by simp [swN]
theorem swN_ne{k k' j:Nat}(h:j≠k):swN k k' j=j:=by
 have:Nat.beq j k=false:=by rw[<- Bool.not_eq_true];exact λe=>h (Nat.eq_of_beq_eq_true e)
 simp [swN,this]
theorem sw_mos{k k':Nat}{cs:List SV}{ob:Obj}(h:cs.map (SV.sw k k')=[.mo ob]):cs=[.mo ob]:=by
 rcases cs with _ | ⟨x,_ | ⟨y,l⟩⟩
 ·cases h
 ·simp only[map_cons,map_nil,List.cons.injEq,and_true] at h
  have:x=.mo ob:=by cases x<;>first | exact h | cases h
  rw[this]
 ·simp at h
theorem kZ.sw{w:World}{D:kV}{β:kX}{k k':Nat}{v:Value}{x:SV}(h:kZ w D β v (x.sw k k')):kZ w D (λj=>β (swN k k' j)) v x:=by
 cases x with
 |d x=>exact h
 |ref j o=>exact h
 |own j t s n=>exact h
 |clo f ks=>
  obtain ⟨vs,h1,h2,h3⟩:=h
  exact ⟨vs,h1,by simpa using h2,λi j hj=>h3 i (swN k k' j) (by rw[getElem?_map,hj];rfl)⟩
 |emp=>exact h
 |view j o n=>exact h
 |mp j=>exact h
 |mo ob=>exact h
 |pr j t s n x=>exact h
 |refx j o b=>exact h
 |mpx j b=>exact h
 |bnd f j o=>exact h
 |ownx j t s n u=>exact h
 |junk=>trivial
theorem sw_of{k k':Nat}{x:SV}(h:x.names k=false):x.sw k k'=x:=by
 have key:∀ j,Nat.beq k j=false->swN k k' j=j:=λj hj=>swN_ne (λe=>by subst e;simp at hj)
 cases x with
 |ref j o=>simp only[SV.sw];rw[key j h]
 |own j t s n=>simp only[SV.sw];rw[key j h]
 |view j o n=>simp only[SV.sw];rw[key j h]
 |clo f ks=>
  simp only[SV.sw]
  simp only[SV.names,any_eq_false] at h
  have:ks.map (swN k k')=ks:=by
   conv=>rhs;rw[<- map_id ks]
   exact map_congr_left λj hj=>key j (by rw[<- Bool.not_eq_true];exact h j hj)
  rw[this]
 |d x=>rfl
 |emp=>rfl
 |mp j=>simp only[SV.sw];rw[key j h]
 |mo ob=>rfl
 |pr j t s n x=>simp only[SV.sw];rw[key j h]
 |refx j o b=>simp only[SV.sw];rw[key j h]
 |mpx j b=>simp only[SV.sw];rw[key j h]
 |bnd f j o=>simp only[SV.sw];rw[key j h]
 |ownx j t s n u=>simp only[SV.sw];rw[key j h]
 |junk=>rfl
section
variable {P:Program}
end
section
variable {P:Program} {o:Oper} {S:Nat->SV}
end
section
variable {P:Program}
end
section
variable {P:Program} {o:Oper} {S:Nat->SV}
end
section
variable {P:Program} {n:Fr} {ops:Array Oper} {K:SL->BS->Prop} {S S0 S1:SL} {B B0 B1:BS} {l:List Oper} {o:Oper} {D:SL}
def KI(S1:SL)(B1:BS)(S:SL)(B:BS):Prop:=xI ⟨S,B⟩ ⟨S1,B1⟩
theorem zI(h:xI ⟨S,B⟩ ⟨S1,B1⟩):SK P n ops (KI S1 B1) S B []:=⟨⟨S,B⟩,.nil,h⟩
theorem zOh(k E s:Nat)(r:SK P n ops K ((dO o,.own k E s 0)::S) ((k,some [])::B) l)(h:nilK o=true:=by kernel_rfl)(g:goK n ops S o=true:=by kernel_rfl)(h1:(S.all λp=>!p.2.names k)=true:=by kernel_rfl)
  (h2:FrB k B:=by repeat first | exact frb_nil _ | refine frb_map rfl ?_ | refine frb_d rfl ?_ | refine frb_cs rfl rfl ?_ | refine frb_none rfl ?_):SK P n ops K S B (o::l):=zO k E s r h g (bO h1 h2)
end
def swJ(k k' J j:Nat)(c:List SV):List SV:=bif Nat.beq j J then c.map (SV.sw k k') else c
theorem sim_ren2{S S':SL}{B B':BS}(k k' J:Nat)(h1:S'.map (λp=>kD S p.1)=S'.map (λp=>p.2.sw k k'):=by kernel_rfl)(h2:B'.map (λp=>kC B (swN k k' p.1))=B'.map (λp=>p.2.map (swJ k k' J p.1)):=by kernel_rfl)(h3:(B'.all λp=>!(Nat.beq p.1 k'))=true:=by kernel_rfl)
  (h4:Clr k ((k,none)::B):=by repeat first | exact lE _ | refine iP ?_ | refine clr_map ?_ | refine eS ?_ | refine clr_bx ?_ | refine clr_d ?_ | refine clr_cons rfl ?_) (h5:kC B k=none:=by kernel_rfl):xI ⟨S,B⟩ ⟨S',B'⟩:=λC a w ⟨D,β,hs⟩=>by
 have hget:∀ {l:BS},(l.map (λp=>kC B (swN k k' p.1))=l.map (λp=>p.2.map (swJ k k' J p.1)))->∀ {j c},kC l j=some c->kC B (swN k k' j)=some (swJ k k' J j c):=by
  intro l
  induction l with
  |nil=>intro _ j c h;simp [kC] at h
  |cons p l ih=>
   intro hl j c hj
   obtain ⟨q,y⟩:=p
   simp only[map_cons,List.cons.injEq] at hl
   rw[jI] at hj
   split at hj
   ·rename_i e;subst e;subst hj;rw[hl.1];rfl
   ·exact ih hl.2 hj
 have hkey:∀ {l:BS},((l.all λp=>!(Nat.beq p.1 k'))=true)->∀ {j c},kC l j=some c->j≠k':=by
  intro l
  induction l with
  |nil=>intro _ j c h;simp [kC] at h
  |cons p l ih=>
   intro hl j c hj e
   obtain ⟨q,y⟩:=p
   simp only[all_cons,Bool.and_eq_true,Bool.not_eq_true'] at hl
   rw[jI] at hj
   split at hj
   ·rename_i e2;subst e2;subst e;simp at hl
   ·exact ih hl.2 hj e
 have hnk:∀ {j c},kC B j=some c->j≠k/\qI k c=false:=fun {j c} hj=>by
  have hne:j≠k:=λe=>by subst e;rw[h5] at hj;cases hj
  exact ⟨hne,h4 j c hne (by rw[jI,if_neg (λe=>hne e.symm)];exact hj)⟩
 have hsl:∀ {l:SL},(l.map (λp=>kD S p.1)=l.map (λp=>p.2.sw k k'))->∀ t,kD l t=.junk\/kD S t=(kD l t).sw k k':=by
  intro l
  induction l with
  |nil=>intro _ t;exact .inl rfl
  |cons p l ih=>
   intro hl t
   obtain ⟨q,y⟩:=p
   simp only[map_cons,List.cons.injEq] at hl
   rw[qQ]
   split
   ·rename_i e;subst e;exact .inr hl.1
   ·exact ih hl.2 t
 refine ⟨D,λj=>β (swN k k' j),hs.base,⟨λj c hj=>?_,λj1 j2 c1 c2 q1 q2 b e1 e2=>?_⟩,λj c hj b hb=>hs.high _ _ (hget h2 hj) b hb,λt=>?_⟩
 ·have hc:=hget h2 hj
  obtain ⟨_,hn⟩:=hnk hc
  rcases hs.mem.ok _ _ hc with (⟨h,h'⟩ | ⟨b,ob,h,h2,h3,h',h5⟩) | ⟨b,vs,T,g1,g2,g3,g4,g5⟩
  ·refine .inl (.inl ⟨h,?_⟩)
   unfold swJ at h'
   cases hJ:Nat.beq j J with
   |true=>rw[hJ,cond_true,map_eq_nil_iff] at h';exact h'
   |false=>rw[hJ,cond_false] at h';exact h'
  ·refine .inl (.inr ⟨b,ob,h,h2,h3,?_,h5⟩)
   unfold swJ at h'
   cases hJ:Nat.beq j J with
   |true=>rw[hJ,cond_true] at h';exact sw_mos h'
   |false=>rw[hJ,cond_false] at h';exact h'
  ·unfold swJ at hn g3 g4
   cases hJ:Nat.beq j J with
   |true=>
    rw[hJ,cond_true] at g3 g4
    refine .inr ⟨b,vs,T,g1,g2,by simpa using g3,λi x hi=>?_,g5⟩
    obtain ⟨u,e1,e2,e3⟩:=g4 i (x.sw k k') (by rw[getElem?_map,hi];rfl)
    exact ⟨u,e1,e2,kZ.sw e3⟩
   |false=>
    rw[hJ,cond_false] at hn g3 g4
    refine .inr ⟨b,vs,T,g1,g2,g3,λi x hi=>?_,g5⟩
    obtain ⟨u,e1,e2,e3⟩:=g4 i x hi
    exact ⟨u,e1,e2,kZ.sw (by rw[sw_of (names_get hn hi)];exact e3)⟩
 ·have:=hs.mem.inj _ _ _ _ (hget h2 q1) (hget h2 q2) b e1 e2
  have n1:=hkey h3 q1
  have n2:=hkey h3 q2
  by_cases g1:j1=k<;>by_cases g2:j2=k
  ·omega
  ·subst g1;rw[swN_eq,swN_ne g2] at this;omega
  ·subst g2;rw[swN_eq,swN_ne g1] at this;omega
  ·rw[swN_ne g1,swN_ne g2] at this;exact this
 ·show kZ w D _ _ (kD S' t)
  rcases hsl h1 t with h | h
  ·rw[h];trivial
  ·have:=hs.slots t
   dsimp only at this
   rw[h] at this
   exact this.sw
end Go.Fid
