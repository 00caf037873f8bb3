/- Part 14 of a proof: rules, plain facts, and functions walked. -/
import Derived.Test.YtckccjhflbljgaaGreatDoorM12
import Derived.Test.YtckccjhflbljgaaGreatDoorM8
import Derived.Test.YtckccjhflbljgaaGreatDoorM13
import Derived.Test.YtckccjhflbljgaaGreatDoorM10
set_option linter.all false
set_option maxRecDepth 4000
namespace Go.Proofs.YtckccjhflbljgaaGreatDoor
open Go.Fid
theorem nY:zD Tryz.prog 107=some 4:=by kernel_rfl
theorem cb161:callB Tryz.prog 161=true:=by kernel_rfl
theorem kJ:uS Tryz.prog 28=some (107,1):=by kernel_rfl
theorem gV:intB Tryz.prog 107=some .u32:=by kernel_rfl
theorem yM:intB Tryz.prog 137=some .u64:=by kernel_rfl
theorem qP:kZ Tryz.prog 107=some (false,1):=by kernel_rfl
theorem yU:(Tryz.prog.underlying 107).isSome=true:=by kernel_rfl
theorem nC:(Tryz.prog.underlying 137).isSome=true:=by kernel_rfl
theorem vY:xB Tryz.prog 107=some [.int .u32 0]:=by kernel_rfl
theorem yT:dR [.int .u32 0] [.val (.int .u32 0)]:=by simp [dR,Value.oneCell']
theorem t_at(l:List Nat)(i:Nat):jS Tryz.prog 205 [(.sl 107 1 (List.map jC l)),(.val (.int .i64 (((i:Nat):Int))))] (.val (.int .u32 ((((l.getD i 0):Nat):Int)))):=by
 refine uW Tryz.func205 ?_
 refine jB<|kx [] [] (zM<|zZ) ?_
 refine jB<|jB<|kx [(8,(vb (decide (((i:Nat):Int)<((l.length:Nat):Int)))))] [] (zM<|zM<|zE (yH kJ)<|zE yY<|zZ) ?_
 refine jF rfl (fun h1=>?_) (fun h1=>?_)
 ·replace h1:=vT h1
  refine jB<|kx [(4,(iE (l.getD i 0)))] [] (zM<|zM<|zE (dA kJ i (0:Nat))<|zE (nX qP)<|zM<|zZ) ?_
  refine jD ⟨_,(.tmp (d:=(.val (.int .u32 ((((l.getD i 0):Nat):Int))))) rfl .nil),?_⟩
  rfl
 ·replace h1:=xC h1
  refine jE<|jB<|kx [(4,(iE 0))] [] (zM<|zZ) ?_
  refine jD ⟨_,(.tmp (d:=(.val (.int .u32 (0)))) rfl .nil),?_⟩
  rw[show l.getD i 0=0 from getD_out (by omega)];rfl
theorem t_trim(l0:List Nat)(hd:Dig l0)(hb:l0.length<=17592186044416):jS Tryz.prog 180 [(.sl 107 1 (List.map jC l0))] (.sl 107 1 (List.map jC (ofNat (val l0)))):=by
 refine uW Tryz.func180 ?_
 refine jB<|kx [] [] (zE (bB 107 1)<|zZ) ?_
 refine jB<|jH<|kQ (α:=List Nat) (fun l=>⟨[(0,(vl 107 1 jC l))],[]⟩) (fun l=>Dig l/\val l=val l0/\l.length<=l0.length) (fun l=>l.length) l0 wk ⟨hd,rfl,Nat.le_refl _⟩ ?_
 rintro l ⟨hl,hv,hle⟩
 refine jB<|jB<|kx [(14,(vb (decide (0<((l.length:Nat):Int))&&((((l.getD (l.length-1) 0):Nat):Int) == 0))))] [] ?_ ?_
 ·refine zM<|zE (yH kJ)<|zE cI<|zE (oV (vb (decide (0<((l.length:Nat):Int)))) (qA (by kernel_rfl)))<|?_
  rcases hb1:(decide (0<((l.length:Nat):Int))) with _ | _
  ·replace hb1:=xC hb1
   exact zK<|zK<|zK<|zK<|zK<|zK<|zK<|zE yJ<|zZ
  ·replace hb1:=vT hb1
   exact zM<|zM<|zE (yH kJ)<|zE (oSb (l.length-1))<|zE (dA kJ (l.length-1) (0:Nat))<|zE (nX qP)<|zE yP<|zE aB<|zZ
 refine jF rfl (fun h2=>?_) (fun h2=>?_)
 ·obtain ⟨hp,_⟩:=trim_cond h2
  refine jE<|jH<|kx [(0,(vl 107 1 jC (List.take (l.length-1) l)))] [] (zM<|zM<|zE (yH kJ)<|zE (oSb (l.length-1))<|zE (e_slc (l:=0) (h:=(l.length-1)) (kl:=.i64) (kh:=.i64) (es':=List.map jC (List.take (l.length-1) l)) (by exact rfl) kJ (by exact rfl) (by exact rfl) (by exact rfl) (Nat.zero_le _) (by simp only[List.length_map];omega) (by rw[List.drop_zero,List.map_take]))<|zM<|zZ) ?_
  exact ⟨(l.take (l.length-1)),wk,(trim_step hl hv hle h2),(trim_less h2)⟩
 ·refine kL<|jB<|kx [(2,(vl 107 1 jC l))] [] (zM<|zM<|zZ) ?_
  refine jD ⟨_,(.tmp (d:=(.sl 107 1 (List.map jC l))) rfl .nil),?_⟩
  rw[trim_end hl hv h2];rfl
theorem t_plus(a b:List Nat)(hda:Dig a)(hdb:Dig b)(hla:a.length<=8796093022208)(hlb:b.length<=8796093022208):jS Tryz.prog 183 [(.sl 107 1 (List.map jC a)),(.sl 107 1 (List.map jC b))] (.sl 107 1 (List.map jC (ofNat (val a+val b)))):=by
 refine uW Tryz.func183 ?_
 refine jB<|kx [] [] (zE (bB 107 1)<|zZ) ?_
 refine jB<|kx [(5,(.own 0 107 1 ((max a.length b.length)+1)))] [(0,some (bm jC (List.replicate ((max a.length b.length)+1) 0)))] (zM<|zE (yH kJ)<|zM<|zE (yH kJ)<|zE (oMx (max a.length b.length))<|zE (xD ((max a.length b.length)+1))<|zN (oMk 0 jC (0:Nat) ((max a.length b.length)+1) ((max a.length b.length)+1) kJ vY yT nY)<|zM<|zZ) ?_
 refine jB<|kx [(6,(iE 0))] [] (zM<|zZ) ?_
 refine jB<|jB<|kx [(17,(jT ((max a.length b.length)+1))),(18,(jT 0))] [] (zM<|zE (oLo kJ)<|zM<|zZ) ?_
 refine jH<|kQ (α:=Nat × List Nat × Nat) (fun (i,out,c)=>⟨[(0,(vl 107 1 jC a)),(1,(vl 107 1 jC b)),(5,(.own 0 107 1 ((max a.length b.length)+1))),(6,(iE c)),(17,(jT ((max a.length b.length)+1))),(18,(jT i))],[(0,some (bm jC out))]⟩) (fun (i,out,c)=>out.length=max a.length b.length+1/\Dig out/\i<=max a.length b.length+1/\c<=1/\val (out.take i)+pw i*c=val (a.take i)+val (b.take i)) (fun (i,out,c)=>max a.length b.length+1-i) (0,List.replicate (max a.length b.length+1) 0,0) wk ⟨by simp,zP _,Nat.zero_le _,Nat.zero_le _,by simp [val]⟩ ?_
 rintro ⟨i,out,c⟩ ⟨qO,hdo,hi,hc,hv⟩
 have hai:=hda.getD i
 have hbi:=hdb.getD i
 refine jB<|kx [(19,(vb (decide (((i:Nat):Int)<((((max a.length b.length)+1):Nat):Int)))))] [] (zE yY<|zZ) ?_
 refine jB<|jF rfl (fun h1=>?_) (fun h1=>?_)
 ·replace h1:=vT h1
  refine jE<|jB<|jH<|jB<|kx [(7,(jT i))] [] (zM<|zM<|zZ) ?_
  refine jB<|kx [(8,(iE (((a.getD i 0)+(b.getD i 0))+c)))] [] (zM<|zM<|zE (kB (t_at a i))<|zM<|zM<|zE (kB (t_at b i))<|zE (xD ((a.getD i 0)+(b.getD i 0)))<|zM<|zE (xD (((a.getD i 0)+(b.getD i 0))+c))<|zM<|zZ) ?_
  refine jB<|kx [(6,(iE 0))] [] (zM<|zZ) ?_
  refine jB<|jB<|kx [(31,(vb (decide (1000000000<=(((((a.getD i 0)+(b.getD i 0))+c):Nat):Int)))))] [] (zM<|zE oGe<|zZ) ?_
  refine jF rfl (fun h2=>?_) (fun h2=>?_)
  ·replace h2:=vT h2
   refine kx [(6,(iE 1)),(8,(iE ((((a.getD i 0)+(b.getD i 0))+c)-1000000000)))] [] (zM<|zE (oSb ((((a.getD i 0)+(b.getD i 0))+c)-1000000000))<|zM<|zM<|zZ) ?_
   refine kx [] [(0,some (bm jC (out.set i ((((a.getD i 0)+(b.getD i 0))+c)-1000000000))))] (zM<|zM<|zM<|zE (yK kJ i)<|zT (eR qP i ((((a.getD i 0)+(b.getD i 0))+c)-1000000000))<|zZ) ?_
   refine kx [(18,(jT (i+1)))] [] (zE (xD (i+1))<|zM<|zZ) ?_
   exact ⟨(i+1,out.set i (a.getD i 0+b.getD i 0+c-1000000000),1),wk,(by obtain ⟨q1,q2,q3⟩:=plus_step (s:=a.getD i 0+b.getD i 0+c-1000000000) (c':=1) qO hdo (by omega) hv (by omega) (by omega);exact ⟨q1,q2,by omega,by omega,q3⟩),(by first|omega|(dsimp only;omega))⟩
  ·replace h2:=xC h2
   refine jE<|kx [] [(0,some (bm jC (out.set i (((a.getD i 0)+(b.getD i 0))+c))))] (zM<|zM<|zM<|zE (yK kJ i)<|zT (eR qP i (((a.getD i 0)+(b.getD i 0))+c))<|zZ) ?_
   refine kx [(18,(jT (i+1)))] [] (zE (xD (i+1))<|zM<|zZ) ?_
   exact ⟨(i+1,out.set i (a.getD i 0+b.getD i 0+c),0),wk,(by obtain ⟨q1,q2,q3⟩:=plus_step (s:=a.getD i 0+b.getD i 0+c) (c':=0) qO hdo (by omega) hv (by omega) (by omega);exact ⟨q1,q2,by omega,by omega,q3⟩),(by first|omega|(dsimp only;omega))⟩
 ·replace h1:=xC h1
  have hie:i=max a.length b.length+1:=by omega
  rw[hie] at hv
  refine kL<|jB<|kG (yL (t:=5) (k:=0) (es:=List.map jC out) rfl rfl (vQ _ _ (fun _=>rfl)) (vS _ _ qO) (xP _ _ (fun _=>rfl) qO)) ?_
  refine kx [(4,(vl 107 1 jC (ofNat (val out))))] [] (zM<|zE (kB (t_trim out (by assumption) (by omega)))<|zM<|zZ) ?_
  refine jD ⟨_,(.tmp (d:=(.sl 107 1 (List.map jC (ofNat (val out))))) rfl .nil),?_⟩
  rw[plus_end hda hdb qO hv];rfl
theorem t_minus(a b:List Nat)(hda:Dig a)(hdb:Dig b)(hba:val b<=val a)(hla:a.length<=8796093022208):jS Tryz.prog 184 [(.sl 107 1 (List.map jC a)),(.sl 107 1 (List.map jC b))] (.sl 107 1 (List.map jC (ofNat (val a-val b)))):=by
 refine uW Tryz.func184 ?_
 refine jB<|kx [] [] (zE (bB 107 1)<|zZ) ?_
 refine jB<|kx [(5,(.own 0 107 1 a.length))] [(0,some (bm jC (List.replicate a.length 0)))] (zM<|zE (yH kJ)<|zN (oMk 0 jC (0:Nat) a.length a.length kJ vY yT nY)<|zM<|zZ) ?_
 refine jB<|kx [(6,(iE 0))] [] (zM<|zZ) ?_
 refine jB<|jB<|kx [(13,(jT a.length)),(14,(jT 0))] [] (zM<|zE (oLo kJ)<|zM<|zZ) ?_
 refine jH<|kQ (α:=Nat × List Nat × Nat) (fun (i,out,c)=>⟨[(0,(vl 107 1 jC a)),(1,(vl 107 1 jC b)),(5,(.own 0 107 1 a.length)),(6,(iE c)),(13,(jT a.length)),(14,(jT i))],[(0,some (bm jC out))]⟩) (fun (i,out,c)=>out.length=a.length/\Dig out/\i<=a.length/\c<=1/\val (out.take i)+val (b.take i)=val (a.take i)+pw i*c) (fun (i,out,c)=>a.length-i) (0,List.replicate a.length 0,0) wk ⟨by simp,zP _,Nat.zero_le _,Nat.zero_le _,by simp [val]⟩ ?_
 rintro ⟨i,out,c⟩ ⟨qO,hdo,hi,hc,hv⟩
 have hai:=hda.getD i
 have hbi:=hdb.getD i
 refine jB<|kx [(15,(vb (decide (((i:Nat):Int)<((a.length:Nat):Int)))))] [] (zE yY<|zZ) ?_
 refine jB<|jF rfl (fun h1=>?_) (fun h1=>?_)
 ·replace h1:=vT h1
  refine jE<|jB<|jH<|jB<|kx [(7,(jT i))] [] (zM<|zM<|zZ) ?_
  refine jB<|kx [(8,(iE ((b.getD i 0)+c)))] [] (zM<|zM<|zE (kB (t_at b i))<|zM<|zE (xD ((b.getD i 0)+c))<|zM<|zZ) ?_
  refine jB<|kx [(6,(iE 0))] [] (zM<|zZ) ?_
  refine jB<|kx [(27,(vb (decide ((((a.getD i 0):Nat):Int)<((((b.getD i 0)+c):Nat):Int)))))] [] (zM<|zM<|zE (dA kJ i (0:Nat))<|zE (nX qP)<|zM<|zE yY<|zZ) ?_
  refine jF rfl (fun h2=>?_) (fun h2=>?_)
  ·replace h2:=vT h2
   refine kx [(6,(iE 1))] [(0,some (bm jC (out.set i (((a.getD i 0)+1000000000)-((b.getD i 0)+c)))))] (zM<|zM<|zM<|zM<|zE (dA kJ i (0:Nat))<|zE (nX qP)<|zE (xD ((a.getD i 0)+1000000000))<|zM<|zE (oSb (((a.getD i 0)+1000000000)-((b.getD i 0)+c)))<|zE (yK kJ i)<|zT (eR qP i (((a.getD i 0)+1000000000)-((b.getD i 0)+c)))<|zM<|zZ) ?_
   refine kx [(14,(jT (i+1)))] [] (zE (xD (i+1))<|zM<|zZ) ?_
   exact ⟨(i+1,out.set i (a.getD i 0+1000000000-(b.getD i 0+c)),1),wk,(by obtain ⟨q1,q2,q3⟩:=minus_step (s:=a.getD i 0+1000000000-(b.getD i 0+c)) (c':=1) qO hdo (by omega) hv (by omega) (by omega);exact ⟨q1,q2,by omega,by omega,q3⟩),(by first|omega|(dsimp only;omega))⟩
  ·replace h2:=xC h2
   refine kx [] [(0,some (bm jC (out.set i ((a.getD i 0)-((b.getD i 0)+c)))))] (zM<|zM<|zM<|zM<|zE (dA kJ i (0:Nat))<|zE (nX qP)<|zM<|zE (oSb ((a.getD i 0)-((b.getD i 0)+c)))<|zE (yK kJ i)<|zT (eR qP i ((a.getD i 0)-((b.getD i 0)+c)))<|zZ) ?_
   refine kx [(14,(jT (i+1)))] [] (zE (xD (i+1))<|zM<|zZ) ?_
   exact ⟨(i+1,out.set i (a.getD i 0-(b.getD i 0+c)),0),wk,(by obtain ⟨q1,q2,q3⟩:=minus_step (s:=a.getD i 0-(b.getD i 0+c)) (c':=0) qO hdo (by omega) hv (by omega) (by omega);exact ⟨q1,q2,by omega,by omega,q3⟩),(by first|omega|(dsimp only;omega))⟩
 ·replace h1:=xC h1
  have hie:i=a.length:=by omega
  rw[hie] at hv
  refine kL<|jB<|kG (yL (t:=5) (k:=0) (es:=List.map jC out) rfl rfl (vQ _ _ (fun _=>rfl)) (vS _ _ qO) (xP _ _ (fun _=>rfl) qO)) ?_
  refine kx [(4,(vl 107 1 jC (ofNat (val out))))] [] (zM<|zE (kB (t_trim out (by assumption) (by omega)))<|zM<|zZ) ?_
  refine jD ⟨_,(.tmp (d:=(.sl 107 1 (List.map jC (ofNat (val out))))) rfl .nil),?_⟩
  rw[minus_end hda hdb hdo hba qO hv];rfl
theorem t_times(a b:List Nat)(hda:Dig a)(hdb:Dig b)(hla:a.length<=4398046511104)(hlb:b.length<=4398046511104):jS Tryz.prog 161 [(.sl 107 1 (List.map jC a)),(.sl 107 1 (List.map jC b))] (.sl 107 1 (List.map jC (ofNat (val a*val b)))):=by
 refine uW Tryz.func161 ?_
 refine jB<|kx [] [] (zE (bB 107 1)<|zZ) ?_
 refine jB<|kx [(5,(.own 0 107 1 (a.length+b.length)))] [(0,some (bm jC (List.replicate (a.length+b.length) 0)))] (zM<|zE (yH kJ)<|zM<|zE (yH kJ)<|zE (xD (a.length+b.length))<|zN (oMk 0 jC (0:Nat) (a.length+b.length) (a.length+b.length) kJ vY yT nY)<|zM<|zZ) ?_
 refine jB<|jB<|kx [(18,(vl 107 1 jC a)),(19,(jT a.length)),(20,(jT 0))] [] (zM<|zE (yH kJ)<|zM<|zZ) ?_
 refine jH<|kQ (α:=Nat × List Nat) (fun (i,out)=>⟨[(1,(vl 107 1 jC b)),(5,(.own 0 107 1 (a.length+b.length))),(18,(vl 107 1 jC a)),(19,(jT a.length)),(20,(jT i))],[(0,some (bm jC out))]⟩) (fun (i,out)=>out.length=a.length+b.length/\Dig out/\i<=a.length/\(∀ k,i+b.length<=k->out.getD k 0=0)/\val out=val (a.take i)*val b) (fun (i,out)=>a.length-i) (0,List.replicate (a.length+b.length) 0) wk ⟨by simp,zP _,Nat.zero_le _,fun k _=>fS _ k,by simp [val,dZ]⟩ ?_
 rintro ⟨i,out⟩ ⟨qO,hdo,hi,hz,hv⟩
 have hai:=hda.getD i
 refine jB<|kx [(21,(vb (decide (((i:Nat):Int)<((a.length:Nat):Int)))))] [] (zE yY<|zZ) ?_
 refine jB<|jF rfl (fun h1=>?_) (fun h1=>?_)
 ·replace h1:=vT h1
  refine jE<|jB<|jH<|jB<|kx [(6,(jT i)),(7,(iE (a.getD i 0)))] [] (zM<|zE (dA kJ i (0:Nat))<|zE (nX qP)<|zM<|zM<|zZ) ?_
  refine jB<|kx [(8,(gN 0))] [] (zM<|zZ) ?_
  refine jB<|jB<|kx [(25,(vl 107 1 jC b)),(26,(jT b.length)),(27,(jT 0))] [] (zM<|zE (yH kJ)<|zM<|zZ) ?_
  refine jH<|kQ (α:=Nat × List Nat × Nat) (fun (j,o2,c)=>⟨[(1,(vl 107 1 jC b)),(5,(.own 0 107 1 (a.length+b.length))),(6,(jT i)),(7,(iE (a.getD i 0))),(8,(gN c)),(18,(vl 107 1 jC a)),(19,(jT a.length)),(20,(jT i)),(25,(vl 107 1 jC b)),(26,(jT b.length)),(27,(jT j))],[(0,some (bm jC o2))]⟩) (fun (j,o2,c)=>o2.length=a.length+b.length/\Dig o2/\j<=b.length/\c<1000000000/\(∀ k,i+b.length<=k->o2.getD k 0=0)/\val o2+pw (i+j)*c=val (a.take i)*val b+pw i*(a.getD i 0*val (b.take j))) (fun (j,o2,c)=>b.length-j) (0,out,0) wk ⟨qO,hdo,Nat.zero_le _,by decide,hz,by simp [val,hv]⟩ ?_
  rintro ⟨j,o2,c⟩ ⟨hlen2,hdo2,hj,hc,hz2,hv2⟩
  have hbj:=hdb.getD j
  have hoj:=hdo2.getD (i+j)
  have hpq:a.getD i 0*b.getD j 0<=999999999*999999999:=Nat.mul_le_mul (by omega) (by omega)
  refine jB<|kx [(28,(vb (decide (((j:Nat):Int)<((b.length:Nat):Int)))))] [] (zE yY<|zZ) ?_
  refine jB<|jF rfl (fun h2=>?_) (fun h2=>?_)
  ·replace h2:=vT h2
   refine jE<|jB<|jH<|jB<|kx [(9,(jT j)),(10,(iE (b.getD j 0)))] [] (zM<|zE (dA kJ j (0:Nat))<|zE (nX qP)<|zM<|zM<|zZ) ?_
   refine jB<|kx [(11,(gN (((o2.getD (i+j) 0)+((a.getD i 0)*(b.getD j 0)))+c)))] [] (zM<|zM<|zM<|zE (xD (i+j))<|zE (yK kJ (i+j))<|zR (eQ qP (i+j) (0:Nat))<|zE (mP yU yM (o2.getD (i+j) 0))<|zM<|zE (mP yU yM (a.getD i 0))<|zM<|zE (mP yU yM (b.getD j 0))<|zE (oMl ((a.getD i 0)*(b.getD j 0)))<|zE (xD ((o2.getD (i+j) 0)+((a.getD i 0)*(b.getD j 0))))<|zM<|zE (xD (((o2.getD (i+j) 0)+((a.getD i 0)*(b.getD j 0)))+c))<|zM<|zZ) ?_
   refine kx [(8,(gN ((((o2.getD (i+j) 0)+((a.getD i 0)*(b.getD j 0)))+c) / 1000000000)))] [(0,some (bm jC (o2.set (i+j) ((((o2.getD (i+j) 0)+((a.getD i 0)*(b.getD j 0)))+c) % 1000000000))))] (zM<|zM<|zM<|zE (xD (i+j))<|zM<|zE (oRe ((((o2.getD (i+j) 0)+((a.getD i 0)*(b.getD j 0)))+c) % 1000000000))<|zE (mP nC gV ((((o2.getD (i+j) 0)+((a.getD i 0)*(b.getD j 0)))+c) % 1000000000))<|zM<|zE (oQu ((((o2.getD (i+j) 0)+((a.getD i 0)*(b.getD j 0)))+c) / 1000000000))<|zE (yK kJ (i+j))<|zT (eR qP (i+j) ((((o2.getD (i+j) 0)+((a.getD i 0)*(b.getD j 0)))+c) % 1000000000))<|zM<|zZ) ?_
   refine kx [(27,(jT (j+1)))] [] (zE (xD (j+1))<|zM<|zZ) ?_
   exact ⟨(j+1,o2.set (i+j) ((o2.getD (i+j) 0+a.getD i 0*b.getD j 0+c) % 1000000000),(o2.getD (i+j) 0+a.getD i 0*b.getD j 0+c) / 1000000000),wk,(by obtain ⟨q1,q2⟩:=times_step (by omega) hdo2 hv2 rfl (val_take_succ b j);exact ⟨by simpa using hlen2,q1,by omega,by omega,zero_set (by omega) hz2,q2⟩),(by first|omega|(dsimp only;omega))⟩
  ·replace h2:=xC h2
   have hje:j=b.length:=by omega
   rw[hje] at hv2
   refine kL<|kx [] [(0,some (bm jC (o2.set (i+b.length) c)))] (zM<|zM<|zM<|zE (yH kJ)<|zE (xD (i+b.length))<|zM<|zE (mP nC gV c)<|zE (yK kJ (i+b.length))<|zT (eR qP (i+b.length) c)<|zZ) ?_
   refine kx [(20,(jT (i+1)))] [] (zE (xD (i+1))<|zM<|zZ) ?_
   exact ⟨(i+1,o2.set (i+b.length) c),wk,(by obtain ⟨q1,q2,q3,q4⟩:=times_row hdo2 (by omega) hlen2 hz2 hc hv2;exact ⟨q1,q2,by omega,q3,q4⟩),(by first|omega|(dsimp only;omega))⟩
 ·replace h1:=xC h1
  have hie:i=a.length:=by omega
  rw[hie,List.take_length] at hv
  refine kL<|jB<|kG (yL (t:=5) (k:=0) (es:=List.map jC out) rfl rfl (vQ _ _ (fun _=>rfl)) (vS _ _ qO) (xP _ _ (fun _=>rfl) qO)) ?_
  refine kx [(4,(vl 107 1 jC (ofNat (val out))))] [] (zM<|zE (kB (t_trim out (by assumption) (by omega)))<|zM<|zZ) ?_
  refine jD ⟨_,(.tmp (d:=(.sl 107 1 (List.map jC (ofNat (val out))))) rfl .nil),?_⟩
  rw[hv];rfl
theorem cb178:callB Tryz.prog 178=true:=by kernel_rfl
theorem pl30:dX Tryz.prog 30=some [(0,1),(1,1)]:=by kernel_rfl
theorem uT:kZ Tryz.prog 3=some (false,1):=by kernel_rfl
theorem xX:kZ Tryz.prog 28=some (false,1):=by kernel_rfl
theorem kD:kZ Tryz.prog 30=some (true,2):=by kernel_rfl
theorem sh137:kZ Tryz.prog 137=some (false,1):=by kernel_rfl
theorem ze3:xB Tryz.prog 3=some [.int .i64 0]:=by kernel_rfl
theorem nM:xB Tryz.prog 30=some [.bool false,.slice none 0 0]:=by kernel_rfl
theorem ze137:xB Tryz.prog 137=some [.int .u64 0]:=by kernel_rfl
theorem zo3:dR [.int .i64 0] [.val (.int .i64 0)]:=by simp [dR,Value.oneCell']
theorem nN:dR [.bool false,.slice none 0 0] [.val (.bool false),.sl 107 1 []]:=by simp [dR,Value.oneCell']
theorem zo137:dR [.int .u64 0] [.val (.int .u64 0)]:=by simp [dR,Value.oneCell']
theorem t_isnan_int(a:Int):jS Tryz.prog 177 [(.val (.int .i64 (a)))] (.val (.bool (false))):=by
 refine uW Tryz.func177 ?_
 refine jB<|kx [] [] (zM<|zZ) ?_
 refine jB<|kx [(2,(vb (a != a)))] [] (zM<|zM<|zE bD<|zM<|zZ) ?_
 refine jD ⟨_,(.tmp (d:=(.val (.bool ((a != a))))) rfl .nil),?_⟩
 simp [retD]
theorem t_cmp_int(a b:Int):jS Tryz.prog 152 [(.val (.int .i64 (a))),(.val (.int .i64 (b)))] (.val (.int .i64 ((vD a b)))):=by
 refine uW Tryz.func152 ?_
 refine jB<|kx [] [] (zM<|zZ) ?_
 refine jB<|kx [(5,(vb false))] [] (zM<|zE (kB (t_isnan_int a))<|zM<|zZ) ?_
 refine jB<|kx [(6,(vb false))] [] (zM<|zE (kB (t_isnan_int b))<|zM<|zZ) ?_
 refine jB<|jB<|kx [(11,(vb false))] [] (zM<|zZ) ?_
 refine qH ?_
 refine jE<|jB<|jB<|kx [(13,(vb false))] [] (zM<|zZ) ?_
 refine qH ?_
 refine jE<|jB<|jB<|kx [(16,(vb (decide (a<b))))] [] (zM<|zM<|zE yY<|zZ) ?_
 refine jF (b:=decide (a<b)) rfl (fun h1=>?_) (fun h1=>?_)
 ·replace h1:=vT h1
  refine jB<|kx [(4,(vi (-1)))] [] (zM<|zZ) ?_
  refine jD ⟨_,(.tmp (d:=(.val (.int .i64 (-1)))) rfl .nil),?_⟩
  rw[show vD a b=-1 from if_pos h1];rfl
 ·replace h1:=xC h1
  refine jE<|jB<|jB<|kx [(19,(vb (decide (b<a))))] [] (zM<|zM<|zE cI<|zZ) ?_
  refine jF (b:=decide (b<a)) rfl (fun h2=>?_) (fun h2=>?_)
  ·replace h2:=vT h2
   refine jB<|kx [(4,(jT 1))] [] (zM<|zZ) ?_
   refine jD ⟨_,(.tmp (d:=(.val (.int .i64 (1)))) rfl .nil),?_⟩
   rw[aR h2];rfl
  ·replace h2:=xC h2
   refine jE<|jB<|kx [(4,(jT 0))] [] (zM<|zZ) ?_
   refine jD ⟨_,(.tmp (d:=(.val (.int .i64 (0)))) rfl .nil),?_⟩
   rw[cmpI_eq h1 h2];rfl
theorem t_isnan_uint32(a:Nat):jS Tryz.prog 204 [(.val (.int .u32 (((a:Nat):Int))))] (.val (.bool (false))):=by
 refine uW Tryz.func204 ?_
 refine jB<|kx [] [] (zM<|zZ) ?_
 refine jB<|kx [(2,(vb (((a:Nat):Int) != ((a:Nat):Int))))] [] (zM<|zM<|zE bD<|zM<|zZ) ?_
 refine jD ⟨_,(.tmp (d:=(.val (.bool ((((a:Nat):Int) != ((a:Nat):Int)))))) rfl .nil),?_⟩
 simp [retD]
theorem t_cmp_uint32(a b:Nat):jS Tryz.prog 179 [(.val (.int .u32 (((a:Nat):Int)))),(.val (.int .u32 (((b:Nat):Int))))] (.val (.int .i64 ((vD ((a:Nat):Int) ((b:Nat):Int))))):=by
 refine uW Tryz.func179 ?_
 refine jB<|kx [] [] (zM<|zZ) ?_
 refine jB<|kx [(5,(vb false))] [] (zM<|zE (kB (t_isnan_uint32 a))<|zM<|zZ) ?_
 refine jB<|kx [(6,(vb false))] [] (zM<|zE (kB (t_isnan_uint32 b))<|zM<|zZ) ?_
 refine jB<|jB<|kx [(11,(vb false))] [] (zM<|zZ) ?_
 refine qH ?_
 refine jE<|jB<|jB<|kx [(13,(vb false))] [] (zM<|zZ) ?_
 refine qH ?_
 refine jE<|jB<|jB<|kx [(16,(vb (decide (((a:Nat):Int)<((b:Nat):Int)))))] [] (zM<|zM<|zE yY<|zZ) ?_
 refine jF rfl (fun h1=>?_) (fun h1=>?_)
 ·replace h1:=vT h1
  refine jB<|kx [(4,(vi (-1)))] [] (zM<|zZ) ?_
  refine jD ⟨_,(.tmp (d:=(.val (.int .i64 (-1)))) rfl .nil),?_⟩
  rw[show vD ((a:Nat):Int) ((b:Nat):Int)=-1 from if_pos h1];rfl
 ·replace h1:=xC h1
  refine jE<|jB<|jB<|kx [(19,(vb (decide (((b:Nat):Int)<((a:Nat):Int)))))] [] (zM<|zM<|zE cI<|zZ) ?_
  refine jF rfl (fun h2=>?_) (fun h2=>?_)
  ·replace h2:=vT h2
   refine jB<|kx [(4,(jT 1))] [] (zM<|zZ) ?_
   refine jD ⟨_,(.tmp (d:=(.val (.int .i64 (1)))) rfl .nil),?_⟩
   rw[aR h2];rfl
  ·replace h2:=xC h2
   refine jE<|jB<|kx [(4,(jT 0))] [] (zM<|zZ) ?_
   refine jD ⟨_,(.tmp (d:=(.val (.int .i64 (0)))) rfl .nil),?_⟩
   rw[cmpI_eq h1 h2];rfl
theorem dK(neg:Bool)(l:List Nat)(hd:Dig l)(hb:l.length<=17592186044416):jS Tryz.prog 155 [(.val (.bool (neg))),(.sl 107 1 (List.map jC l))] (jR (xN neg (val l))):=by
 refine uW Tryz.func155 ?_
 refine jB<|kx [(4,(.ref 0 0))] [(0,some (bx (jR (kW.mk false []))))] (zN (uJ 0 nM nN)<|zZ) ?_
 refine jB<|kx [(1,(vl 107 1 jC (ofNat (val l))))] [] (zM<|zE (kB (t_trim l (by assumption) (by omega)))<|zM<|zZ) ?_
 refine jB<|jB<|kx [(9,(vb ((((ofNat (val l)).length:Nat):Int) == 0)))] [] (zM<|zE (yH kJ (L:=(ofNat (val l))))<|zE yP<|zZ) ?_
 refine jF rfl (fun h1=>?_) (fun h1=>?_)
 ·replace h1:=eq_of_beq h1
  refine jB<|kx [] [(0,some (bx (jR (kW.mk false []))))] (zE (bH pl30 nM nN)<|zT (qM kD)<|zZ) ?_
  refine jD ⟨_,(kS (cs:=(bx (jR (kW.mk false [])))) (d:=(jR (kW.mk false []))) rfl rfl kD rfl rfl .nil),?_⟩
  rw[mkI_zero h1];rfl
 ·replace h1:=ne_of_beq_false h1
  refine jE<|jB<|kx [] [(0,some (bx (jR (kW.mk neg (ofNat (val l))))))] (zM<|zM<|zE (bH pl30 nM nN)<|zT (qM kD)<|zZ) ?_
  refine jD ⟨_,(kS (cs:=(bx (jR (kW.mk neg (ofNat (val l)))))) (d:=(jR (kW.mk neg (ofNat (val l))))) rfl rfl kD rfl rfl .nil),?_⟩
  rw[mkI_pos h1];rfl
theorem t_word(l:List Nat)(hd:Dig l):jS Tryz.prog 154 [(.sl 107 1 (List.map jC l))] (.tup [(.val (.int .u64 ((((yO l):Nat):Int)))),(.val (.bool ((mN l))))]):=by
 refine uW Tryz.func154 ?_
 refine jB<|kx [(2,(gN 0)),(3,(vb false))] [] (zM<|zM<|zZ) ?_
 refine jB<|jB<|kx [(9,(vb (decide (2<((l.length:Nat):Int)))))] [] (zM<|zE (yH kJ)<|zE cI<|zZ) ?_
 refine jF (b:=decide (2<((l.length:Nat):Int))) rfl (fun h1=>?_) (fun h1=>?_)
 ·replace h1:=vT h1
  refine jB<|kx [(2,(gN 0)),(3,(vb false))] [] (zM<|zM<|zZ) ?_
  refine jD ⟨_,(.tmp (d:=(.val (.int .u64 (0)))) rfl (.tmp (d:=(.val (.bool (false)))) rfl .nil)),?_⟩
  rw[show yO l=0 from if_neg (by omega),show mN l=false from decide_eq_false (by omega)];rfl
 ·replace h1:=xC h1
  have h2:l.length<=2:=by omega
  refine jE<|jB<|kx [(4,(.ref 0 0))] [(0,some (bx (.val (.int .u64 (0)))))] (zN (uJ 0 ze137 zo137)<|zT (qM sh137)<|zZ) ?_
  refine jB<|pwp_backL backs cb178 rfl 5 jC l 0 (fun n=>⟨[(2,(gN 0)),(3,(vb false)),(4,(.ref 0 0))],[(0,some (bx (.val (.int .u64 (((n:Nat):Int))))))]⟩) (fun (j:Nat) n=>n=val (l.drop (l.length-j))) 0 rfl rfl rfl rfl rfl rfl rfl rfl rfl rfl rfl rfl (fun _=>rfl) (fun _=>rfl) wk (by simp [val]) (by omega) ?_ ?_
  ·rintro rl j n hj hn
   have hw:=word_bound hd hj h2
   rw[<- hn] at hw
   have hg:=hd.getD (l.length-1-j)
   refine kx [(6,(iE (l.getD (l.length-1-j) 0)))] [] (zM<|zZ) ?_
   refine jH<|kx [] [(0,some (bx (.val (.int .u64 (((((n*1000000000)+(l.getD (l.length-1-j) 0)):Nat):Int))))))] (zR (qJ sh137)<|zE (oMl (n*1000000000))<|zM<|zE (mP yU yM (l.getD (l.length-1-j) 0))<|zE (xD ((n*1000000000)+(l.getD (l.length-1-j) 0)))<|zT (qM sh137)<|zZ) ?_
   exact ⟨n*1000000000+l.getD (l.length-1-j) 0,wk,(by dsimp only;rw[bT l j hj,<- hn];omega)⟩
  ·rintro n hn
   refine jB<|kx [(2,(gN n)),(3,(vb true))] [] (zR (qJ sh137)<|zM<|zM<|zZ) ?_
   refine jD ⟨_,(.tmp (d:=(.val (.int .u64 (((n:Nat):Int))))) rfl (.tmp (d:=(.val (.bool (true)))) rfl .nil)),?_⟩
   rw[show yO l=n by rw[hn,Nat.sub_self,List.drop_zero];exact if_pos h2,show mN l=true from decide_eq_true h2];rfl
theorem t_compare(a b:List Nat)(ha:gH a)(hb:gH b)(hla:a.length<=17592186044416):jS Tryz.prog 153 [(.sl 107 1 (List.map jC a)),(.sl 107 1 (List.map jC b))] (.val (.int .i64 ((vD ((val a:Nat):Int) ((val b:Nat):Int))))):=by
 refine uW Tryz.func153 ?_
 refine jB<|kx [(3,(.ref 0 0)),(4,(.ref 1 0))] [(0,some (bx (.sl 107 1 (List.map jC b)))),(1,some (bx (.val (.int .i64 (0)))))] (zN (vX 0)<|zN (uJ 1 ze3 zo3)<|zZ) ?_
 refine jB<|jB<|kx [(11,(vb (((a.length:Nat):Int) != ((b.length:Nat):Int))))] [] (zM<|zE (yH kJ)<|zR (qJ xX)<|zE (yH kJ)<|zE bD<|zZ) ?_
 refine jF rfl (fun h1=>?_) (fun h1=>?_)
 ·replace h1:=bne_iff_ne.1 h1
  refine jB<|kx [] [(1,some (bx (.val (.int .i64 ((vD ((a.length:Nat):Int) ((b.length:Nat):Int)))))))] (zM<|zE (yH kJ)<|zR (qJ xX)<|zE (yH kJ)<|zE (kB (t_cmp_int ((a.length:Nat):Int) ((b.length:Nat):Int)))<|zT (qM uT)<|zZ) ?_
  refine jD ⟨_,(res_1 (cs:=(bx (.val (.int .i64 ((vD ((a.length:Nat):Int) ((b.length:Nat):Int))))))) (d:=(.val (.int .i64 ((vD ((a.length:Nat):Int) ((b.length:Nat):Int)))))) rfl rfl uT rfl rfl .nil),?_⟩
  rw[<- cmpI_len ha hb h1];rfl
 ·replace h1:=bne_eq_false_iff_eq.1 h1
  have hl:a.length=b.length:=by omega
  refine jE<|jB<|pwp_backL backs cb178 rfl 5 jC a 0 (fun _=>⟨[(3,(.ref 0 0)),(4,(.ref 1 0))],[(0,some (bx (.sl 107 1 (List.map jC b)))),(1,some (bx (.val (.int .i64 (0)))))]⟩) (fun (j:Nat) _=>val (a.drop (a.length-j))=val (b.drop (a.length-j))) () rfl rfl rfl rfl rfl rfl rfl rfl rfl rfl rfl rfl (fun _=>rfl) (fun _=>rfl) wk (by rw[Nat.sub_zero,List.drop_length,hl,List.drop_length]) (by omega) ?_ ?_
  ·rintro rl j ⟨⟩ hj he
   refine jB<|kx [(5,(jT (a.length-1-j)))] [] (zM<|zZ) ?_
   refine kx [(6,(iE (a.getD (a.length-1-j) 0)))] [] (zM<|zZ) ?_
   refine jH<|jB<|kx [(26,(vb ((((a.getD (a.length-1-j) 0):Nat):Int) != (((b.getD (a.length-1-j) 0):Nat):Int))))] [] (zM<|zR (qJ xX)<|zM<|zE (dA kJ (a.length-1-j) (0:Nat))<|zE (nX qP)<|zE bD<|zZ) ?_
   refine jF rfl (fun h2=>?_) (fun h2=>?_)
   ·replace h2:=bne_iff_ne.1 h2
    refine jB<|kx [] [(1,some (bx (.val (.int .i64 ((vD (((a.getD (a.length-1-j) 0):Nat):Int) (((b.getD (a.length-1-j) 0):Nat):Int)))))))] (zM<|zR (qJ xX)<|zM<|zE (dA kJ (a.length-1-j) (0:Nat))<|zE (nX qP)<|zE (kB (t_cmp_uint32 (a.getD (a.length-1-j) 0) (b.getD (a.length-1-j) 0)))<|zT (qM uT)<|zZ) ?_
    refine jD ⟨⟨[(4,(.ref 1 0))],[(1,some (bx (.val (.int .i64 ((vD (((a.getD (a.length-1-j) 0):Nat):Int) (((b.getD (a.length-1-j) 0):Nat):Int)))))))]⟩,wk,keys_of rfl,⟨_,(res_1 (cs:=(bx (.val (.int .i64 ((vD (((a.getD (a.length-1-j) 0):Nat):Int) (((b.getD (a.length-1-j) 0):Nat):Int))))))) (d:=(.val (.int .i64 ((vD (((a.getD (a.length-1-j) 0):Nat):Int) (((b.getD (a.length-1-j) 0):Nat):Int)))))) rfl rfl uT rfl rfl .nil),?_⟩⟩
    rw[<- cmpI_top ha.1 hb.1 hl hj he h2];rfl
   ·replace h2:=bne_eq_false_iff_eq.1 h2
    refine jE ?_
    exact ⟨(),wk,(by dsimp only;have e1:=bT a j hj;have e2:=bT b j (by omega);rw[<- hl] at e2;rw[e1,e2,he];omega)⟩
  ·rintro ⟨⟩ he
   refine jB<|kx [] [(1,some (bx (.val (.int .i64 (0)))))] (zT (qM uT)<|zZ) ?_
   refine jD ⟨_,(res_1 (cs:=(bx (.val (.int .i64 (0))))) (d:=(.val (.int .i64 (0)))) rfl rfl uT rfl rfl .nil),?_⟩
   rw[cmpI_same (by rw[Nat.sub_self,List.drop_zero,List.drop_zero] at he;exact he)];rfl
theorem t_split(n:Nat)(hn:n<18446744073709551616):jS Tryz.prog 156 [(.val (.int .u64 (((n:Nat):Int))))] (.sl 107 1 (List.map jC (ofNat n))):=by
 refine uW Tryz.func156 ?_
 refine jB<|kx [] [] (zE (bB 107 1)<|zZ) ?_
 refine jB<|kx [(3,(.own 0 107 1 0))] [(0,some (bm jC []))] (zO 0 107 1<|zZ) ?_
 refine jB<|jH<|kQ (α:=Nat × List Nat) (fun (m,g)=>⟨[(0,(gN m)),(3,(.own 0 107 1 g.length))],[(0,some (bm jC g))]⟩) (fun (m,g)=>m<=n/\g++ofNat m=ofNat n) (fun (m,g)=>m) (n,[]) wk ⟨Nat.le_refl _,by rw[List.nil_append]⟩ ?_
 rintro ⟨m,g⟩ ⟨hm,hg⟩
 have hl:=split_len hg hn
 refine jB<|jB<|kx [(5,(vb (decide (0<((m:Nat):Int)))))] [] (zM<|zE cI<|zZ) ?_
 refine jF (b:=decide (0<((m:Nat):Int))) rfl (fun h1=>?_) (fun h1=>?_)
 ·replace h1:=vT h1
  refine jE<|jB<|jH<|kf [(3,(.own 0 107 1 ((g++[(m % 1000000000)]).length)))] [(0,some (bm jC (g++[(m % 1000000000)])))] (zM<|zM<|zE (oRe (m % 1000000000))<|zE (mP nC gV (m % 1000000000))<|zE (fF kJ vY yT)<|zA jC g [(m % 1000000000)] rfl kJ vY nY<|zM<|zF) ?_
  refine kx [(0,(gN (m / 1000000000)))] [] (zM<|zE (oQu (m / 1000000000))<|zM<|zZ) ?_
  exact ⟨(m / 1000000000,g++[m % 1000000000]),wk,⟨by omega,split_step hg h1⟩,(by first|omega|(dsimp only;omega))⟩
 ·replace h1:=xC h1
  refine kL<|jB<|kG (yL (t:=3) (k:=0) (es:=List.map jC g) rfl rfl (vQ _ _ (fun _=>rfl)) (vS _ _ rfl) (xP _ _ (fun _=>rfl) rfl)) ?_
  refine kx [(2,(vl 107 1 jC g))] [] (zM<|zM<|zZ) ?_
  refine jD ⟨_,(.tmp (d:=(.sl 107 1 (List.map jC g))) rfl .nil),?_⟩
  rw[split_end hg h1];rfl
theorem vO:uY Tryz.prog 30 0=some 0:=by kernel_rfl
theorem vK:uY Tryz.prog 30 1=some 1:=by kernel_rfl
theorem fG:kZ Tryz.prog 4=some (false,1):=by kernel_rfl
theorem t_big(a:Nat):jS Tryz.prog 150 [(.val (.int .u32 (((a:Nat):Int))))] (.val (.bool ((decide (1000000000<=((a:Nat):Int)))))):=by
 refine uW Tryz.func150 ?_
 refine jB<|kx [] [] (zM<|zZ) ?_
 refine jB<|kx [(2,(vb (decide (1000000000<=((a:Nat):Int)))))] [] (zM<|zE oGe<|zM<|zZ) ?_
 refine jD ⟨_,(.tmp (d:=(.val (.bool (decide (1000000000<=((a:Nat):Int)))))) rfl .nil),?_⟩
 rfl
theorem t_index(l:List Nat)(hb:l.length<=17592186044416):jS Tryz.prog 176 [(.sl 107 1 (List.map jC l)),(.val (.func (.func 150) #[] #[]))] (.val (.int .i64 ((xR l)))):=by
 refine uW Tryz.func176 ?_
 refine jB<|kx [] [] (zM<|zZ) ?_
 refine jB<|jB<|kx [(7,(jT l.length)),(8,(jT 0))] [] (zM<|zE (yH kJ)<|zM<|zZ) ?_
 refine jH<|kQ (α:=Nat) (fun i=>⟨[(0,(vl 107 1 jC l)),(1,(.d (.val (.func (.func 150) #[] #[])))),(7,(jT l.length)),(8,(jT i))],[]⟩) (fun i=>i<=l.length/\Dig (l.take i)) (fun i=>l.length-i) 0 wk ⟨Nat.zero_le _,gW⟩ ?_
 rintro i ⟨hi,hd⟩
 refine jB<|kx [(9,(vb (decide (((i:Nat):Int)<((l.length:Nat):Int)))))] [] (zE yY<|zZ) ?_
 refine jB<|jF rfl (fun h1=>?_) (fun h1=>?_)
 ·replace h1:=vT h1
  refine jE<|jB<|jH<|jB<|kx [(5,(jT i))] [] (zM<|zM<|zZ) ?_
  refine jB<|kx [(16,(vb (decide (1000000000<=(((l.getD i 0):Nat):Int)))))] [] (zM<|zM<|zM<|zE (dA kJ i (0:Nat))<|zE (nX qP)<|zE (kB (t_big (l.getD i 0)))<|zZ) ?_
  refine jF rfl (fun h2=>?_) (fun h2=>?_)
  ·replace h2:=vT h2
   refine jB<|kx [(4,(jT i))] [] (zM<|zM<|zZ) ?_
   refine jD ⟨_,(.tmp (d:=(.val (.int .i64 (((i:Nat):Int))))) rfl .nil),?_⟩
   rw[firstBig_at (by omega) hd (by omega)];rfl
  ·replace h2:=xC h2
   refine jE<|kx [(8,(jT (i+1)))] [] (zE (xD (i+1))<|zM<|zZ) ?_
   exact ⟨(i+1),wk,⟨by omega,dig_take_succ (by omega) hd (by omega)⟩,(by omega)⟩
 ·replace h1:=xC h1
  refine kL<|jB<|kx [(4,(vi (-1)))] [] (zM<|zZ) ?_
  refine jD ⟨_,(.tmp (d:=(.val (.int .i64 (-1)))) rfl .nil),?_⟩
  rw[iR (by rw[List.take_of_length_le (by omega)] at hd;exact hd)];rfl
theorem t_contains(l:List Nat)(hb:l.length<=17592186044416):jS Tryz.prog 149 [(.sl 107 1 (List.map jC l)),(.val (.func (.func 150) #[] #[]))] (.val (.bool ((decide (0<=xR l))))):=by
 refine uW Tryz.func149 ?_
 refine jB<|kx [] [] (zM<|zZ) ?_
 refine jB<|kx [(4,(vb (decide (0<=(xR l)))))] [] (zM<|zM<|zE (kB (t_index l (by omega)))<|zE oGe<|zM<|zZ) ?_
 refine jD ⟨_,(.tmp (d:=(.val (.bool (decide (0<=(xR l)))))) rfl .nil),?_⟩
 rfl
theorem t_valid(x:kW)(hb:x.gs.length<=17592186044416):jS Tryz.prog 83 [(jR x)] (.val (.bool ((uL x)))):=by
 refine uW Tryz.func83 ?_
 refine jB<|kx [(1,(.ref 0 0))] [(0,some (bx (jR x)))] (zN (vX 0)<|zM<|zZ) ?_
 refine jB<|kx [(3,(jT x.gs.length))] [] (zE (kN vK)<|zR (qJ xX)<|zE (yH kJ)<|zM<|zZ) ?_
 refine jB<|jB<|kx [(8,(vb (((x.gs.length:Nat):Int) == 0)))] [] (zM<|zE yP<|zZ) ?_
 refine jF (b:=(((x.gs.length:Nat):Int) == 0)) rfl (fun h1=>?_) (fun h1=>?_)
 ·replace h1:=eq_of_beq h1
  refine jB<|kx [(2,(vb (!x.neg)))] [] (zE (kN vO)<|zR (qJ fG)<|zE cC<|zM<|zZ) ?_
  refine jD ⟨_,(.tmp (d:=(.val (.bool (!x.neg)))) rfl .nil),?_⟩
  rw[show uL x=!x.neg from if_pos h1];rfl
 ·replace h1:=ne_of_beq_false h1
  refine jE<|jB<|kx [(2,(vb (((((x.gs.getD (x.gs.length-1) 0):Nat):Int) != 0)&&!(decide (0<=xR x.gs)))))] [] ?_ ?_
  ·refine zE (kN vK)<|zR (qJ xX)<|zM<|zE (oSb (x.gs.length-1))<|zE (dA kJ (x.gs.length-1) (0:Nat))<|zE (nX qP)<|zE bD<|zE (oV (vb ((((x.gs.getD (x.gs.length-1) 0):Nat):Int) != 0)) (qA (by kernel_rfl)))<|?_
   rcases hb2:((((x.gs.getD (x.gs.length-1) 0):Nat):Int) != 0) with _ | _
   ·replace hb2:=bne_eq_false_iff_eq.1 hb2
    exact zK<|zK<|zK<|zK<|zE yJ<|zM<|zZ
   ·replace hb2:=bne_iff_ne.1 hb2
    exact zE (kN vK)<|zR (qJ xX)<|zE (kB (t_contains x.gs (by omega)))<|zE cC<|zE aB<|zM<|zZ
  refine jD ⟨_,(.tmp (d:=(.val (.bool ((((((x.gs.getD (x.gs.length-1) 0):Nat):Int) != 0)&&!(decide (0<=xR x.gs))))))) rfl .nil),?_⟩
  rw[show uL x=_ from if_neg h1];rfl
theorem gY(x:kW)(hb:x.gs.length<=17592186044416):jS Tryz.prog 151 [(jR x)] (.sl 107 1 (List.map jC (kP x))):=by
 refine uW Tryz.func151 ?_
 refine jB<|kx [(1,(.ref 0 0))] [(0,some (bx (jR x)))] (zN (vX 0)<|zE (bB 107 1)<|zZ) ?_
 refine jB<|jB<|kx [(5,(vb (!(uL x))))] [] (zR (kR kD)<|zE (kB (t_valid x (by omega)))<|zE cC<|zZ) ?_
 refine jF (b:=!(uL x)) rfl (fun h1=>?_) (fun h1=>?_)
 ·refine jB<|kx [(2,(vl 107 1 jC []))] [] (zE (bB 107 1)<|zZ) ?_
  refine jD ⟨_,(.tmp (d:=(.sl 107 1 (List.map jC []))) rfl .nil),?_⟩
  rw[show kP x=[] from if_neg (by simpa using h1)];rfl
 ·refine jE<|jB<|kx [(2,(vl 107 1 jC x.gs))] [] (zE (kN vK)<|zR (qJ xX)<|zM<|zZ) ?_
  refine jD ⟨_,(.tmp (d:=(.sl 107 1 (List.map jC x.gs))) rfl .nil),?_⟩
  rw[show kP x=x.gs from if_pos (by simpa using h1)];rfl
theorem t_clone(l:List Nat)(hb:l.length<=17592186044416):jS Tryz.prog 158 [(.sl 107 1 (List.map jC l))] (.sl 107 1 (List.map jC l)):=by
 refine uW Tryz.func158 ?_
 refine jB<|kx [] [] (zE (bB 107 1)<|zZ) ?_
 refine jB<|jB<|pwp_nilq rfl rfl rfl rfl rfl rfl kJ rfl rfl rfl (fun nb hnb=>?_)
 refine jF (b:=nb) rfl (fun h1=>?_) (fun h1=>?_)
 ·refine jB<|kx [(2,(vl 107 1 jC []))] [] (zE (bB 107 1)<|zZ) ?_
  refine jD ⟨_,(.tmp (d:=(.sl 107 1 (List.map jC []))) rfl .nil),?_⟩
  rw[List.map_eq_nil_iff.1 (hnb h1)];rfl
 ·refine jE<|jB<|kf [(2,(.own 0 107 1 (([]++l).length)))] [(0,some (bm jC ([]++l)))] (zN (oBo 0 kJ vY yT)<|zM<|zA jC [] l rfl kJ vY nY<|zM<|zF) ?_
  refine kG (yL (t:=2) (k:=0) (es:=List.map jC ([]++l)) rfl rfl (vQ _ _ (fun _=>rfl)) (vS _ _ rfl) (xP _ _ (fun _=>rfl) rfl)) ?_
  refine jD ⟨_,(.tmp (d:=(.sl 107 1 (List.map jC ([]++l)))) rfl .nil),?_⟩
  rfl
end Go.Proofs.YtckccjhflbljgaaGreatDoor
namespace Go.Fid
open Go.RowKit (Below)
section
variable {P:Program} {o:Oper} {S:Nat->SV}
theorem e_mkf{f:FuncId}{ks:List Nat}{caps:List Operand}(ho:o.op=.makeFunc (.func f) #[] caps.toArray)(hx:caps.map (ev S)=ks.map (fun k=>.ref k 0)):uN P o S [] (.clo f ks) :=
 uN.same fun a w D β hop _=>by
  refine ⟨.func (.func f) #[] (caps.map a.eval).toArray,?_,caps.map a.eval,rfl,?_,fun i k hk=>?_⟩
  ·simp only[execOp,ho,Instr.makeFunc,Array.map_empty,List.map_toArray,Sem.run_bind,Sem.run_pure,Result.andThen_ok]
   rfl
  ·simpa using congrArg List.length hx
  ·have hi:=congrArg (fun l:List SV=>l[i]?) hx
   simp only[List.getElem?_map,hk,Option.map_some,Option.map_eq_some_iff] at hi
   obtain ⟨c,hc,e⟩:=hi
   have hm:=hop c (by simp [ho,Op.operands,List.mem_of_getElem? hc])
   rw[e] at hm
   obtain ⟨b,h1,h2⟩:=hm
   exact ⟨b,h1,by rw[List.getElem?_map,hc,Option.map_some,h2]⟩
theorem e_clc{y:Operand}{xs:List Operand}{ats:Array TypeId}{f:FuncId}{ds:List jQ}{r:jQ}{ks:List Nat}{css:List (List jQ)}{E:TypeId}{rd:List (Nat × List SV)}
  (hf:jS P f (ds++css.map (fun cs=>.cptr E cs 0)) r) (ho:o.op=.call { callee:=.value y,args:=xs.toArray,argTypes:=ats }) (hy:ev S y=.clo f ks) (hx:xs.map (ev S)=ds.map .d)
  (hrk:rd=ks.zip (css.map (fun cs=>cs.map SV.d))) (qO:css.length=ks.length) (ha:yR E r):uN P o S rd (.d r) :=
 fun a w D β Q hop hrd hD=>by
  have hyv:=hop y (by simp [ho,Op.operands,Call.operands])
  rw[hy] at hyv
  obtain ⟨vs,hv1,hv2,hv3⟩:=hyv
  have hl:xs.length=ds.length:=by simpa using congrArg List.length hx
  have hargs0:Args w D (xs.map a.eval) ds:=by
   refine ⟨by simpa using hl,fun i v d hv hd=>?_⟩
   rw[List.getElem?_map,Option.map_eq_some_iff] at hv
   obtain ⟨x,hxi,rfl⟩:=hv
   have hm:=hop x (by simp [ho,Op.operands,Call.operands,List.mem_of_getElem? hxi])
   have hi:=congrArg (fun l:List SV=>l[i]?) hx
   simp only[List.getElem?_map,hxi,hd,Option.map_some,Option.some.injEq] at hi
   rw[hi] at hm
   exact hm
  have hrun:(execOp a.eval o).run P w=.ok (.enter f (xs.map a.eval++vs).toArray) w:=by
   simp only[execOp,ho,resolve,Deferred.ofValue,hv1,Sem.run_bind,Sem.run_pure,Result.andThen_ok,invoke,Array.empty_append]
   rw[vR hf.may]
   simp
  -- the private variables are published for the time of the call
  let X:TypeId->Nat->Nat->Prop:=fun t g _=>t=E/\∃ k∈ks,β k=some g
  have hblk:∀ (i:Nat) k cs,ks[i]?=some k->css[i]?=some cs->uC w D β k (cs.map SV.d):=fun i k cs hk hc=>by
   refine hrd (k,cs.map SV.d) ?_
   rw[hrk]
   refine List.mem_of_getElem? (i:=i) ?_
   rw[List.getElem?_zip_eq_some]
   exact ⟨hk,by rw[List.getElem?_map,hc];rfl⟩
  have hcap:∀ (i:Nat) k cs,ks[i]?=some k->css[i]?=some cs->∃ b us T',β k=some b/\vs[i]?=some (.pointer (some ⟨b,0,none⟩))/\w.heap[b]?=some (.cells us T' (0,0)) /\
    (∀ (j:Nat) x,(cs.map SV.d)[j]?=some x->∃ u,us[j]?=some u/\u.oneCell'=true/\kT w D β u x)/\∀ t o,¬ D t b o:=fun i k cs hk hc=>by
   obtain ⟨b,h1,h2⟩:=hv3 i k hk
   rcases hblk i k cs hk hc with g1 | ⟨b',us,T',g1,g2,g3,g4,g5⟩
   ·have g1:=(g1.cells (mJ _)).1;rw[h1] at g1;cases g1
   ·obtain rfl:b=b':=by rw[h1] at g1;injection g1
    exact ⟨b,us,T',h1,h2,g2,g4,g5⟩
  have hXb:∀ t g i,X t g i->(∀ t' i',¬ D t' g i')/\g<w.heap.size:=fun t g i ⟨_,k,hk,hb⟩=>by
   obtain ⟨i,hi⟩:=List.getElem?_of_mem hk
   have hlt:i<css.length:=by rw[qO];exact (List.getElem?_eq_some_iff.1 hi).1
   obtain ⟨b,us,T',h1,_,h3,_,h5⟩:=hcap i k _ hi (List.getElem?_eq_getElem hlt)
   obtain rfl:g=b:=by rw[hb] at h1;injection h1
   exact ⟨fun t' i'=>h5 t' i',qX h3⟩
  have hD':DOk (fun t g i=>D t g i\/X t g i) w:=fun t g i hd=>by
   rcases hd with hd | hd
   ·exact hD _ _ _ hd
   ·exact (hXb t g i hd).2
  have hmono:∀ t' g i,D t' g i->(D t' g i\/X t' g i)/\w.cell? ⟨g,i,none⟩=w.cell? ⟨g,i,none⟩:=fun t' g i hd=>⟨.inl hd,rfl⟩
  have hargs:Args w (fun t g i=>D t g i\/X t g i) (xs.map a.eval++vs) (ds++css.map (fun cs=>.cptr E cs 0)):=by
   refine ⟨by simp [hl,hv2,qO],fun i v d hv hd=>?_⟩
   by_cases hi:i<xs.length
   ·rw[List.getElem?_append_left (by simpa using hi)] at hv
    rw[List.getElem?_append_left (by omega)] at hd
    exact uQ.mono hmono (hargs0.2 i v d hv hd)
   ·rw[List.getElem?_append_right (by simpa using hi),List.length_map] at hv
    rw[List.getElem?_append_right (by omega),<- hl] at hd
    rw[List.getElem?_map,Option.map_eq_some_iff] at hd
    obtain ⟨cs,hcs,rfl⟩:=hd
    have hlt:i-xs.length<ks.length:=by rw[<- qO];exact (List.getElem?_eq_some_iff.1 hcs).1
    obtain ⟨b,us,T',h1,h2,h3,h4,h5⟩:=hcap _ _ cs (List.getElem?_eq_getElem hlt) hcs
    rw[h2] at hv
    injection hv with hv
    subst hv
    have hcell:∀ j,w.cell? ⟨b,j,none⟩=us[j]?:=fun j=>cell_of_row w b j us T' (0,0) h3
    have hj:∀ j,j<cs.length->∃ u,us[j]?=some u/\u.oneCell'=true/\uQ w D u (cs[j]?.getD (.tup [])):=fun j hj=>by
     obtain ⟨u,q1,q2,q3⟩:=h4 j (.d cs[j]) (by rw[List.getElem?_map,List.getElem?_eq_getElem hj];rfl)
     exact ⟨u,q1,q2,by rw[List.getElem?_eq_getElem hj];exact q3⟩
    refine uQ.cptr (off:=0) b 0 (fun j=>us.getD j undef) (fun j _=>.inr ⟨rfl,_,List.getElem_mem hlt,h1⟩) (fun j hj'=>?_) (fun j hj'=>?_) (fun j d hd=>?_)
    ·obtain ⟨u,q1,_,_⟩:=hj j hj'
     rw[Nat.zero_add,hcell,Array.getD_eq_getD_getElem?,q1];rfl
    ·obtain ⟨u,q1,q2,_⟩:=hj j hj'
     rw[Array.getD_eq_getD_getElem?,q1];exact q2
    ·obtain ⟨u,q1,q2,q3⟩:=hj j (List.getElem?_eq_some_iff.1 hd).1
     rw[Array.getD_eq_getD_getElem?,q1]
     rw[hd] at q3
     exact uQ.mono hmono q3
  refine mF hrun ((hf.run w _ _ hD' hargs).mono fun e w' h=>?_)
  obtain ⟨v,D2,he,h1,h2,h3⟩:=h
  refine ⟨v,he,v,fun t g i=>D2 t g i/\¬ X t g i,rfl,h1,⟨fun t g i hd=>⟨h2.up _ _ _ (.inl hd),fun hx'=>(hXb t g i hx').1 t i hd⟩,fun t g i hd=>?_⟩,?_⟩
  ·rcases h2.new t g i hd.1 with h | h
   ·rcases h with h | h
    ·exact .inl h
    ·exact absurd h hd.2
   ·exact .inr h
  ·exact ha.rep (fun t g i hne hd=>⟨hd,fun hx'=>hne hx'.1⟩) h3
theorem oMf{f:FuncId}{caps:List Operand}(ks:List Nat)(ho:o.op=.makeFunc (.func f) #[] caps.toArray:=by exact rfl)(hx:caps.map (ev S)=ks.map (fun k=>.ref k 0):=by kernel_rfl):uN P o S [] (.clo f ks):=e_mkf ho hx
end
def RKs(P:Program)(o:Oper)(S:SL)(B:BS)(ks:List Nat)(x:SV):Prop:=∃ rd:List (Nat × List SV),rd.map (·.1)=ks/\uN P o (kA S) rd x/\∀ p∈rd,jZ B p.1=some p.2
theorem oCc{P:Program}{o:Oper}{S:SL}{B:BS}{y:Operand}{xs:List Operand}{ats:Array TypeId}{f:FuncId}{ds:List jQ}{r:jQ}(ks:List Nat)(css:List (List jQ))
  (hf:jS P f (ds++css.map (fun cs=>.cptr 1000000 cs 0)) r) (ha:yR 1000000 r) (ho:o.op=.call { callee:=.value y,args:=xs.toArray,argTypes:=ats }:=by exact rfl) (hy:ev (kA S) y=.clo f ks:=by kernel_rfl) (hx:xs.map (ev (kA S))=ds.map .d:=by kernel_rfl)
  (qO:Nat.beq css.length ks.length=true:=by kernel_rfl) (hb:ks.map (fun k=>jZ B k)=css.map (fun cs=>some (cs.map SV.d)):=by kernel_rfl):RKs P o S B ks (.d r):=by
 have qO:=Nat.eq_of_beq_eq_true qO
 refine ⟨ks.zip (css.map (fun cs=>cs.map SV.d)),?_,e_clc hf ho hy hx rfl qO ha,fun p hp=>?_⟩
 ·rw[List.map_fst_zip];simp [qO]
 ·obtain ⟨i,hi⟩:=List.getElem?_of_mem hp
  rw[List.getElem?_zip_eq_some] at hi
  have h1:=congrArg (fun l:List (Option (List SV))=>l[i]?) hb
  simp only[List.getElem?_map,hi.1,Option.map_some] at h1
  have h2:=hi.2
  rw[List.getElem?_map,Option.map_eq_some_iff] at h2
  obtain ⟨cs,hc,e⟩:=h2
  rw[hc] at h1
  simp only[Option.map_some,Option.some.injEq] at h1
  rw[h1,e]
section
variable {P:Program} {n:Fr} {ops:Array Oper} {K:SL->BS->Prop} {S:SL} {B:BS} {l:List Oper} {o:Oper} {news:List Nat} {acc0:List (List Nat × List Nat)}
theorem zC{ks:List Nat}{x:SV}(h:RKs P o S B ks x)(r:SK P n ops K ((dO o,x)::S) B l)(g:goK n ops S o=true:=by kernel_rfl):SK P n ops K S B (o::l):=by
 obtain ⟨st1,r1,r2⟩:=r
 obtain ⟨rd,_,h,hbk⟩:=h
 obtain ⟨hd,hg,hb⟩:=zW g
 have hs:=Step.e (P:=P) (n:=n) (ops:=ops) (st:=⟨S,B⟩) (o:=o) h hg (by rw[hd];exact hb) hbk
 rw[hd] at hs
 exact ⟨st1,.cons hs r1,r2⟩
theorem wC{ks:List Nat}{x:SV}(h:RKs P o S B ks x)(r:DK P n ops K news (acc0++[(ks,[])]) ((dO o,x)::S) B l)(g:goK n ops S o=true:=by kernel_rfl)(hn:clearR ops S o news x=true:=by kernel_rfl):DK P n ops K news acc0 S B (o::l):=by
 obtain ⟨st1,acc,r1,r0,r2⟩:=r
 obtain ⟨rd,hk,h,hbk⟩:=h
 obtain ⟨hd,hg,hb⟩:=zW g
 have hs:=nZ.e (P:=P) (n:=n) (ops:=ops) (news:=news) (st:=⟨S,B⟩) (o:=o) h hg (by rw[hd];exact hb) hbk hn
 rw[hd,hk] at hs
 exact ⟨st1,(ks,[])::acc,.cons hs r1,by simpa using r0,r2⟩
end
inductive CArgs (bl:List (Nat × List jQ)):List Nat->List (List jQ)->Prop
 |nil:CArgs bl [] []
 |cons {k:Nat} {cs:List jQ} {ks:List Nat} {css:List (List jQ)} (hk:(k,cs)∈bl) (h:CArgs bl ks css):CArgs bl (k::ks) (cs::css)
theorem CArgs.len{bl:List (Nat × List jQ)}{ks:List Nat}{css:List (List jQ)}(h:CArgs bl ks css):ks.length=css.length:=by
 induction h with
 |nil=>rfl
 |cons hk h ih=>simp [ih]
theorem CArgs.get{bl:List (Nat × List jQ)}{ks:List Nat}{css:List (List jQ)}(h:CArgs bl ks css):∀ (i:Nat) k cs,ks[i]?=some k->css[i]?=some cs->(k,cs)∈bl:=by
 induction h with
 |nil=>intro i k cs h;simp at h
 |cons hk h ih=>
  intro i k cs h1 h2
  rcases i with _ | i
  ·simp at h1 h2;subst h1;subst h2;exact hk
  ·exact ih i k cs (by simpa using h1) (by simpa using h2)
inductive bS (bl:List (Nat × List jQ)) (E:TypeId):List SV->List jQ->Prop
 |nil:bS bl E [] []
 |d {x:jQ} {zs:List SV} {ds:List jQ} (h:bS bl E zs ds):bS bl E (.d x::zs) (x::ds)
 |v {k q n s:Nat} {cs es:List jQ} {zs:List SV} {ds:List jQ} (hk:(k,cs)∈bl) (hes:∀ e∈es,e.cells.length=s) (hl:es.length=n) (hc:(cs.drop q).take (n*s)=qD es) (h:bS bl E zs ds):bS bl E (.view k q n::zs) (.sl E s es::ds)
 |p {k o:Nat} {cs:List jQ} {zs:List SV} {ds:List jQ} (hk:(k,cs)∈bl) (h:bS bl E zs ds):bS bl E (.ref k o::zs) (.cptr E cs o::ds)
 |c {f:FuncId} {ks:List Nat} {css:List (List jQ)} {zs:List SV} {ds:List jQ} (hk:CArgs bl ks css) (h:bS bl E zs ds):bS bl E (.clo f ks::zs) (.clo f (css.map fun cs=>.cptr E cs 0)::ds)
theorem bS.len{bl:List (Nat × List jQ)}{E:TypeId}{zs:List SV}{ds:List jQ}(h:bS bl E zs ds):zs.length=ds.length:=by
 induction h with
 |nil=>rfl
 |d h ih=>simp [ih]
 |v hk hes hl hc h ih=>simp [ih]
 |p hk h ih=>simp [ih]
 |c hk h ih=>simp [ih]
theorem bS.rep{bl:List (Nat × List jQ)}{E:TypeId}{zs:List SV}{ds:List jQ}(h:bS bl E zs ds){w:World}{D D':kV}{β:kU}(h1:∀ v x,uQ w D v x->uQ w D' v x)
  (h2:∀ (k q n s:Nat) (cs es:List jQ) (v:Value),(k,cs)∈bl->(∀ e∈es,e.cells.length=s)->es.length=n->(cs.drop q).take (n*s)=qD es->kT w D β v (.view k q n)->uQ w D' v (.sl E s es))
  (h3:∀ (k o:Nat) (cs:List jQ) (v:Value),(k,cs)∈bl->kT w D β v (.ref k o)->uQ w D' v (.cptr E cs o)) :
  ∀ (vs:List Value),vs.length=zs.length->(∀ (i:Nat) v x,vs[i]?=some v->zs[i]?=some x->kT w D β v x)->∀ (i:Nat) v d,vs[i]?=some v->ds[i]?=some d->uQ w D' v d:=by
 induction h with
 |nil=>intro vs _ _ i v d _ hd;simp at hd
 |d h ih=>
  intro vs hl hr i v d' hv hd
  rcases vs with _ | ⟨v0,vs⟩
  ·simp at hl
  ·rcases i with _ | i
   ·simp at hv hd;subst hv;subst hd;exact h1 _ _ (hr 0 _ _ rfl rfl)
   ·exact ih vs (by simpa using hl) (fun i v x h3 h4=>hr (i+1) v x (by simpa using h3) (by simpa using h4)) i v d' (by simpa using hv) (by simpa using hd)
 |v hk hes hl' hc h ih=>
  intro vs hl hr i v d' hv hd
  rcases vs with _ | ⟨v0,vs⟩
  ·simp at hl
  ·rcases i with _ | i
   ·simp at hv hd;subst hv;subst hd;exact h2 _ _ _ _ _ _ _ hk hes hl' hc (hr 0 _ _ rfl rfl)
   ·exact ih vs (by simpa using hl) (fun i v x h3 h4=>hr (i+1) v x (by simpa using h3) (by simpa using h4)) i v d' (by simpa using hv) (by simpa using hd)
 |p hk h ih=>
  intro vs hl hr i v d' hv hd
  rcases vs with _ | ⟨v0,vs⟩
  ·simp at hl
  ·rcases i with _ | i
   ·simp at hv hd;subst hv;subst hd;exact h3 _ _ _ _ hk (hr 0 _ _ rfl rfl)
   ·exact ih vs (by simpa using hl) (fun i v x h3 h4=>hr (i+1) v x (by simpa using h3) (by simpa using h4)) i v d' (by simpa using hv) (by simpa using hd)
 |c hk h ih=>
  intro vs hl hr i v d' hv hd
  rcases vs with _ | ⟨v0,vs⟩
  ·simp at hl
  ·rcases i with _ | i
   ·simp at hv hd;subst hv;subst hd
    obtain ⟨us,e1,e2,e3⟩:=hr 0 _ _ rfl rfl
    rw[e1]
    refine .clo us (by rw[e2,hk.len,List.length_map]) fun j u d hu hd=>?_
    rw[List.getElem?_map,Option.map_eq_some_iff] at hd
    obtain ⟨cs,hcs,rfl⟩:=hd
    have hlt:j<_:=(List.getElem?_eq_some_iff.1 hcs).1
    rw[<- hk.len] at hlt
    obtain ⟨b,g1,g2⟩:=e3 j _ (List.getElem?_eq_getElem hlt)
    rw[hu] at g2
    injection g2 with g2
    exact h3 _ 0 cs u (hk.get j _ cs (List.getElem?_eq_getElem hlt) hcs) ⟨b,g1,g2⟩
   ·exact ih vs (by simpa using hl) (fun i v x h3 h4=>hr (i+1) v x (by simpa using h3) (by simpa using h4)) i v d' (by simpa using hv) (by simpa using hd)
end Go.Fid
