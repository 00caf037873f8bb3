/- Part 14 of a proof: rules, plain facts, and functions walked. -/
import Derived.Test.YtciingpdmjepgaaGreatM12
import Derived.Test.YtciingpdmjepgaaGreatM8
import Derived.Test.YtciingpdmjepgaaGreatM13
import Derived.Test.YtciingpdmjepgaaGreatChecked
import Derived.RangeFuncBox
import Derived.Shelf.Abstract
import Derived.OwnWalkIn
import Derived.TacticsInMore
import Derived.LoopNIn
import Derived.LoopIn
import Derived.Test.YtciingpdmjepgaaGreatM10
set_option linter.all false
set_option maxRecDepth 4000
namespace Go.Proofs.YtciingpdmjepgaaGreat
open Go.Fid
theorem nC:xD Tryz.prog 135=some 4:=by kernel_rfl
theorem cb71:callB Tryz.prog 71=true:=by kernel_rfl
theorem kE:uJ Tryz.prog 47=some (135,1):=by kernel_rfl
theorem xM:intB Tryz.prog 122=some .u64:=by kernel_rfl
theorem yT:intB Tryz.prog 135=some .u32:=by kernel_rfl
theorem qM:kQ Tryz.prog 135=some (false,1):=by kernel_rfl
theorem yS:(Tryz.prog.underlying 122).isSome=true:=by kernel_rfl
theorem xW:(Tryz.prog.underlying 135).isSome=true:=by kernel_rfl
theorem uW:uO Tryz.prog 135=some [.int .u32 0]:=by kernel_rfl
theorem xY:nH [.int .u32 0] [.val (.int .u32 0)]:=by simp [nH,Value.oneCell']
theorem t_at(l:List Nat)(i:Nat):jU Tryz.prog 116 [(.sl 135 1 (List.map jC l)),(.val (.int .i64 (((i:Nat):Int))))] (.val (.int .u32 ((((l.getD i 0):Nat):Int)))):=by
 refine vD Tryz.func116 ?_
 refine jA<|kx [] [] (zM<|zZ) ?_
 refine jA<|jA<|kx [(8,(vb (decide (((i:Nat):Int)<((l.length:Nat):Int)))))] [] (zM<|zM<|zE (vV kE)<|zE uT<|zZ) ?_
 refine jF rfl (fun h1=>?_) (fun h1=>?_)
 ·replace h1:=uY h1
  refine jA<|kx [(4,(fU (l.getD i 0)))] [] (zM<|zM<|zE (nA kE i (0:Nat))<|zE (mV qM)<|zM<|zZ) ?_
  refine jG ⟨_,(.tmp (d:=(.val (.int .u32 ((((l.getD i 0):Nat):Int))))) rfl .nil),?_⟩
  rfl
 ·replace h1:=uZ h1
  refine jD<|jA<|kx [(4,(fU 0))] [] (zM<|zZ) ?_
  refine jG ⟨_,(.tmp (d:=(.val (.int .u32 (0)))) rfl .nil),?_⟩
  rw[show l.getD i 0=0 from getD_out (by omega)];rfl
theorem t_trim(l0:List Nat)(hd:Dig l0)(hb:l0.length<=17592186044416):jU Tryz.prog 88 [(.sl 135 1 (List.map jC l0))] (.sl 135 1 (List.map jC (ofNat (val l0)))):=by
 refine vD Tryz.func88 ?_
 refine jA<|kx [] [] (zE (fH 135 1)<|zZ) ?_
 refine jA<|jH<|kF (α:=List Nat) (fun l=>⟨[(0,(vl 135 1 jC l))],[]⟩) (fun l=>Dig l/\val l=val l0/\l.length<=l0.length) (fun l=>l.length) l0 wk ⟨hd,rfl,Nat.le_refl _⟩ ?_
 rintro l ⟨hl,hv,hle⟩
 refine jA<|jA<|kx [(14,(vb (decide (0<((l.length:Nat):Int))&&((((l.getD (l.length-1) 0):Nat):Int) == 0))))] [] ?_ ?_
 ·refine zM<|zE (vV kE)<|zE cC<|zE (oV (vb (decide (0<((l.length:Nat):Int)))) (kA (by kernel_rfl)))<|?_
  rcases hb1:(decide (0<((l.length:Nat):Int))) with _ | _
  ·replace hb1:=uZ hb1
   exact zK<|zK<|zK<|zK<|zK<|zK<|zK<|zE mJ<|zZ
  ·replace hb1:=uY hb1
   exact zM<|zM<|zE (vV kE)<|zE (oSb (l.length-1))<|zE (nA kE (l.length-1) (0:Nat))<|zE (mV qM)<|zE zW<|zE aC<|zZ
 refine jF rfl (fun h2=>?_) (fun h2=>?_)
 ·obtain ⟨hp,_⟩:=trim_cond h2
  refine jD<|jH<|kx [(0,(vl 135 1 jC (List.take (l.length-1) l)))] [] (zM<|zM<|zE (vV kE)<|zE (oSb (l.length-1))<|zE (e_slc (l:=0) (h:=(l.length-1)) (kl:=.i64) (kh:=.i64) (es':=List.map jC (List.take (l.length-1) l)) (by exact rfl) kE (by exact rfl) (by exact rfl) (by exact rfl) (Nat.zero_le _) (by simp only[List.length_map];omega) (by rw[List.drop_zero,List.map_take]))<|zM<|zZ) ?_
  exact ⟨(l.take (l.length-1)),wk,(trim_step hl hv hle h2),(trim_less h2)⟩
 ·refine jS<|jA<|kx [(2,(vl 135 1 jC l))] [] (zM<|zM<|zZ) ?_
  refine jG ⟨_,(.tmp (d:=(.sl 135 1 (List.map jC l))) rfl .nil),?_⟩
  rw[trim_end hl hv h2];rfl
theorem t_plus(a b:List Nat)(hda:Dig a)(hdb:Dig b)(hla:a.length<=8796093022208)(hlb:b.length<=8796093022208):jU Tryz.prog 97 [(.sl 135 1 (List.map jC a)),(.sl 135 1 (List.map jC b))] (.sl 135 1 (List.map jC (ofNat (val a+val b)))):=by
 refine vD Tryz.func97 ?_
 refine jA<|kx [] [] (zE (fH 135 1)<|zZ) ?_
 refine jA<|kx [(5,(.own 0 135 1 ((max a.length b.length)+1)))] [(0,some (bm jC (List.replicate ((max a.length b.length)+1) 0)))] (zM<|zE (vV kE)<|zM<|zE (vV kE)<|zE (oMx (max a.length b.length))<|zE (uL ((max a.length b.length)+1))<|zN (oMk 0 jC (0:Nat) ((max a.length b.length)+1) ((max a.length b.length)+1) kE uW xY nC)<|zM<|zZ) ?_
 refine jA<|kx [(6,(fU 0))] [] (zM<|zZ) ?_
 refine jA<|jA<|kx [(17,(jN ((max a.length b.length)+1))),(18,(jN 0))] [] (zM<|zE (oLo kE)<|zM<|zZ) ?_
 refine jH<|kF (α:=Nat × List Nat × Nat) (fun (i,out,c)=>⟨[(0,(vl 135 1 jC a)),(1,(vl 135 1 jC b)),(5,(.own 0 135 1 ((max a.length b.length)+1))),(6,(fU c)),(17,(jN ((max a.length b.length)+1))),(18,(jN i))],[(0,some (bm jC out))]⟩) (fun (i,out,c)=>out.length=max a.length b.length+1/\Dig out/\i<=max a.length b.length+1/\c<=1/\val (out.take i)+pw i*c=val (a.take i)+val (b.take i)) (fun (i,out,c)=>max a.length b.length+1-i) (0,List.replicate (max a.length b.length+1) 0,0) wk ⟨by simp,xF _,Nat.zero_le _,Nat.zero_le _,by simp [val]⟩ ?_
 rintro ⟨i,out,c⟩ ⟨uB,hdo,hi,hc,hv⟩
 have hai:=hda.getD i
 have hbi:=hdb.getD i
 refine jA<|kx [(19,(vb (decide (((i:Nat):Int)<((((max a.length b.length)+1):Nat):Int)))))] [] (zE uT<|zZ) ?_
 refine jA<|jF rfl (fun h1=>?_) (fun h1=>?_)
 ·replace h1:=uY h1
  refine jD<|jA<|jH<|jA<|kx [(7,(jN i))] [] (zM<|zM<|zZ) ?_
  refine jA<|kx [(8,(fU (((a.getD i 0)+(b.getD i 0))+c)))] [] (zM<|zM<|zE (kD (t_at a i))<|zM<|zM<|zE (kD (t_at b i))<|zE (uL ((a.getD i 0)+(b.getD i 0)))<|zM<|zE (uL (((a.getD i 0)+(b.getD i 0))+c))<|zM<|zZ) ?_
  refine jA<|kx [(6,(fU 0))] [] (zM<|zZ) ?_
  refine jA<|jA<|kx [(31,(vb (decide (1000000000<=(((((a.getD i 0)+(b.getD i 0))+c):Nat):Int)))))] [] (zM<|zE oGe<|zZ) ?_
  refine jF rfl (fun h2=>?_) (fun h2=>?_)
  ·replace h2:=uY h2
   refine kx [(6,(fU 1)),(8,(fU ((((a.getD i 0)+(b.getD i 0))+c)-1000000000)))] [] (zM<|zE (oSb ((((a.getD i 0)+(b.getD i 0))+c)-1000000000))<|zM<|zM<|zZ) ?_
   refine kx [] [(0,some (bm jC (out.set i ((((a.getD i 0)+(b.getD i 0))+c)-1000000000))))] (zM<|zM<|zM<|zE (oXo kE i)<|zT (oSp qM i ((((a.getD i 0)+(b.getD i 0))+c)-1000000000))<|zZ) ?_
   refine kx [(18,(jN (i+1)))] [] (zE (uL (i+1))<|zM<|zZ) ?_
   exact ⟨(i+1,out.set i (a.getD i 0+b.getD i 0+c-1000000000),1),wk,(by obtain ⟨q1,q2,q3⟩:=plus_step (s:=a.getD i 0+b.getD i 0+c-1000000000) (c':=1) uB hdo (by omega) hv (by omega) (by omega);exact ⟨q1,q2,by omega,by omega,q3⟩),(by first|omega|(dsimp only;omega))⟩
  ·replace h2:=uZ h2
   refine jD<|kx [] [(0,some (bm jC (out.set i (((a.getD i 0)+(b.getD i 0))+c))))] (zM<|zM<|zM<|zE (oXo kE i)<|zT (oSp qM i (((a.getD i 0)+(b.getD i 0))+c))<|zZ) ?_
   refine kx [(18,(jN (i+1)))] [] (zE (uL (i+1))<|zM<|zZ) ?_
   exact ⟨(i+1,out.set i (a.getD i 0+b.getD i 0+c),0),wk,(by obtain ⟨q1,q2,q3⟩:=plus_step (s:=a.getD i 0+b.getD i 0+c) (c':=0) uB hdo (by omega) hv (by omega) (by omega);exact ⟨q1,q2,by omega,by omega,q3⟩),(by first|omega|(dsimp only;omega))⟩
 ·replace h1:=uZ h1
  have hie:i=max a.length b.length+1:=by omega
  rw[hie] at hv
  refine jS<|jA<|kU (xR (t:=5) (k:=0) (es:=List.map jC out) rfl rfl (vP _ _ (fun _=>rfl)) (vN _ _ uB) (xO _ _ (fun _=>rfl) uB)) ?_
  refine kx [(4,(vl 135 1 jC (ofNat (val out))))] [] (zM<|zE (kD (t_trim out (by assumption) (by omega)))<|zM<|zZ) ?_
  refine jG ⟨_,(.tmp (d:=(.sl 135 1 (List.map jC (ofNat (val out))))) rfl .nil),?_⟩
  rw[plus_end hda hdb uB hv];rfl
theorem t_minus(a b:List Nat)(hda:Dig a)(hdb:Dig b)(hba:val b<=val a)(hla:a.length<=8796093022208):jU Tryz.prog 99 [(.sl 135 1 (List.map jC a)),(.sl 135 1 (List.map jC b))] (.sl 135 1 (List.map jC (ofNat (val a-val b)))):=by
 refine vD Tryz.func99 ?_
 refine jA<|kx [] [] (zE (fH 135 1)<|zZ) ?_
 refine jA<|kx [(5,(.own 0 135 1 a.length))] [(0,some (bm jC (List.replicate a.length 0)))] (zM<|zE (vV kE)<|zN (oMk 0 jC (0:Nat) a.length a.length kE uW xY nC)<|zM<|zZ) ?_
 refine jA<|kx [(6,(fU 0))] [] (zM<|zZ) ?_
 refine jA<|jA<|kx [(13,(jN a.length)),(14,(jN 0))] [] (zM<|zE (oLo kE)<|zM<|zZ) ?_
 refine jH<|kF (α:=Nat × List Nat × Nat) (fun (i,out,c)=>⟨[(0,(vl 135 1 jC a)),(1,(vl 135 1 jC b)),(5,(.own 0 135 1 a.length)),(6,(fU c)),(13,(jN a.length)),(14,(jN i))],[(0,some (bm jC out))]⟩) (fun (i,out,c)=>out.length=a.length/\Dig out/\i<=a.length/\c<=1/\val (out.take i)+val (b.take i)=val (a.take i)+pw i*c) (fun (i,out,c)=>a.length-i) (0,List.replicate a.length 0,0) wk ⟨by simp,xF _,Nat.zero_le _,Nat.zero_le _,by simp [val]⟩ ?_
 rintro ⟨i,out,c⟩ ⟨uB,hdo,hi,hc,hv⟩
 have hai:=hda.getD i
 have hbi:=hdb.getD i
 refine jA<|kx [(15,(vb (decide (((i:Nat):Int)<((a.length:Nat):Int)))))] [] (zE uT<|zZ) ?_
 refine jA<|jF rfl (fun h1=>?_) (fun h1=>?_)
 ·replace h1:=uY h1
  refine jD<|jA<|jH<|jA<|kx [(7,(jN i))] [] (zM<|zM<|zZ) ?_
  refine jA<|kx [(8,(fU ((b.getD i 0)+c)))] [] (zM<|zM<|zE (kD (t_at b i))<|zM<|zE (uL ((b.getD i 0)+c))<|zM<|zZ) ?_
  refine jA<|kx [(6,(fU 0))] [] (zM<|zZ) ?_
  refine jA<|kx [(27,(vb (decide ((((a.getD i 0):Nat):Int)<((((b.getD i 0)+c):Nat):Int)))))] [] (zM<|zM<|zE (nA kE i (0:Nat))<|zE (mV qM)<|zM<|zE uT<|zZ) ?_
  refine jF rfl (fun h2=>?_) (fun h2=>?_)
  ·replace h2:=uY h2
   refine kx [(6,(fU 1))] [(0,some (bm jC (out.set i (((a.getD i 0)+1000000000)-((b.getD i 0)+c)))))] (zM<|zM<|zM<|zM<|zE (nA kE i (0:Nat))<|zE (mV qM)<|zE (uL ((a.getD i 0)+1000000000))<|zM<|zE (oSb (((a.getD i 0)+1000000000)-((b.getD i 0)+c)))<|zE (oXo kE i)<|zT (oSp qM i (((a.getD i 0)+1000000000)-((b.getD i 0)+c)))<|zM<|zZ) ?_
   refine kx [(14,(jN (i+1)))] [] (zE (uL (i+1))<|zM<|zZ) ?_
   exact ⟨(i+1,out.set i (a.getD i 0+1000000000-(b.getD i 0+c)),1),wk,(by obtain ⟨q1,q2,q3⟩:=minus_step (s:=a.getD i 0+1000000000-(b.getD i 0+c)) (c':=1) uB hdo (by omega) hv (by omega) (by omega);exact ⟨q1,q2,by omega,by omega,q3⟩),(by first|omega|(dsimp only;omega))⟩
  ·replace h2:=uZ h2
   refine kx [] [(0,some (bm jC (out.set i ((a.getD i 0)-((b.getD i 0)+c)))))] (zM<|zM<|zM<|zM<|zE (nA kE i (0:Nat))<|zE (mV qM)<|zM<|zE (oSb ((a.getD i 0)-((b.getD i 0)+c)))<|zE (oXo kE i)<|zT (oSp qM i ((a.getD i 0)-((b.getD i 0)+c)))<|zZ) ?_
   refine kx [(14,(jN (i+1)))] [] (zE (uL (i+1))<|zM<|zZ) ?_
   exact ⟨(i+1,out.set i (a.getD i 0-(b.getD i 0+c)),0),wk,(by obtain ⟨q1,q2,q3⟩:=minus_step (s:=a.getD i 0-(b.getD i 0+c)) (c':=0) uB hdo (by omega) hv (by omega) (by omega);exact ⟨q1,q2,by omega,by omega,q3⟩),(by first|omega|(dsimp only;omega))⟩
 ·replace h1:=uZ h1
  have hie:i=a.length:=by omega
  rw[hie] at hv
  refine jS<|jA<|kU (xR (t:=5) (k:=0) (es:=List.map jC out) rfl rfl (vP _ _ (fun _=>rfl)) (vN _ _ uB) (xO _ _ (fun _=>rfl) uB)) ?_
  refine kx [(4,(vl 135 1 jC (ofNat (val out))))] [] (zM<|zE (kD (t_trim out (by assumption) (by omega)))<|zM<|zZ) ?_
  refine jG ⟨_,(.tmp (d:=(.sl 135 1 (List.map jC (ofNat (val out))))) rfl .nil),?_⟩
  rw[minus_end hda hdb hdo hba uB hv];rfl
theorem t_times(a b:List Nat)(hda:Dig a)(hdb:Dig b)(hla:a.length<=4398046511104)(hlb:b.length<=4398046511104):jU Tryz.prog 71 [(.sl 135 1 (List.map jC a)),(.sl 135 1 (List.map jC b))] (.sl 135 1 (List.map jC (ofNat (val a*val b)))):=by
 refine vD Tryz.func71 ?_
 refine jA<|kx [] [] (zE (fH 135 1)<|zZ) ?_
 refine jA<|kx [(5,(.own 0 135 1 (a.length+b.length)))] [(0,some (bm jC (List.replicate (a.length+b.length) 0)))] (zM<|zE (vV kE)<|zM<|zE (vV kE)<|zE (uL (a.length+b.length))<|zN (oMk 0 jC (0:Nat) (a.length+b.length) (a.length+b.length) kE uW xY nC)<|zM<|zZ) ?_
 refine jA<|jA<|kx [(18,(vl 135 1 jC a)),(19,(jN a.length)),(20,(jN 0))] [] (zM<|zE (vV kE)<|zM<|zZ) ?_
 refine jH<|kF (α:=Nat × List Nat) (fun (i,out)=>⟨[(1,(vl 135 1 jC b)),(5,(.own 0 135 1 (a.length+b.length))),(18,(vl 135 1 jC a)),(19,(jN a.length)),(20,(jN i))],[(0,some (bm jC out))]⟩) (fun (i,out)=>out.length=a.length+b.length/\Dig out/\i<=a.length/\(∀ k,i+b.length<=k->out.getD k 0=0)/\val out=val (a.take i)*val b) (fun (i,out)=>a.length-i) (0,List.replicate (a.length+b.length) 0) wk ⟨by simp,xF _,Nat.zero_le _,fun k _=>getD_replicate _ k,by simp [val,fK]⟩ ?_
 rintro ⟨i,out⟩ ⟨uB,hdo,hi,hz,hv⟩
 have hai:=hda.getD i
 refine jA<|kx [(21,(vb (decide (((i:Nat):Int)<((a.length:Nat):Int)))))] [] (zE uT<|zZ) ?_
 refine jA<|jF rfl (fun h1=>?_) (fun h1=>?_)
 ·replace h1:=uY h1
  refine jD<|jA<|jH<|jA<|kx [(6,(jN i)),(7,(fU (a.getD i 0)))] [] (zM<|zE (nA kE i (0:Nat))<|zE (mV qM)<|zM<|zM<|zZ) ?_
  refine jA<|kx [(8,(yH 0))] [] (zM<|zZ) ?_
  refine jA<|jA<|kx [(25,(vl 135 1 jC b)),(26,(jN b.length)),(27,(jN 0))] [] (zM<|zE (vV kE)<|zM<|zZ) ?_
  refine jH<|kF (α:=Nat × List Nat × Nat) (fun (j,o2,c)=>⟨[(1,(vl 135 1 jC b)),(5,(.own 0 135 1 (a.length+b.length))),(6,(jN i)),(7,(fU (a.getD i 0))),(8,(yH c)),(18,(vl 135 1 jC a)),(19,(jN a.length)),(20,(jN i)),(25,(vl 135 1 jC b)),(26,(jN b.length)),(27,(jN j))],[(0,some (bm jC o2))]⟩) (fun (j,o2,c)=>o2.length=a.length+b.length/\Dig o2/\j<=b.length/\c<1000000000/\(∀ k,i+b.length<=k->o2.getD k 0=0)/\val o2+pw (i+j)*c=val (a.take i)*val b+pw i*(a.getD i 0*val (b.take j))) (fun (j,o2,c)=>b.length-j) (0,out,0) wk ⟨uB,hdo,Nat.zero_le _,by decide,hz,by simp [val,hv]⟩ ?_
  rintro ⟨j,o2,c⟩ ⟨hlen2,hdo2,hj,hc,hz2,hv2⟩
  have hbj:=hdb.getD j
  have hoj:=hdo2.getD (i+j)
  have hpq:a.getD i 0*b.getD j 0<=999999999*999999999:=Nat.mul_le_mul (by omega) (by omega)
  refine jA<|kx [(28,(vb (decide (((j:Nat):Int)<((b.length:Nat):Int)))))] [] (zE uT<|zZ) ?_
  refine jA<|jF rfl (fun h2=>?_) (fun h2=>?_)
  ·replace h2:=uY h2
   refine jD<|jA<|jH<|jA<|kx [(9,(jN j)),(10,(fU (b.getD j 0)))] [] (zM<|zE (nA kE j (0:Nat))<|zE (mV qM)<|zM<|zM<|zZ) ?_
   refine jA<|kx [(11,(yH (((o2.getD (i+j) 0)+((a.getD i 0)*(b.getD j 0)))+c)))] [] (zM<|zM<|zM<|zE (uL (i+j))<|zE (oXo kE (i+j))<|zR (oLp qM (i+j) (0:Nat))<|zE (nR xW xM (o2.getD (i+j) 0))<|zM<|zE (nR xW xM (a.getD i 0))<|zM<|zE (nR xW xM (b.getD j 0))<|zE (oMl ((a.getD i 0)*(b.getD j 0)))<|zE (uL ((o2.getD (i+j) 0)+((a.getD i 0)*(b.getD j 0))))<|zM<|zE (uL (((o2.getD (i+j) 0)+((a.getD i 0)*(b.getD j 0)))+c))<|zM<|zZ) ?_
   refine kx [(8,(yH ((((o2.getD (i+j) 0)+((a.getD i 0)*(b.getD j 0)))+c) / 1000000000)))] [(0,some (bm jC (o2.set (i+j) ((((o2.getD (i+j) 0)+((a.getD i 0)*(b.getD j 0)))+c) % 1000000000))))] (zM<|zM<|zM<|zE (uL (i+j))<|zM<|zE (oRe ((((o2.getD (i+j) 0)+((a.getD i 0)*(b.getD j 0)))+c) % 1000000000))<|zE (nR yS yT ((((o2.getD (i+j) 0)+((a.getD i 0)*(b.getD j 0)))+c) % 1000000000))<|zM<|zE (oQu ((((o2.getD (i+j) 0)+((a.getD i 0)*(b.getD j 0)))+c) / 1000000000))<|zE (oXo kE (i+j))<|zT (oSp qM (i+j) ((((o2.getD (i+j) 0)+((a.getD i 0)*(b.getD j 0)))+c) % 1000000000))<|zM<|zZ) ?_
   refine kx [(27,(jN (j+1)))] [] (zE (uL (j+1))<|zM<|zZ) ?_
   exact ⟨(j+1,o2.set (i+j) ((o2.getD (i+j) 0+a.getD i 0*b.getD j 0+c) % 1000000000),(o2.getD (i+j) 0+a.getD i 0*b.getD j 0+c) / 1000000000),wk,(by obtain ⟨q1,q2⟩:=times_step (by omega) hdo2 hv2 rfl (val_take_succ b j);exact ⟨by simpa using hlen2,q1,by omega,by omega,zero_set (by omega) hz2,q2⟩),(by first|omega|(dsimp only;omega))⟩
  ·replace h2:=uZ h2
   have hje:j=b.length:=by omega
   rw[hje] at hv2
   refine jS<|kx [] [(0,some (bm jC (o2.set (i+b.length) c)))] (zM<|zM<|zM<|zE (vV kE)<|zE (uL (i+b.length))<|zM<|zE (nR yS yT c)<|zE (oXo kE (i+b.length))<|zT (oSp qM (i+b.length) c)<|zZ) ?_
   refine kx [(20,(jN (i+1)))] [] (zE (uL (i+1))<|zM<|zZ) ?_
   exact ⟨(i+1,o2.set (i+b.length) c),wk,(by obtain ⟨q1,q2,q3,q4⟩:=times_row hdo2 (by omega) hlen2 hz2 hc hv2;exact ⟨q1,q2,by omega,q3,q4⟩),(by first|omega|(dsimp only;omega))⟩
 ·replace h1:=uZ h1
  have hie:i=a.length:=by omega
  rw[hie,List.take_length] at hv
  refine jS<|jA<|kU (xR (t:=5) (k:=0) (es:=List.map jC out) rfl rfl (vP _ _ (fun _=>rfl)) (vN _ _ uB) (xO _ _ (fun _=>rfl) uB)) ?_
  refine kx [(4,(vl 135 1 jC (ofNat (val out))))] [] (zM<|zE (kD (t_trim out (by assumption) (by omega)))<|zM<|zZ) ?_
  refine jG ⟨_,(.tmp (d:=(.sl 135 1 (List.map jC (ofNat (val out))))) rfl .nil),?_⟩
  rw[hv];rfl
open Go.RowKit Go.Shelf
attribute [local go_sem] Oper.semAt_some
set_option maxRecDepth 100000 in
set_option maxHeartbeats 2000000 in
theorem back1(N l Bs b off len cap:Nat)(u:Nat->Value)(uB:(len:Int)<=9223372036854775807)(J:Nat->World->Prop)(Jx:World->Prop)
  (hc:∀ j W,J j W->W.cell? ⟨Bs,0,none⟩=some (.slice (some ⟨b,off,none⟩) len cap)/\∀ i,i<len->W.cell? ⟨b,off+i,none⟩=some (u i))
  (hY:∀ j W,J j W->j<len->YieldAt Fence.wide N Tryz.prog l #[.int .i64 ((len:Int)-1-(j:Int)),u (len-1-j)] W fun e W'=>
   (e=.returned (.bool true)/\J (j+1) W')\/(e=.returned (.bool false)/\Jx W'))
  (W:World) (h0:J 0 W) :
  CallsIn Fence.wide (N+1) Tryz.prog 100 #[.func (.yield l) #[] #[],.pointer (some ⟨Bs,0,none⟩)] W fun e W'=>(∃ v,e=.returned v)/\(J len W'\/Jx W'):=by
 refine callsIn_of_wp Tryz.func100 rfl trivial ?_ rfl
 simp only[Tryz.ntmps100,List.size_toArray,List.length_cons,List.length_nil,Nat.reduceAdd,Nat.reduceSub,Array.replicate_succ,Array.replicate_zero,List.push_toArray,List.append_toArray,List.nil_append,List.cons_append]
 have hBs:=(hc 0 W h0).1
 gi_wp2
 gi_loopw [3] (fun i wr=>∃ j:Nat,j<=len/\i=.int .i64 ((len:Int)-1-(j:Int))/\J j wr)
  (fun i _=>(intOf i+1).toNat)
 case atStart=>exact ⟨0,Nat.zero_le _,by simp,h0⟩
 case round=>
  obtain ⟨j,hk,rfl,hJs⟩:=hrel
  have hBj:=(hc j wr hJs).1
  by_cases hlt:j<len
  ·have hcj:=(hc j wr hJs).2 (len-1-j) (by omega)
   obtain ⟨fn,tmps,assign,body,hy,hR⟩:=hY j wr hJs hlt
   gi_wp2
   refine hR.mono ?_
   rintro e W3 (⟨rfl,hJ3⟩ | ⟨rfl,hJx3⟩)
   ·gi_wp2
    go_roundw
    case rel=>exact ⟨j+1,by omega,by simp;omega,hJ3⟩
    case measure=>simp [intOf];omega
   ·gi_wp2
    refine bodyPost_ret (results_none rfl _ _ _) rfl ?_
    exact ⟨⟨_,rfl⟩,.inr hJx3⟩
  ·obtain rfl:j=len:=by omega
   gi_wp2
   go_end0
   exact ⟨⟨_,rfl⟩,.inl hJs⟩
set_option maxRecDepth 100000 in
set_option maxHeartbeats 2000000 in
theorem back1_nil(N l Bs cap:Nat)(ao:Option Addr)(J:World->Prop)(W:World)(hBs:W.cell? ⟨Bs,0,none⟩=some (.slice ao 0 cap))(h0:J W) :
  CallsIn Fence.wide (N+1) Tryz.prog 100 #[.func (.yield l) #[] #[],.pointer (some ⟨Bs,0,none⟩)] W fun e W'=>(∃ v,e=.returned v)/\J W':=by
 refine callsIn_of_wp Tryz.func100 rfl trivial ?_ rfl
 simp only[Tryz.ntmps100,List.size_toArray,List.length_cons,List.length_nil,Nat.reduceAdd,Nat.reduceSub,Array.replicate_succ,Array.replicate_zero,List.push_toArray,List.append_toArray,List.nil_append,List.cons_append]
 gi_wp2
 gi_loopw [3] (fun i wr=>i=.int .i64 (-1)/\J wr) (fun _ _=>0)
 case atStart=>exact ⟨by simp,h0⟩
 case round=>
  obtain ⟨rfl,hJs⟩:=hrel
  gi_wp2
  go_end0
  exact ⟨⟨_,rfl⟩,hJs⟩
set_option maxHeartbeats 1000000 in
theorem back_in(a:Option Addr)(len cap:Nat)(w:World) :
  Calls Tryz.prog 84 #[.slice a len cap] w fun e w'=>e=.returned (.func (.func 100) #[] #[.pointer (some ⟨w.heap.size,0,none⟩)])/\w'=w.alloc (.cells #[.slice a len cap] 47):=by
 refine (callsIn_wide (n:=1)).1 (callsIn_of_wp Tryz.func84 rfl trivial ?_ rfl)
 simp only[Tryz.ntmps84,List.size_toArray,List.length_cons,List.length_nil,Nat.reduceAdd,Nat.reduceSub,Array.replicate_succ,Array.replicate_zero,List.push_toArray,List.append_toArray,List.nil_append,List.cons_append]
 gi_wp2
 go_ret
 exact ⟨rfl,rfl⟩
theorem backs:Go.Fid.Backs Tryz.prog 84 100 47:=⟨back_in,back1_nil,fun N l c b off len cap u uB J Jx hc hY W h0=>back1 N l c b off len cap u uB J Jx hc hY W h0,enters_of Tryz.func100 (by kernel_rfl) rfl⟩
theorem cb84:callB Tryz.prog 84=true:=by kernel_rfl
theorem pl49:mY Tryz.prog 49=some [(0,1),(1,1)]:=by kernel_rfl
theorem kK:kQ Tryz.prog 3=some (false,1):=by kernel_rfl
theorem gM:kQ Tryz.prog 47=some (false,1):=by kernel_rfl
theorem jP:kQ Tryz.prog 49=some (true,2):=by kernel_rfl
theorem eE:kQ Tryz.prog 122=some (false,1):=by kernel_rfl
theorem ze3:uO Tryz.prog 3=some [.int .i64 0]:=by kernel_rfl
theorem vY:uO Tryz.prog 49=some [.bool false,.slice none 0 0]:=by kernel_rfl
theorem ze122:uO Tryz.prog 122=some [.int .u64 0]:=by kernel_rfl
theorem zo3:nH [.int .i64 0] [.val (.int .i64 0)]:=by simp [nH,Value.oneCell']
theorem vZ:nH [.bool false,.slice none 0 0] [.val (.bool false),.sl 135 1 []]:=by simp [nH,Value.oneCell']
theorem zo122:nH [.int .u64 0] [.val (.int .u64 0)]:=by simp [nH,Value.oneCell']
theorem t_isnan_int(a:Int):jU Tryz.prog 124 [(.val (.int .i64 (a)))] (.val (.bool (false))):=by
 refine vD Tryz.func124 ?_
 refine jA<|kx [] [] (zM<|zZ) ?_
 refine jA<|kx [(2,(vb (a != a)))] [] (zM<|zM<|zE xX<|zM<|zZ) ?_
 refine jG ⟨_,(.tmp (d:=(.val (.bool ((a != a))))) rfl .nil),?_⟩
 simp [retD]
theorem t_cmp_int(a b:Int):jU Tryz.prog 117 [(.val (.int .i64 (a))),(.val (.int .i64 (b)))] (.val (.int .i64 ((uM a b)))):=by
 refine vD Tryz.func117 ?_
 refine jA<|kx [] [] (zM<|zZ) ?_
 refine jA<|kx [(5,(vb false))] [] (zM<|zE (kD (t_isnan_int a))<|zM<|zZ) ?_
 refine jA<|kx [(6,(vb false))] [] (zM<|zE (kD (t_isnan_int b))<|zM<|zZ) ?_
 refine jA<|jA<|kx [(11,(vb false))] [] (zM<|zZ) ?_
 refine uU ?_
 refine jD<|jA<|jA<|kx [(13,(vb false))] [] (zM<|zZ) ?_
 refine uU ?_
 refine jD<|jA<|jA<|kx [(16,(vb (decide (a<b))))] [] (zM<|zM<|zE uT<|zZ) ?_
 refine jF (b:=decide (a<b)) rfl (fun h1=>?_) (fun h1=>?_)
 ·replace h1:=uY h1
  refine jA<|kx [(4,(vi (-1)))] [] (zM<|zZ) ?_
  refine jG ⟨_,(.tmp (d:=(.val (.int .i64 (-1)))) rfl .nil),?_⟩
  rw[show uM a b=-1 from if_pos h1];rfl
 ·replace h1:=uZ h1
  refine jD<|jA<|jA<|kx [(19,(vb (decide (b<a))))] [] (zM<|zM<|zE cC<|zZ) ?_
  refine jF (b:=decide (b<a)) rfl (fun h2=>?_) (fun h2=>?_)
  ·replace h2:=uY h2
   refine jA<|kx [(4,(jN 1))] [] (zM<|zZ) ?_
   refine jG ⟨_,(.tmp (d:=(.val (.int .i64 (1)))) rfl .nil),?_⟩
   rw[eS h2];rfl
  ·replace h2:=uZ h2
   refine jD<|jA<|kx [(4,(jN 0))] [] (zM<|zZ) ?_
   refine jG ⟨_,(.tmp (d:=(.val (.int .i64 (0)))) rfl .nil),?_⟩
   rw[cmpI_eq h1 h2];rfl
theorem t_isnan_uint32(a:Nat):jU Tryz.prog 125 [(.val (.int .u32 (((a:Nat):Int))))] (.val (.bool (false))):=by
 refine vD Tryz.func125 ?_
 refine jA<|kx [] [] (zM<|zZ) ?_
 refine jA<|kx [(2,(vb (((a:Nat):Int) != ((a:Nat):Int))))] [] (zM<|zM<|zE xX<|zM<|zZ) ?_
 refine jG ⟨_,(.tmp (d:=(.val (.bool ((((a:Nat):Int) != ((a:Nat):Int)))))) rfl .nil),?_⟩
 simp [retD]
theorem t_cmp_uint32(a b:Nat):jU Tryz.prog 118 [(.val (.int .u32 (((a:Nat):Int)))),(.val (.int .u32 (((b:Nat):Int))))] (.val (.int .i64 ((uM ((a:Nat):Int) ((b:Nat):Int))))):=by
 refine vD Tryz.func118 ?_
 refine jA<|kx [] [] (zM<|zZ) ?_
 refine jA<|kx [(5,(vb false))] [] (zM<|zE (kD (t_isnan_uint32 a))<|zM<|zZ) ?_
 refine jA<|kx [(6,(vb false))] [] (zM<|zE (kD (t_isnan_uint32 b))<|zM<|zZ) ?_
 refine jA<|jA<|kx [(11,(vb false))] [] (zM<|zZ) ?_
 refine uU ?_
 refine jD<|jA<|jA<|kx [(13,(vb false))] [] (zM<|zZ) ?_
 refine uU ?_
 refine jD<|jA<|jA<|kx [(16,(vb (decide (((a:Nat):Int)<((b:Nat):Int)))))] [] (zM<|zM<|zE uT<|zZ) ?_
 refine jF rfl (fun h1=>?_) (fun h1=>?_)
 ·replace h1:=uY h1
  refine jA<|kx [(4,(vi (-1)))] [] (zM<|zZ) ?_
  refine jG ⟨_,(.tmp (d:=(.val (.int .i64 (-1)))) rfl .nil),?_⟩
  rw[show uM ((a:Nat):Int) ((b:Nat):Int)=-1 from if_pos h1];rfl
 ·replace h1:=uZ h1
  refine jD<|jA<|jA<|kx [(19,(vb (decide (((b:Nat):Int)<((a:Nat):Int)))))] [] (zM<|zM<|zE cC<|zZ) ?_
  refine jF rfl (fun h2=>?_) (fun h2=>?_)
  ·replace h2:=uY h2
   refine jA<|kx [(4,(jN 1))] [] (zM<|zZ) ?_
   refine jG ⟨_,(.tmp (d:=(.val (.int .i64 (1)))) rfl .nil),?_⟩
   rw[eS h2];rfl
  ·replace h2:=uZ h2
   refine jD<|jA<|kx [(4,(jN 0))] [] (zM<|zZ) ?_
   refine jG ⟨_,(.tmp (d:=(.val (.int .i64 (0)))) rfl .nil),?_⟩
   rw[cmpI_eq h1 h2];rfl
theorem mT(neg:Bool)(l:List Nat)(hd:Dig l)(hb:l.length<=17592186044416):jU Tryz.prog 66 [(.val (.bool (neg))),(.sl 135 1 (List.map jC l))] (jL (xV neg (val l))):=by
 refine vD Tryz.func66 ?_
 refine jA<|kx [(4,(.ref 0 0))] [(0,some (bx (jL (kR.mk false []))))] (zN (vL 0 vY vZ)<|zZ) ?_
 refine jA<|kx [(1,(vl 135 1 jC (ofNat (val l))))] [] (zM<|zE (kD (t_trim l (by assumption) (by omega)))<|zM<|zZ) ?_
 refine jA<|jA<|kx [(9,(vb ((((ofNat (val l)).length:Nat):Int) == 0)))] [] (zM<|zE (vV kE (L:=(ofNat (val l))))<|zE zW<|zZ) ?_
 refine jF rfl (fun h1=>?_) (fun h1=>?_)
 ·replace h1:=eq_of_beq h1
  refine jA<|kx [] [(0,some (bx (jL (kR.mk false []))))] (zE (oBd pl49 vY vZ)<|zT (qO jP)<|zZ) ?_
  refine jG ⟨_,(qK (cs:=(bx (jL (kR.mk false [])))) (d:=(jL (kR.mk false []))) rfl rfl jP rfl rfl .nil),?_⟩
  rw[mkI_zero h1];rfl
 ·replace h1:=ne_of_beq_false h1
  refine jD<|jA<|kx [] [(0,some (bx (jL (kR.mk neg (ofNat (val l))))))] (zM<|zM<|zE (oBd pl49 vY vZ)<|zT (qO jP)<|zZ) ?_
  refine jG ⟨_,(qK (cs:=(bx (jL (kR.mk neg (ofNat (val l)))))) (d:=(jL (kR.mk neg (ofNat (val l))))) rfl rfl jP rfl rfl .nil),?_⟩
  rw[mkI_pos h1];rfl
theorem t_word(l:List Nat)(hd:Dig l):jU Tryz.prog 101 [(.sl 135 1 (List.map jC l))] (.tup [(.val (.int .u64 ((((xE l):Nat):Int)))),(.val (.bool ((nD l))))]):=by
 refine vD Tryz.func101 ?_
 refine jA<|kx [(2,(yH 0)),(3,(vb false))] [] (zM<|zM<|zZ) ?_
 refine jA<|jA<|kx [(9,(vb (decide (2<((l.length:Nat):Int)))))] [] (zM<|zE (vV kE)<|zE cC<|zZ) ?_
 refine jF (b:=decide (2<((l.length:Nat):Int))) rfl (fun h1=>?_) (fun h1=>?_)
 ·replace h1:=uY h1
  refine jA<|kx [(2,(yH 0)),(3,(vb false))] [] (zM<|zM<|zZ) ?_
  refine jG ⟨_,(.tmp (d:=(.val (.int .u64 (0)))) rfl (.tmp (d:=(.val (.bool (false)))) rfl .nil)),?_⟩
  rw[show xE l=0 from if_neg (by omega),show nD l=false from decide_eq_false (by omega)];rfl
 ·replace h1:=uZ h1
  have h2:l.length<=2:=by omega
  refine jD<|jA<|kx [(4,(.ref 0 0))] [(0,some (bx (.val (.int .u64 (0)))))] (zN (vL 0 ze122 zo122)<|zT (qO eE)<|zZ) ?_
  refine jA<|pwp_backL backs cb84 rfl 5 jC l 0 (fun n=>⟨[(2,(yH 0)),(3,(vb false)),(4,(.ref 0 0))],[(0,some (bx (.val (.int .u64 (((n:Nat):Int))))))]⟩) (fun (j:Nat) n=>n=val (l.drop (l.length-j))) 0 rfl rfl rfl rfl rfl rfl rfl rfl rfl rfl rfl rfl (fun _=>rfl) (fun _=>rfl) wk (by simp [val]) (by omega) ?_ ?_
  ·rintro rl j n hj hn
   have hw:=word_bound hd hj h2
   rw[<- hn] at hw
   have hg:=hd.getD (l.length-1-j)
   refine kx [(6,(fU (l.getD (l.length-1-j) 0)))] [] (zM<|zZ) ?_
   refine jH<|kx [] [(0,some (bx (.val (.int .u64 (((((n*1000000000)+(l.getD (l.length-1-j) 0)):Nat):Int))))))] (zR (jZ eE)<|zE (oMl (n*1000000000))<|zM<|zE (nR xW xM (l.getD (l.length-1-j) 0))<|zE (uL ((n*1000000000)+(l.getD (l.length-1-j) 0)))<|zT (qO eE)<|zZ) ?_
   exact ⟨n*1000000000+l.getD (l.length-1-j) 0,wk,(by dsimp only;rw[dQ l j hj,<- hn];omega)⟩
  ·rintro n hn
   refine jA<|kx [(2,(yH n)),(3,(vb true))] [] (zR (jZ eE)<|zM<|zM<|zZ) ?_
   refine jG ⟨_,(.tmp (d:=(.val (.int .u64 (((n:Nat):Int))))) rfl (.tmp (d:=(.val (.bool (true)))) rfl .nil)),?_⟩
   rw[show xE l=n by rw[hn,Nat.sub_self,List.drop_zero];exact if_pos h2,show nD l=true from decide_eq_true h2];rfl
theorem t_compare(a b:List Nat)(ha:yA a)(hb:yA b)(hla:a.length<=17592186044416):jU Tryz.prog 98 [(.sl 135 1 (List.map jC a)),(.sl 135 1 (List.map jC b))] (.val (.int .i64 ((uM ((val a:Nat):Int) ((val b:Nat):Int))))):=by
 refine vD Tryz.func98 ?_
 refine jA<|kx [(3,(.ref 0 0)),(4,(.ref 1 0))] [(0,some (bx (.sl 135 1 (List.map jC b)))),(1,some (bx (.val (.int .i64 (0)))))] (zN (yB 0)<|zN (vL 1 ze3 zo3)<|zZ) ?_
 refine jA<|jA<|kx [(11,(vb (((a.length:Nat):Int) != ((b.length:Nat):Int))))] [] (zM<|zE (vV kE)<|zR (jZ gM)<|zE (vV kE)<|zE xX<|zZ) ?_
 refine jF rfl (fun h1=>?_) (fun h1=>?_)
 ·replace h1:=bne_iff_ne.1 h1
  refine jA<|kx [] [(1,some (bx (.val (.int .i64 ((uM ((a.length:Nat):Int) ((b.length:Nat):Int)))))))] (zM<|zE (vV kE)<|zR (jZ gM)<|zE (vV kE)<|zE (kD (t_cmp_int ((a.length:Nat):Int) ((b.length:Nat):Int)))<|zT (qO kK)<|zZ) ?_
  refine jG ⟨_,(fC (cs:=(bx (.val (.int .i64 ((uM ((a.length:Nat):Int) ((b.length:Nat):Int))))))) (d:=(.val (.int .i64 ((uM ((a.length:Nat):Int) ((b.length:Nat):Int)))))) rfl rfl kK rfl rfl .nil),?_⟩
  rw[<- cmpI_len ha hb h1];rfl
 ·replace h1:=bne_eq_false_iff_eq.1 h1
  have hl:a.length=b.length:=by omega
  refine jD<|jA<|pwp_backL backs cb84 rfl 5 jC a 0 (fun _=>⟨[(3,(.ref 0 0)),(4,(.ref 1 0))],[(0,some (bx (.sl 135 1 (List.map jC b)))),(1,some (bx (.val (.int .i64 (0)))))]⟩) (fun (j:Nat) _=>val (a.drop (a.length-j))=val (b.drop (a.length-j))) () rfl rfl rfl rfl rfl rfl rfl rfl rfl rfl rfl rfl (fun _=>rfl) (fun _=>rfl) wk (by rw[Nat.sub_zero,List.drop_length,hl,List.drop_length]) (by omega) ?_ ?_
  ·rintro rl j ⟨⟩ hj he
   refine jA<|kx [(5,(jN (a.length-1-j)))] [] (zM<|zZ) ?_
   refine kx [(6,(fU (a.getD (a.length-1-j) 0)))] [] (zM<|zZ) ?_
   refine jH<|jA<|kx [(26,(vb ((((a.getD (a.length-1-j) 0):Nat):Int) != (((b.getD (a.length-1-j) 0):Nat):Int))))] [] (zM<|zR (jZ gM)<|zM<|zE (nA kE (a.length-1-j) (0:Nat))<|zE (mV qM)<|zE xX<|zZ) ?_
   refine jF rfl (fun h2=>?_) (fun h2=>?_)
   ·replace h2:=bne_iff_ne.1 h2
    refine jA<|kx [] [(1,some (bx (.val (.int .i64 ((uM (((a.getD (a.length-1-j) 0):Nat):Int) (((b.getD (a.length-1-j) 0):Nat):Int)))))))] (zM<|zR (jZ gM)<|zM<|zE (nA kE (a.length-1-j) (0:Nat))<|zE (mV qM)<|zE (kD (t_cmp_uint32 (a.getD (a.length-1-j) 0) (b.getD (a.length-1-j) 0)))<|zT (qO kK)<|zZ) ?_
    refine jG ⟨⟨[(4,(.ref 1 0))],[(1,some (bx (.val (.int .i64 ((uM (((a.getD (a.length-1-j) 0):Nat):Int) (((b.getD (a.length-1-j) 0):Nat):Int)))))))]⟩,wk,keys_of rfl,⟨_,(fC (cs:=(bx (.val (.int .i64 ((uM (((a.getD (a.length-1-j) 0):Nat):Int) (((b.getD (a.length-1-j) 0):Nat):Int))))))) (d:=(.val (.int .i64 ((uM (((a.getD (a.length-1-j) 0):Nat):Int) (((b.getD (a.length-1-j) 0):Nat):Int)))))) rfl rfl kK rfl rfl .nil),?_⟩⟩
    rw[<- cmpI_top ha.1 hb.1 hl hj he h2];rfl
   ·replace h2:=bne_eq_false_iff_eq.1 h2
    refine jD ?_
    exact ⟨(),wk,(by dsimp only;have e1:=dQ a j hj;have e2:=dQ b j (by omega);rw[<- hl] at e2;rw[e1,e2,he];omega)⟩
  ·rintro ⟨⟩ he
   refine jA<|kx [] [(1,some (bx (.val (.int .i64 (0)))))] (zT (qO kK)<|zZ) ?_
   refine jG ⟨_,(fC (cs:=(bx (.val (.int .i64 (0))))) (d:=(.val (.int .i64 (0)))) rfl rfl kK rfl rfl .nil),?_⟩
   rw[cmpI_same (by rw[Nat.sub_self,List.drop_zero,List.drop_zero] at he;exact he)];rfl
theorem t_split(n:Nat)(hn:n<18446744073709551616):jU Tryz.prog 67 [(.val (.int .u64 (((n:Nat):Int))))] (.sl 135 1 (List.map jC (ofNat n))):=by
 refine vD Tryz.func67 ?_
 refine jA<|kx [] [] (zE (fH 135 1)<|zZ) ?_
 refine jA<|kx [(3,(.own 0 135 1 0))] [(0,some (bm jC []))] (zO 0 135 1<|zZ) ?_
 refine jA<|jH<|kF (α:=Nat × List Nat) (fun (m,g)=>⟨[(0,(yH m)),(3,(.own 0 135 1 g.length))],[(0,some (bm jC g))]⟩) (fun (m,g)=>m<=n/\g++ofNat m=ofNat n) (fun (m,g)=>m) (n,[]) wk ⟨Nat.le_refl _,by rw[List.nil_append]⟩ ?_
 rintro ⟨m,g⟩ ⟨hm,hg⟩
 have hl:=split_len hg hn
 refine jA<|jA<|kx [(5,(vb (decide (0<((m:Nat):Int)))))] [] (zM<|zE cC<|zZ) ?_
 refine jF (b:=decide (0<((m:Nat):Int))) rfl (fun h1=>?_) (fun h1=>?_)
 ·replace h1:=uY h1
  refine jD<|jA<|jH<|kf [(3,(.own 0 135 1 ((g++[(m % 1000000000)]).length)))] [(0,some (bm jC (g++[(m % 1000000000)])))] (zM<|zM<|zE (oRe (m % 1000000000))<|zE (nR yS yT (m % 1000000000))<|zE (eG kE uW xY)<|zA jC g [(m % 1000000000)] rfl kE uW nC<|zM<|zF) ?_
  refine kx [(0,(yH (m / 1000000000)))] [] (zM<|zE (oQu (m / 1000000000))<|zM<|zZ) ?_
  exact ⟨(m / 1000000000,g++[m % 1000000000]),wk,⟨by omega,split_step hg h1⟩,(by first|omega|(dsimp only;omega))⟩
 ·replace h1:=uZ h1
  refine jS<|jA<|kU (xR (t:=3) (k:=0) (es:=List.map jC g) rfl rfl (vP _ _ (fun _=>rfl)) (vN _ _ rfl) (xO _ _ (fun _=>rfl) rfl)) ?_
  refine kx [(2,(vl 135 1 jC g))] [] (zM<|zM<|zZ) ?_
  refine jG ⟨_,(.tmp (d:=(.sl 135 1 (List.map jC g))) rfl .nil),?_⟩
  rw[split_end hg h1];rfl
theorem vT:uF Tryz.prog 49 0=some 0:=by kernel_rfl
theorem gN:uF Tryz.prog 49 1=some 1:=by kernel_rfl
theorem aH:kQ Tryz.prog 4=some (false,1):=by kernel_rfl
theorem t_big(a:Nat):jU Tryz.prog 105 [(.val (.int .u32 (((a:Nat):Int))))] (.val (.bool ((decide (1000000000<=((a:Nat):Int)))))):=by
 refine vD Tryz.func105 ?_
 refine jA<|kx [] [] (zM<|zZ) ?_
 refine jA<|kx [(2,(vb (decide (1000000000<=((a:Nat):Int)))))] [] (zM<|zE oGe<|zM<|zZ) ?_
 refine jG ⟨_,(.tmp (d:=(.val (.bool (decide (1000000000<=((a:Nat):Int)))))) rfl .nil),?_⟩
 rfl
theorem t_index(l:List Nat)(hb:l.length<=17592186044416):jU Tryz.prog 121 [(.sl 135 1 (List.map jC l)),(.val (.func (.func 105) #[] #[]))] (.val (.int .i64 ((vH l)))):=by
 refine vD Tryz.func121 ?_
 refine jA<|kx [] [] (zM<|zZ) ?_
 refine jA<|jA<|kx [(7,(jN l.length)),(8,(jN 0))] [] (zM<|zE (vV kE)<|zM<|zZ) ?_
 refine jH<|kF (α:=Nat) (fun i=>⟨[(0,(vl 135 1 jC l)),(1,(.d (.val (.func (.func 105) #[] #[])))),(7,(jN l.length)),(8,(jN i))],[]⟩) (fun i=>i<=l.length/\Dig (l.take i)) (fun i=>l.length-i) 0 wk ⟨Nat.zero_le _,yF⟩ ?_
 rintro i ⟨hi,hd⟩
 refine jA<|kx [(9,(vb (decide (((i:Nat):Int)<((l.length:Nat):Int)))))] [] (zE uT<|zZ) ?_
 refine jA<|jF rfl (fun h1=>?_) (fun h1=>?_)
 ·replace h1:=uY h1
  refine jD<|jA<|jH<|jA<|kx [(5,(jN i))] [] (zM<|zM<|zZ) ?_
  refine jA<|kx [(16,(vb (decide (1000000000<=(((l.getD i 0):Nat):Int)))))] [] (zM<|zM<|zM<|zE (nA kE i (0:Nat))<|zE (mV qM)<|zE (kD (t_big (l.getD i 0)))<|zZ) ?_
  refine jF rfl (fun h2=>?_) (fun h2=>?_)
  ·replace h2:=uY h2
   refine jA<|kx [(4,(jN i))] [] (zM<|zM<|zZ) ?_
   refine jG ⟨_,(.tmp (d:=(.val (.int .i64 (((i:Nat):Int))))) rfl .nil),?_⟩
   rw[firstBig_at (by omega) hd (by omega)];rfl
  ·replace h2:=uZ h2
   refine jD<|kx [(8,(jN (i+1)))] [] (zE (uL (i+1))<|zM<|zZ) ?_
   exact ⟨(i+1),wk,⟨by omega,dig_take_succ (by omega) hd (by omega)⟩,(by omega)⟩
 ·replace h1:=uZ h1
  refine jS<|jA<|kx [(4,(vi (-1)))] [] (zM<|zZ) ?_
  refine jG ⟨_,(.tmp (d:=(.val (.int .i64 (-1)))) rfl .nil),?_⟩
  rw[bF (by rw[List.take_of_length_le (by omega)] at hd;exact hd)];rfl
theorem t_contains(l:List Nat)(hb:l.length<=17592186044416):jU Tryz.prog 104 [(.sl 135 1 (List.map jC l)),(.val (.func (.func 105) #[] #[]))] (.val (.bool ((decide (0<=vH l))))):=by
 refine vD Tryz.func104 ?_
 refine jA<|kx [] [] (zM<|zZ) ?_
 refine jA<|kx [(4,(vb (decide (0<=(vH l)))))] [] (zM<|zM<|zE (kD (t_index l (by omega)))<|zE oGe<|zM<|zZ) ?_
 refine jG ⟨_,(.tmp (d:=(.val (.bool (decide (0<=(vH l)))))) rfl .nil),?_⟩
 rfl
theorem t_valid(x:kR)(hb:x.gs.length<=17592186044416):jU Tryz.prog 89 [(jL x)] (.val (.bool ((qS x)))):=by
 refine vD Tryz.func89 ?_
 refine jA<|kx [(1,(.ref 0 0))] [(0,some (bx (jL x)))] (zN (yB 0)<|zM<|zZ) ?_
 refine jA<|kx [(3,(jN x.gs.length))] [] (zE (jY gN)<|zR (jZ gM)<|zE (vV kE)<|zM<|zZ) ?_
 refine jA<|jA<|kx [(8,(vb (((x.gs.length:Nat):Int) == 0)))] [] (zM<|zE zW<|zZ) ?_
 refine jF (b:=(((x.gs.length:Nat):Int) == 0)) rfl (fun h1=>?_) (fun h1=>?_)
 ·replace h1:=eq_of_beq h1
  refine jA<|kx [(2,(vb (!x.neg)))] [] (zE (jY vT)<|zR (jZ aH)<|zE eU<|zM<|zZ) ?_
  refine jG ⟨_,(.tmp (d:=(.val (.bool (!x.neg)))) rfl .nil),?_⟩
  rw[show qS x=!x.neg from if_pos h1];rfl
 ·replace h1:=ne_of_beq_false h1
  refine jD<|jA<|kx [(2,(vb (((((x.gs.getD (x.gs.length-1) 0):Nat):Int) != 0)&&!(decide (0<=vH x.gs)))))] [] ?_ ?_
  ·refine zE (jY gN)<|zR (jZ gM)<|zM<|zE (oSb (x.gs.length-1))<|zE (nA kE (x.gs.length-1) (0:Nat))<|zE (mV qM)<|zE xX<|zE (oV (vb ((((x.gs.getD (x.gs.length-1) 0):Nat):Int) != 0)) (kA (by kernel_rfl)))<|?_
   rcases hb2:((((x.gs.getD (x.gs.length-1) 0):Nat):Int) != 0) with _ | _
   ·replace hb2:=bne_eq_false_iff_eq.1 hb2
    exact zK<|zK<|zK<|zK<|zE mJ<|zM<|zZ
   ·replace hb2:=bne_iff_ne.1 hb2
    exact zE (jY gN)<|zR (jZ gM)<|zE (kD (t_contains x.gs (by omega)))<|zE eU<|zE aC<|zM<|zZ
  refine jG ⟨_,(.tmp (d:=(.val (.bool ((((((x.gs.getD (x.gs.length-1) 0):Nat):Int) != 0)&&!(decide (0<=vH x.gs))))))) rfl .nil),?_⟩
  rw[show qS x=_ from if_neg h1];rfl
theorem yJ(x:kR)(hb:x.gs.length<=17592186044416):jU Tryz.prog 72 [(jL x)] (.sl 135 1 (List.map jC (jQ x))):=by
 refine vD Tryz.func72 ?_
 refine jA<|kx [(1,(.ref 0 0))] [(0,some (bx (jL x)))] (zN (yB 0)<|zE (fH 135 1)<|zZ) ?_
 refine jA<|jA<|kx [(5,(vb (!(qS x))))] [] (zR (qE jP)<|zE (kD (t_valid x (by omega)))<|zE eU<|zZ) ?_
 refine jF (b:=!(qS x)) rfl (fun h1=>?_) (fun h1=>?_)
 ·refine jA<|kx [(2,(vl 135 1 jC []))] [] (zE (fH 135 1)<|zZ) ?_
  refine jG ⟨_,(.tmp (d:=(.sl 135 1 (List.map jC []))) rfl .nil),?_⟩
  rw[show jQ x=[] from if_neg (by simpa using h1)];rfl
 ·refine jD<|jA<|kx [(2,(vl 135 1 jC x.gs))] [] (zE (jY gN)<|zR (jZ gM)<|zM<|zZ) ?_
  refine jG ⟨_,(.tmp (d:=(.sl 135 1 (List.map jC x.gs))) rfl .nil),?_⟩
  rw[show jQ x=x.gs from if_pos (by simpa using h1)];rfl
theorem t_clone(l:List Nat)(hb:l.length<=17592186044416):jU Tryz.prog 103 [(.sl 135 1 (List.map jC l))] (.sl 135 1 (List.map jC l)):=by
 refine vD Tryz.func103 ?_
 refine jA<|kx [] [] (zE (fH 135 1)<|zZ) ?_
 refine jA<|jA<|pwp_nilq rfl rfl rfl rfl rfl rfl kE rfl rfl rfl (fun nb hnb=>?_)
 refine jF (b:=nb) rfl (fun h1=>?_) (fun h1=>?_)
 ·refine jA<|kx [(2,(vl 135 1 jC []))] [] (zE (fH 135 1)<|zZ) ?_
  refine jG ⟨_,(.tmp (d:=(.sl 135 1 (List.map jC []))) rfl .nil),?_⟩
  rw[List.map_eq_nil_iff.1 (hnb h1)];rfl
 ·refine jD<|jA<|kf [(2,(.own 0 135 1 (([]++l).length)))] [(0,some (bm jC ([]++l)))] (zN (oBo 0 kE uW xY)<|zM<|zA jC [] l rfl kE uW nC<|zM<|zF) ?_
  refine kU (xR (t:=2) (k:=0) (es:=List.map jC ([]++l)) rfl rfl (vP _ _ (fun _=>rfl)) (vN _ _ rfl) (xO _ _ (fun _=>rfl) rfl)) ?_
  refine jG ⟨_,(.tmp (d:=(.sl 135 1 (List.map jC ([]++l)))) rfl .nil),?_⟩
  rfl
end Go.Proofs.YtciingpdmjepgaaGreat
