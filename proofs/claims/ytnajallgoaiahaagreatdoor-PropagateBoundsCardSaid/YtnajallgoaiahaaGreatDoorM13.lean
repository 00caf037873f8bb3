/- Part 13 of a proof: rules, plain facts, and functions walked. -/
import Derived.Test.YtnajallgoaiahaaGreatDoorM11
import Derived.Test.YtnajallgoaiahaaGreatDoorM7
import Derived.Test.YtnajallgoaiahaaGreatDoorM12
import Derived.Test.YtnajallgoaiahaaGreatDoorChecked
import Derived.RangeFuncBox
import Derived.Shelf.Abstract
import Derived.OwnWalkIn
import Derived.TacticsInMore
import Derived.LoopNIn
import Derived.LoopIn
import Derived.Test.YtnajallgoaiahaaGreatDoorM9
set_option linter.all false
set_option maxRecDepth 4000
namespace Go.Proofs.YtnajallgoaiahaaGreatDoor
open Go.Fid
theorem mI:yQ Tryz.prog 140=some 4:=by kernel_rfl
theorem cb226:callB Tryz.prog 226=true:=by kernel_rfl
theorem kO:vN Tryz.prog 41=some (140,1):=by kernel_rfl
theorem nO:intB Tryz.prog 140=some .u32:=by kernel_rfl
theorem gL:intB Tryz.prog 170=some .u64:=by kernel_rfl
theorem uB:qX Tryz.prog 140=some (false,1):=by kernel_rfl
theorem gN:(Tryz.prog.underlying 140).isSome=true:=by kernel_rfl
theorem mB:(Tryz.prog.underlying 170).isSome=true:=by kernel_rfl
theorem xB:yI Tryz.prog 140=some [.int .u32 0]:=by kernel_rfl
theorem yZ:iB [.int .u32 0] [.val (.int .u32 0)]:=by simp [iB,Value.oneCell']
theorem t_at(l:List Nat)(i:Nat):jO Tryz.prog 264 [(.sl 140 1 (List.map jD l)),(.val (.int .i64 (((i:Nat):Int))))] (.val (.int .u32 ((((l.getD i 0):Nat):Int)))):=by
 refine qY Tryz.func264 ?_
 refine jB<|kx [] [] (zM<|zZ) ?_
 refine jB<|jB<|kx [(8,(vb (decide (((i:Nat):Int)<((l.length:Nat):Int)))))] [] (zM<|zM<|zE (vP kO)<|zE xK<|zZ) ?_
 refine jG rfl (fun h1=>?_) (fun h1=>?_)
 ·replace h1:=uV h1
  refine jB<|kx [(4,(lF (l.getD i 0)))] [] (zM<|zM<|zE (yE kO i (0:Nat))<|zE (yV uB)<|zM<|zZ) ?_
  refine jE ⟨_,(.tmp (d:=(.val (.int .u32 ((((l.getD i 0):Nat):Int))))) rfl .nil),?_⟩
  rfl
 ·replace h1:=vB h1
  refine jC<|jB<|kx [(4,(lF 0))] [] (zM<|zZ) ?_
  refine jE ⟨_,(.tmp (d:=(.val (.int .u32 (0)))) rfl .nil),?_⟩
  rw[show l.getD i 0=0 from getD_out (by omega)];rfl
theorem t_trim(l0:List Nat)(hd:Dig l0)(hb:l0.length<=17592186044416):jO Tryz.prog 251 [(.sl 140 1 (List.map jD l0))] (.sl 140 1 (List.map jD (ofNat (val l0)))):=by
 refine qY Tryz.func251 ?_
 refine jB<|kx [] [] (zE (aZ 140 1)<|zZ) ?_
 refine jB<|jH<|kF (α:=List Nat) (fun l=>⟨[(0,(vl 140 1 jD l))],[]⟩) (fun l=>Dig l/\val l=val l0/\l.length<=l0.length) (fun l=>l.length) l0 wk ⟨hd,rfl,Nat.le_refl _⟩ ?_
 rintro l ⟨hl,hv,hle⟩
 refine jB<|jB<|kx [(14,(vb (decide (0<((l.length:Nat):Int))&&((((l.getD (l.length-1) 0):Nat):Int) == 0))))] [] ?_ ?_
 ·refine zM<|zE (vP kO)<|zE hH<|zE (oV (vb (decide (0<((l.length:Nat):Int)))) (qC (by kernel_rfl)))<|?_
  rcases hb1:(decide (0<((l.length:Nat):Int))) with _ | _
  ·replace hb1:=vB hb1
   exact zK<|zK<|zK<|zK<|zK<|zK<|zK<|zE xQ<|zZ
  ·replace hb1:=uV hb1
   exact zM<|zM<|zE (vP kO)<|zE (oSb (l.length-1))<|zE (yE kO (l.length-1) (0:Nat))<|zE (yV uB)<|zE xR<|zE fR<|zZ
 refine jG rfl (fun h2=>?_) (fun h2=>?_)
 ·obtain ⟨hp,_⟩:=trim_cond h2
  refine jC<|jH<|kx [(0,(vl 140 1 jD (List.take (l.length-1) l)))] [] (zM<|zM<|zE (vP kO)<|zE (oSb (l.length-1))<|zE (e_slc (l:=0) (h:=(l.length-1)) (kl:=.i64) (kh:=.i64) (es':=List.map jD (List.take (l.length-1) l)) (by exact rfl) kO (by exact rfl) (by exact rfl) (by exact rfl) (Nat.zero_le _) (by simp only[List.length_map];omega) (by rw[List.drop_zero,List.map_take]))<|zM<|zZ) ?_
  exact ⟨(l.take (l.length-1)),wk,(trim_step hl hv hle h2),(trim_less h2)⟩
 ·refine kD<|jB<|kx [(2,(vl 140 1 jD l))] [] (zM<|zM<|zZ) ?_
  refine jE ⟨_,(.tmp (d:=(.sl 140 1 (List.map jD l))) rfl .nil),?_⟩
  rw[trim_end hl hv h2];rfl
theorem t_plus(a b:List Nat)(hda:Dig a)(hdb:Dig b)(hla:a.length<=8796093022208)(hlb:b.length<=8796093022208):jO Tryz.prog 254 [(.sl 140 1 (List.map jD a)),(.sl 140 1 (List.map jD b))] (.sl 140 1 (List.map jD (ofNat (val a+val b)))):=by
 refine qY Tryz.func254 ?_
 refine jB<|kx [] [] (zE (aZ 140 1)<|zZ) ?_
 refine jB<|kx [(5,(.own 0 140 1 ((max a.length b.length)+1)))] [(0,some (bm jD (List.replicate ((max a.length b.length)+1) 0)))] (zM<|zE (vP kO)<|zM<|zE (vP kO)<|zE (oMx (max a.length b.length))<|zE (vO ((max a.length b.length)+1))<|zN (oMk 0 jD (0:Nat) ((max a.length b.length)+1) ((max a.length b.length)+1) kO xB yZ mI)<|zM<|zZ) ?_
 refine jB<|kx [(6,(lF 0))] [] (zM<|zZ) ?_
 refine jB<|jB<|kx [(17,(jS ((max a.length b.length)+1))),(18,(jS 0))] [] (zM<|zE (oLo kO)<|zM<|zZ) ?_
 refine jH<|kF (α:=Nat × List Nat × Nat) (fun (i,out,c)=>⟨[(0,(vl 140 1 jD a)),(1,(vl 140 1 jD b)),(5,(.own 0 140 1 ((max a.length b.length)+1))),(6,(lF c)),(17,(jS ((max a.length b.length)+1))),(18,(jS i))],[(0,some (bm jD out))]⟩) (fun (i,out,c)=>out.length=max a.length b.length+1/\Dig out/\i<=max a.length b.length+1/\c<=1/\val (out.take i)+pw i*c=val (a.take i)+val (b.take i)) (fun (i,out,c)=>max a.length b.length+1-i) (0,List.replicate (max a.length b.length+1) 0,0) wk ⟨by simp,yM _,Nat.zero_le _,Nat.zero_le _,by simp [val]⟩ ?_
 rintro ⟨i,out,c⟩ ⟨uF,hdo,hi,hc,hv⟩
 have hai:=hda.getD i
 have hbi:=hdb.getD i
 refine jB<|kx [(19,(vb (decide (((i:Nat):Int)<((((max a.length b.length)+1):Nat):Int)))))] [] (zE xK<|zZ) ?_
 refine jB<|jG rfl (fun h1=>?_) (fun h1=>?_)
 ·replace h1:=uV h1
  refine jC<|jB<|jH<|jB<|kx [(7,(jS i))] [] (zM<|zM<|zZ) ?_
  refine jB<|kx [(8,(lF (((a.getD i 0)+(b.getD i 0))+c)))] [] (zM<|zM<|zE (jV (t_at a i))<|zM<|zM<|zE (jV (t_at b i))<|zE (vO ((a.getD i 0)+(b.getD i 0)))<|zM<|zE (vO (((a.getD i 0)+(b.getD i 0))+c))<|zM<|zZ) ?_
  refine jB<|kx [(6,(lF 0))] [] (zM<|zZ) ?_
  refine jB<|jB<|kx [(31,(vb (decide (1000000000<=(((((a.getD i 0)+(b.getD i 0))+c):Nat):Int)))))] [] (zM<|zE oGe<|zZ) ?_
  refine jG rfl (fun h2=>?_) (fun h2=>?_)
  ·replace h2:=uV h2
   refine kx [(6,(lF 1)),(8,(lF ((((a.getD i 0)+(b.getD i 0))+c)-1000000000)))] [] (zM<|zE (oSb ((((a.getD i 0)+(b.getD i 0))+c)-1000000000))<|zM<|zM<|zZ) ?_
   refine kx [] [(0,some (bm jD (out.set i ((((a.getD i 0)+(b.getD i 0))+c)-1000000000))))] (zM<|zM<|zM<|zE (iE kO i)<|zT (oSp uB i ((((a.getD i 0)+(b.getD i 0))+c)-1000000000))<|zZ) ?_
   refine kx [(18,(jS (i+1)))] [] (zE (vO (i+1))<|zM<|zZ) ?_
   exact ⟨(i+1,out.set i (a.getD i 0+b.getD i 0+c-1000000000),1),wk,(by obtain ⟨q1,q2,q3⟩:=plus_step (s:=a.getD i 0+b.getD i 0+c-1000000000) (c':=1) uF hdo (by omega) hv (by omega) (by omega);exact ⟨q1,q2,by omega,by omega,q3⟩),(by first|omega|(dsimp only;omega))⟩
  ·replace h2:=vB h2
   refine jC<|kx [] [(0,some (bm jD (out.set i (((a.getD i 0)+(b.getD i 0))+c))))] (zM<|zM<|zM<|zE (iE kO i)<|zT (oSp uB i (((a.getD i 0)+(b.getD i 0))+c))<|zZ) ?_
   refine kx [(18,(jS (i+1)))] [] (zE (vO (i+1))<|zM<|zZ) ?_
   exact ⟨(i+1,out.set i (a.getD i 0+b.getD i 0+c),0),wk,(by obtain ⟨q1,q2,q3⟩:=plus_step (s:=a.getD i 0+b.getD i 0+c) (c':=0) uF hdo (by omega) hv (by omega) (by omega);exact ⟨q1,q2,by omega,by omega,q3⟩),(by first|omega|(dsimp only;omega))⟩
 ·replace h1:=vB h1
  have hie:i=max a.length b.length+1:=by omega
  rw[hie] at hv
  refine kD<|jB<|kU (xC (t:=5) (k:=0) (es:=List.map jD out) rfl rfl (vD _ _ (fun _=>rfl)) (uW _ _ uF) (xE _ _ (fun _=>rfl) uF)) ?_
  refine kx [(4,(vl 140 1 jD (ofNat (val out))))] [] (zM<|zE (jV (t_trim out (by assumption) (by omega)))<|zM<|zZ) ?_
  refine jE ⟨_,(.tmp (d:=(.sl 140 1 (List.map jD (ofNat (val out))))) rfl .nil),?_⟩
  rw[plus_end hda hdb uF hv];rfl
theorem t_minus(a b:List Nat)(hda:Dig a)(hdb:Dig b)(hba:val b<=val a)(hla:a.length<=8796093022208):jO Tryz.prog 255 [(.sl 140 1 (List.map jD a)),(.sl 140 1 (List.map jD b))] (.sl 140 1 (List.map jD (ofNat (val a-val b)))):=by
 refine qY Tryz.func255 ?_
 refine jB<|kx [] [] (zE (aZ 140 1)<|zZ) ?_
 refine jB<|kx [(5,(.own 0 140 1 a.length))] [(0,some (bm jD (List.replicate a.length 0)))] (zM<|zE (vP kO)<|zN (oMk 0 jD (0:Nat) a.length a.length kO xB yZ mI)<|zM<|zZ) ?_
 refine jB<|kx [(6,(lF 0))] [] (zM<|zZ) ?_
 refine jB<|jB<|kx [(13,(jS a.length)),(14,(jS 0))] [] (zM<|zE (oLo kO)<|zM<|zZ) ?_
 refine jH<|kF (α:=Nat × List Nat × Nat) (fun (i,out,c)=>⟨[(0,(vl 140 1 jD a)),(1,(vl 140 1 jD b)),(5,(.own 0 140 1 a.length)),(6,(lF c)),(13,(jS a.length)),(14,(jS i))],[(0,some (bm jD out))]⟩) (fun (i,out,c)=>out.length=a.length/\Dig out/\i<=a.length/\c<=1/\val (out.take i)+val (b.take i)=val (a.take i)+pw i*c) (fun (i,out,c)=>a.length-i) (0,List.replicate a.length 0,0) wk ⟨by simp,yM _,Nat.zero_le _,Nat.zero_le _,by simp [val]⟩ ?_
 rintro ⟨i,out,c⟩ ⟨uF,hdo,hi,hc,hv⟩
 have hai:=hda.getD i
 have hbi:=hdb.getD i
 refine jB<|kx [(15,(vb (decide (((i:Nat):Int)<((a.length:Nat):Int)))))] [] (zE xK<|zZ) ?_
 refine jB<|jG rfl (fun h1=>?_) (fun h1=>?_)
 ·replace h1:=uV h1
  refine jC<|jB<|jH<|jB<|kx [(7,(jS i))] [] (zM<|zM<|zZ) ?_
  refine jB<|kx [(8,(lF ((b.getD i 0)+c)))] [] (zM<|zM<|zE (jV (t_at b i))<|zM<|zE (vO ((b.getD i 0)+c))<|zM<|zZ) ?_
  refine jB<|kx [(6,(lF 0))] [] (zM<|zZ) ?_
  refine jB<|kx [(27,(vb (decide ((((a.getD i 0):Nat):Int)<((((b.getD i 0)+c):Nat):Int)))))] [] (zM<|zM<|zE (yE kO i (0:Nat))<|zE (yV uB)<|zM<|zE xK<|zZ) ?_
  refine jG rfl (fun h2=>?_) (fun h2=>?_)
  ·replace h2:=uV h2
   refine kx [(6,(lF 1))] [(0,some (bm jD (out.set i (((a.getD i 0)+1000000000)-((b.getD i 0)+c)))))] (zM<|zM<|zM<|zM<|zE (yE kO i (0:Nat))<|zE (yV uB)<|zE (vO ((a.getD i 0)+1000000000))<|zM<|zE (oSb (((a.getD i 0)+1000000000)-((b.getD i 0)+c)))<|zE (iE kO i)<|zT (oSp uB i (((a.getD i 0)+1000000000)-((b.getD i 0)+c)))<|zM<|zZ) ?_
   refine kx [(14,(jS (i+1)))] [] (zE (vO (i+1))<|zM<|zZ) ?_
   exact ⟨(i+1,out.set i (a.getD i 0+1000000000-(b.getD i 0+c)),1),wk,(by obtain ⟨q1,q2,q3⟩:=minus_step (s:=a.getD i 0+1000000000-(b.getD i 0+c)) (c':=1) uF hdo (by omega) hv (by omega) (by omega);exact ⟨q1,q2,by omega,by omega,q3⟩),(by first|omega|(dsimp only;omega))⟩
  ·replace h2:=vB h2
   refine kx [] [(0,some (bm jD (out.set i ((a.getD i 0)-((b.getD i 0)+c)))))] (zM<|zM<|zM<|zM<|zE (yE kO i (0:Nat))<|zE (yV uB)<|zM<|zE (oSb ((a.getD i 0)-((b.getD i 0)+c)))<|zE (iE kO i)<|zT (oSp uB i ((a.getD i 0)-((b.getD i 0)+c)))<|zZ) ?_
   refine kx [(14,(jS (i+1)))] [] (zE (vO (i+1))<|zM<|zZ) ?_
   exact ⟨(i+1,out.set i (a.getD i 0-(b.getD i 0+c)),0),wk,(by obtain ⟨q1,q2,q3⟩:=minus_step (s:=a.getD i 0-(b.getD i 0+c)) (c':=0) uF hdo (by omega) hv (by omega) (by omega);exact ⟨q1,q2,by omega,by omega,q3⟩),(by first|omega|(dsimp only;omega))⟩
 ·replace h1:=vB h1
  have hie:i=a.length:=by omega
  rw[hie] at hv
  refine kD<|jB<|kU (xC (t:=5) (k:=0) (es:=List.map jD out) rfl rfl (vD _ _ (fun _=>rfl)) (uW _ _ uF) (xE _ _ (fun _=>rfl) uF)) ?_
  refine kx [(4,(vl 140 1 jD (ofNat (val out))))] [] (zM<|zE (jV (t_trim out (by assumption) (by omega)))<|zM<|zZ) ?_
  refine jE ⟨_,(.tmp (d:=(.sl 140 1 (List.map jD (ofNat (val out))))) rfl .nil),?_⟩
  rw[minus_end hda hdb hdo hba uF hv];rfl
theorem t_times(a b:List Nat)(hda:Dig a)(hdb:Dig b)(hla:a.length<=4398046511104)(hlb:b.length<=4398046511104):jO Tryz.prog 226 [(.sl 140 1 (List.map jD a)),(.sl 140 1 (List.map jD b))] (.sl 140 1 (List.map jD (ofNat (val a*val b)))):=by
 refine qY Tryz.func226 ?_
 refine jB<|kx [] [] (zE (aZ 140 1)<|zZ) ?_
 refine jB<|kx [(5,(.own 0 140 1 (a.length+b.length)))] [(0,some (bm jD (List.replicate (a.length+b.length) 0)))] (zM<|zE (vP kO)<|zM<|zE (vP kO)<|zE (vO (a.length+b.length))<|zN (oMk 0 jD (0:Nat) (a.length+b.length) (a.length+b.length) kO xB yZ mI)<|zM<|zZ) ?_
 refine jB<|jB<|kx [(18,(vl 140 1 jD a)),(19,(jS a.length)),(20,(jS 0))] [] (zM<|zE (vP kO)<|zM<|zZ) ?_
 refine jH<|kF (α:=Nat × List Nat) (fun (i,out)=>⟨[(1,(vl 140 1 jD b)),(5,(.own 0 140 1 (a.length+b.length))),(18,(vl 140 1 jD a)),(19,(jS a.length)),(20,(jS i))],[(0,some (bm jD out))]⟩) (fun (i,out)=>out.length=a.length+b.length/\Dig out/\i<=a.length/\(∀ k,i+b.length<=k->out.getD k 0=0)/\val out=val (a.take i)*val b) (fun (i,out)=>a.length-i) (0,List.replicate (a.length+b.length) 0) wk ⟨by simp,yM _,Nat.zero_le _,fun k _=>aU _ k,by simp [val,eX]⟩ ?_
 rintro ⟨i,out⟩ ⟨uF,hdo,hi,hz,hv⟩
 have hai:=hda.getD i
 refine jB<|kx [(21,(vb (decide (((i:Nat):Int)<((a.length:Nat):Int)))))] [] (zE xK<|zZ) ?_
 refine jB<|jG rfl (fun h1=>?_) (fun h1=>?_)
 ·replace h1:=uV h1
  refine jC<|jB<|jH<|jB<|kx [(6,(jS i)),(7,(lF (a.getD i 0)))] [] (zM<|zE (yE kO i (0:Nat))<|zE (yV uB)<|zM<|zM<|zZ) ?_
  refine jB<|kx [(8,(nK 0))] [] (zM<|zZ) ?_
  refine jB<|jB<|kx [(25,(vl 140 1 jD b)),(26,(jS b.length)),(27,(jS 0))] [] (zM<|zE (vP kO)<|zM<|zZ) ?_
  refine jH<|kF (α:=Nat × List Nat × Nat) (fun (j,o2,c)=>⟨[(1,(vl 140 1 jD b)),(5,(.own 0 140 1 (a.length+b.length))),(6,(jS i)),(7,(lF (a.getD i 0))),(8,(nK c)),(18,(vl 140 1 jD a)),(19,(jS a.length)),(20,(jS i)),(25,(vl 140 1 jD b)),(26,(jS b.length)),(27,(jS j))],[(0,some (bm jD o2))]⟩) (fun (j,o2,c)=>o2.length=a.length+b.length/\Dig o2/\j<=b.length/\c<1000000000/\(∀ k,i+b.length<=k->o2.getD k 0=0)/\val o2+pw (i+j)*c=val (a.take i)*val b+pw i*(a.getD i 0*val (b.take j))) (fun (j,o2,c)=>b.length-j) (0,out,0) wk ⟨uF,hdo,Nat.zero_le _,by decide,hz,by simp [val,hv]⟩ ?_
  rintro ⟨j,o2,c⟩ ⟨hlen2,hdo2,hj,hc,hz2,hv2⟩
  have hbj:=hdb.getD j
  have hoj:=hdo2.getD (i+j)
  have hpq:a.getD i 0*b.getD j 0<=999999999*999999999:=Nat.mul_le_mul (by omega) (by omega)
  refine jB<|kx [(28,(vb (decide (((j:Nat):Int)<((b.length:Nat):Int)))))] [] (zE xK<|zZ) ?_
  refine jB<|jG rfl (fun h2=>?_) (fun h2=>?_)
  ·replace h2:=uV h2
   refine jC<|jB<|jH<|jB<|kx [(9,(jS j)),(10,(lF (b.getD j 0)))] [] (zM<|zE (yE kO j (0:Nat))<|zE (yV uB)<|zM<|zM<|zZ) ?_
   refine jB<|kx [(11,(nK (((o2.getD (i+j) 0)+((a.getD i 0)*(b.getD j 0)))+c)))] [] (zM<|zM<|zM<|zE (vO (i+j))<|zE (iE kO (i+j))<|zR (oLp uB (i+j) (0:Nat))<|zE (cM gN gL (o2.getD (i+j) 0))<|zM<|zE (cM gN gL (a.getD i 0))<|zM<|zE (cM gN gL (b.getD j 0))<|zE (oMl ((a.getD i 0)*(b.getD j 0)))<|zE (vO ((o2.getD (i+j) 0)+((a.getD i 0)*(b.getD j 0))))<|zM<|zE (vO (((o2.getD (i+j) 0)+((a.getD i 0)*(b.getD j 0)))+c))<|zM<|zZ) ?_
   refine kx [(8,(nK ((((o2.getD (i+j) 0)+((a.getD i 0)*(b.getD j 0)))+c) / 1000000000)))] [(0,some (bm jD (o2.set (i+j) ((((o2.getD (i+j) 0)+((a.getD i 0)*(b.getD j 0)))+c) % 1000000000))))] (zM<|zM<|zM<|zE (vO (i+j))<|zM<|zE (oRe ((((o2.getD (i+j) 0)+((a.getD i 0)*(b.getD j 0)))+c) % 1000000000))<|zE (cM mB nO ((((o2.getD (i+j) 0)+((a.getD i 0)*(b.getD j 0)))+c) % 1000000000))<|zM<|zE (oQu ((((o2.getD (i+j) 0)+((a.getD i 0)*(b.getD j 0)))+c) / 1000000000))<|zE (iE kO (i+j))<|zT (oSp uB (i+j) ((((o2.getD (i+j) 0)+((a.getD i 0)*(b.getD j 0)))+c) % 1000000000))<|zM<|zZ) ?_
   refine kx [(27,(jS (j+1)))] [] (zE (vO (j+1))<|zM<|zZ) ?_
   exact ⟨(j+1,o2.set (i+j) ((o2.getD (i+j) 0+a.getD i 0*b.getD j 0+c) % 1000000000),(o2.getD (i+j) 0+a.getD i 0*b.getD j 0+c) / 1000000000),wk,(by obtain ⟨q1,q2⟩:=times_step (by omega) hdo2 hv2 rfl (val_take_succ b j);exact ⟨by simpa using hlen2,q1,by omega,by omega,zero_set (by omega) hz2,q2⟩),(by first|omega|(dsimp only;omega))⟩
  ·replace h2:=vB h2
   have hje:j=b.length:=by omega
   rw[hje] at hv2
   refine kD<|kx [] [(0,some (bm jD (o2.set (i+b.length) c)))] (zM<|zM<|zM<|zE (vP kO)<|zE (vO (i+b.length))<|zM<|zE (cM mB nO c)<|zE (iE kO (i+b.length))<|zT (oSp uB (i+b.length) c)<|zZ) ?_
   refine kx [(20,(jS (i+1)))] [] (zE (vO (i+1))<|zM<|zZ) ?_
   exact ⟨(i+1,o2.set (i+b.length) c),wk,(by obtain ⟨q1,q2,q3,q4⟩:=times_row hdo2 (by omega) hlen2 hz2 hc hv2;exact ⟨q1,q2,by omega,q3,q4⟩),(by first|omega|(dsimp only;omega))⟩
 ·replace h1:=vB h1
  have hie:i=a.length:=by omega
  rw[hie,List.take_length] at hv
  refine kD<|jB<|kU (xC (t:=5) (k:=0) (es:=List.map jD out) rfl rfl (vD _ _ (fun _=>rfl)) (uW _ _ uF) (xE _ _ (fun _=>rfl) uF)) ?_
  refine kx [(4,(vl 140 1 jD (ofNat (val out))))] [] (zM<|zE (jV (t_trim out (by assumption) (by omega)))<|zM<|zZ) ?_
  refine jE ⟨_,(.tmp (d:=(.sl 140 1 (List.map jD (ofNat (val out))))) rfl .nil),?_⟩
  rw[hv];rfl
open Go.RowKit Go.Shelf
attribute [local go_sem] Oper.semAt_some
set_option maxRecDepth 100000 in
set_option maxHeartbeats 2000000 in
theorem back1(N l Bs b off len cap:Nat)(u:Nat->Value)(uF:(len:Int)<=9223372036854775807)(J:Nat->World->Prop)(Jx:World->Prop)
  (hc:∀ j W,J j W->W.cell? ⟨Bs,0,none⟩=some (.slice (some ⟨b,off,none⟩) len cap)/\∀ i,i<len->W.cell? ⟨b,off+i,none⟩=some (u i))
  (hY:∀ j W,J j W->j<len->YieldAt Fence.wide N Tryz.prog l #[.int .i64 ((len:Int)-1-(j:Int)),u (len-1-j)] W fun e W'=>
   (e=.returned (.bool true)/\J (j+1) W')\/(e=.returned (.bool false)/\Jx W'))
  (W:World) (h0:J 0 W) :
  CallsIn Fence.wide (N+1) Tryz.prog 262 #[.func (.yield l) #[] #[],.pointer (some ⟨Bs,0,none⟩)] W fun e W'=>(∃ v,e=.returned v)/\(J len W'\/Jx W'):=by
 refine callsIn_of_wp Tryz.func262 rfl trivial ?_ rfl
 simp only[Tryz.ntmps262,List.size_toArray,List.length_cons,List.length_nil,Nat.reduceAdd,Nat.reduceSub,Array.replicate_succ,Array.replicate_zero,List.push_toArray,List.append_toArray,List.nil_append,List.cons_append]
 have hBs:=(hc 0 W h0).1
 gi_wp2
 gi_loopw [3] (fun i wr=>∃ j:Nat,j<=len/\i=.int .i64 ((len:Int)-1-(j:Int))/\J j wr)
  (fun i _=>(intOf i+1).toNat)
 case atStart=>exact ⟨0,Nat.zero_le _,by simp,h0⟩
 case round=>
  obtain ⟨j,hk,rfl,hJs⟩:=hrel
  have hBj:=(hc j wr hJs).1
  by_cases hlt:j<len
  ·have hcj:=(hc j wr hJs).2 (len-1-j) (by omega)
   obtain ⟨fn,tmps,assign,body,hy,hR⟩:=hY j wr hJs hlt
   gi_wp2
   refine hR.mono ?_
   rintro e W3 (⟨rfl,hJ3⟩ | ⟨rfl,hJx3⟩)
   ·gi_wp2
    go_roundw
    case rel=>exact ⟨j+1,by omega,by simp;omega,hJ3⟩
    case measure=>simp [intOf];omega
   ·gi_wp2
    refine bodyPost_ret (results_none rfl _ _ _) rfl ?_
    exact ⟨⟨_,rfl⟩,.inr hJx3⟩
  ·obtain rfl:j=len:=by omega
   gi_wp2
   go_end0
   exact ⟨⟨_,rfl⟩,.inl hJs⟩
set_option maxRecDepth 100000 in
set_option maxHeartbeats 2000000 in
theorem back1_nil(N l Bs cap:Nat)(ao:Option Addr)(J:World->Prop)(W:World)(hBs:W.cell? ⟨Bs,0,none⟩=some (.slice ao 0 cap))(h0:J W) :
  CallsIn Fence.wide (N+1) Tryz.prog 262 #[.func (.yield l) #[] #[],.pointer (some ⟨Bs,0,none⟩)] W fun e W'=>(∃ v,e=.returned v)/\J W':=by
 refine callsIn_of_wp Tryz.func262 rfl trivial ?_ rfl
 simp only[Tryz.ntmps262,List.size_toArray,List.length_cons,List.length_nil,Nat.reduceAdd,Nat.reduceSub,Array.replicate_succ,Array.replicate_zero,List.push_toArray,List.append_toArray,List.nil_append,List.cons_append]
 gi_wp2
 gi_loopw [3] (fun i wr=>i=.int .i64 (-1)/\J wr) (fun _ _=>0)
 case atStart=>exact ⟨by simp,h0⟩
 case round=>
  obtain ⟨rfl,hJs⟩:=hrel
  gi_wp2
  go_end0
  exact ⟨⟨_,rfl⟩,hJs⟩
set_option maxHeartbeats 1000000 in
theorem back_in(a:Option Addr)(len cap:Nat)(w:World) :
  Calls Tryz.prog 249 #[.slice a len cap] w fun e w'=>e=.returned (.func (.func 262) #[] #[.pointer (some ⟨w.heap.size,0,none⟩)])/\w'=w.alloc (.cells #[.slice a len cap] 41):=by
 refine (callsIn_wide (n:=1)).1 (callsIn_of_wp Tryz.func249 rfl trivial ?_ rfl)
 simp only[Tryz.ntmps249,List.size_toArray,List.length_cons,List.length_nil,Nat.reduceAdd,Nat.reduceSub,Array.replicate_succ,Array.replicate_zero,List.push_toArray,List.append_toArray,List.nil_append,List.cons_append]
 gi_wp2
 go_ret
 exact ⟨rfl,rfl⟩
theorem backs:Go.Fid.Backs Tryz.prog 249 262 41:=⟨back_in,back1_nil,fun N l c b off len cap u uF J Jx hc hY W h0=>back1 N l c b off len cap u uF J Jx hc hY W h0,enters_of Tryz.func262 (by kernel_rfl) rfl⟩
theorem cb249:callB Tryz.prog 249=true:=by kernel_rfl
theorem pl43:eW Tryz.prog 43=some [(0,1),(1,1)]:=by kernel_rfl
theorem cL:qX Tryz.prog 3=some (false,1):=by kernel_rfl
theorem yD:qX Tryz.prog 41=some (false,1):=by kernel_rfl
theorem kC:qX Tryz.prog 43=some (true,2):=by kernel_rfl
theorem sh170:qX Tryz.prog 170=some (false,1):=by kernel_rfl
theorem ze3:yI Tryz.prog 3=some [.int .i64 0]:=by kernel_rfl
theorem gE:yI Tryz.prog 43=some [.bool false,.slice none 0 0]:=by kernel_rfl
theorem ze170:yI Tryz.prog 170=some [.int .u64 0]:=by kernel_rfl
theorem zo3:iB [.int .i64 0] [.val (.int .i64 0)]:=by simp [iB,Value.oneCell']
theorem gF:iB [.bool false,.slice none 0 0] [.val (.bool false),.sl 140 1 []]:=by simp [iB,Value.oneCell']
theorem zo170:iB [.int .u64 0] [.val (.int .u64 0)]:=by simp [iB,Value.oneCell']
theorem t_isnan_int(a:Int):jO Tryz.prog 248 [(.val (.int .i64 (a)))] (.val (.bool (false))):=by
 refine qY Tryz.func248 ?_
 refine jB<|kx [] [] (zM<|zZ) ?_
 refine jB<|kx [(2,(vb (a != a)))] [] (zM<|zM<|zE mF<|zM<|zZ) ?_
 refine jE ⟨_,(.tmp (d:=(.val (.bool ((a != a))))) rfl .nil),?_⟩
 simp [retD]
theorem t_cmp_int(a b:Int):jO Tryz.prog 217 [(.val (.int .i64 (a))),(.val (.int .i64 (b)))] (.val (.int .i64 ((vK a b)))):=by
 refine qY Tryz.func217 ?_
 refine jB<|kx [] [] (zM<|zZ) ?_
 refine jB<|kx [(5,(vb false))] [] (zM<|zE (jV (t_isnan_int a))<|zM<|zZ) ?_
 refine jB<|kx [(6,(vb false))] [] (zM<|zE (jV (t_isnan_int b))<|zM<|zZ) ?_
 refine jB<|jB<|kx [(11,(vb false))] [] (zM<|zZ) ?_
 refine kM ?_
 refine jC<|jB<|jB<|kx [(13,(vb false))] [] (zM<|zZ) ?_
 refine kM ?_
 refine jC<|jB<|jB<|kx [(16,(vb (decide (a<b))))] [] (zM<|zM<|zE xK<|zZ) ?_
 refine jG (b:=decide (a<b)) rfl (fun h1=>?_) (fun h1=>?_)
 ·replace h1:=uV h1
  refine jB<|kx [(4,(vi (-1)))] [] (zM<|zZ) ?_
  refine jE ⟨_,(.tmp (d:=(.val (.int .i64 (-1)))) rfl .nil),?_⟩
  rw[show vK a b=-1 from if_pos h1];rfl
 ·replace h1:=vB h1
  refine jC<|jB<|jB<|kx [(19,(vb (decide (b<a))))] [] (zM<|zM<|zE hH<|zZ) ?_
  refine jG (b:=decide (b<a)) rfl (fun h2=>?_) (fun h2=>?_)
  ·replace h2:=uV h2
   refine jB<|kx [(4,(jS 1))] [] (zM<|zZ) ?_
   refine jE ⟨_,(.tmp (d:=(.val (.int .i64 (1)))) rfl .nil),?_⟩
   rw[bY h2];rfl
  ·replace h2:=vB h2
   refine jC<|jB<|kx [(4,(jS 0))] [] (zM<|zZ) ?_
   refine jE ⟨_,(.tmp (d:=(.val (.int .i64 (0)))) rfl .nil),?_⟩
   rw[cmpI_eq h1 h2];rfl
theorem t_isnan_uint32(a:Nat):jO Tryz.prog 263 [(.val (.int .u32 (((a:Nat):Int))))] (.val (.bool (false))):=by
 refine qY Tryz.func263 ?_
 refine jB<|kx [] [] (zM<|zZ) ?_
 refine jB<|kx [(2,(vb (((a:Nat):Int) != ((a:Nat):Int))))] [] (zM<|zM<|zE mF<|zM<|zZ) ?_
 refine jE ⟨_,(.tmp (d:=(.val (.bool ((((a:Nat):Int) != ((a:Nat):Int)))))) rfl .nil),?_⟩
 simp [retD]
theorem t_cmp_uint32(a b:Nat):jO Tryz.prog 250 [(.val (.int .u32 (((a:Nat):Int)))),(.val (.int .u32 (((b:Nat):Int))))] (.val (.int .i64 ((vK ((a:Nat):Int) ((b:Nat):Int))))):=by
 refine qY Tryz.func250 ?_
 refine jB<|kx [] [] (zM<|zZ) ?_
 refine jB<|kx [(5,(vb false))] [] (zM<|zE (jV (t_isnan_uint32 a))<|zM<|zZ) ?_
 refine jB<|kx [(6,(vb false))] [] (zM<|zE (jV (t_isnan_uint32 b))<|zM<|zZ) ?_
 refine jB<|jB<|kx [(11,(vb false))] [] (zM<|zZ) ?_
 refine kM ?_
 refine jC<|jB<|jB<|kx [(13,(vb false))] [] (zM<|zZ) ?_
 refine kM ?_
 refine jC<|jB<|jB<|kx [(16,(vb (decide (((a:Nat):Int)<((b:Nat):Int)))))] [] (zM<|zM<|zE xK<|zZ) ?_
 refine jG rfl (fun h1=>?_) (fun h1=>?_)
 ·replace h1:=uV h1
  refine jB<|kx [(4,(vi (-1)))] [] (zM<|zZ) ?_
  refine jE ⟨_,(.tmp (d:=(.val (.int .i64 (-1)))) rfl .nil),?_⟩
  rw[show vK ((a:Nat):Int) ((b:Nat):Int)=-1 from if_pos h1];rfl
 ·replace h1:=vB h1
  refine jC<|jB<|jB<|kx [(19,(vb (decide (((b:Nat):Int)<((a:Nat):Int)))))] [] (zM<|zM<|zE hH<|zZ) ?_
  refine jG rfl (fun h2=>?_) (fun h2=>?_)
  ·replace h2:=uV h2
   refine jB<|kx [(4,(jS 1))] [] (zM<|zZ) ?_
   refine jE ⟨_,(.tmp (d:=(.val (.int .i64 (1)))) rfl .nil),?_⟩
   rw[bY h2];rfl
  ·replace h2:=vB h2
   refine jC<|jB<|kx [(4,(jS 0))] [] (zM<|zZ) ?_
   refine jE ⟨_,(.tmp (d:=(.val (.int .i64 (0)))) rfl .nil),?_⟩
   rw[cmpI_eq h1 h2];rfl
theorem cK(neg:Bool)(l:List Nat)(hd:Dig l)(hb:l.length<=17592186044416):jO Tryz.prog 220 [(.val (.bool (neg))),(.sl 140 1 (List.map jD l))] (jX (xT neg (val l))):=by
 refine qY Tryz.func220 ?_
 refine jB<|kx [(4,(.ref 0 0))] [(0,some (bx (jX (qF.mk false []))))] (zN (qR 0 gE gF)<|zZ) ?_
 refine jB<|kx [(1,(vl 140 1 jD (ofNat (val l))))] [] (zM<|zE (jV (t_trim l (by assumption) (by omega)))<|zM<|zZ) ?_
 refine jB<|jB<|kx [(9,(vb ((((ofNat (val l)).length:Nat):Int) == 0)))] [] (zM<|zE (vP kO (L:=(ofNat (val l))))<|zE xR<|zZ) ?_
 refine jG rfl (fun h1=>?_) (fun h1=>?_)
 ·replace h1:=eq_of_beq h1
  refine jB<|kx [] [(0,some (bx (jX (qF.mk false []))))] (zE (eD pl43 gE gF)<|zT (qA kC)<|zZ) ?_
  refine jE ⟨_,(kI (cs:=(bx (jX (qF.mk false [])))) (d:=(jX (qF.mk false []))) rfl rfl kC rfl rfl .nil),?_⟩
  rw[mkI_zero h1];rfl
 ·replace h1:=ne_of_beq_false h1
  refine jC<|jB<|kx [] [(0,some (bx (jX (qF.mk neg (ofNat (val l))))))] (zM<|zM<|zE (eD pl43 gE gF)<|zT (qA kC)<|zZ) ?_
  refine jE ⟨_,(kI (cs:=(bx (jX (qF.mk neg (ofNat (val l)))))) (d:=(jX (qF.mk neg (ofNat (val l))))) rfl rfl kC rfl rfl .nil),?_⟩
  rw[mkI_pos h1];rfl
theorem t_word(l:List Nat)(hd:Dig l):jO Tryz.prog 219 [(.sl 140 1 (List.map jD l))] (.tup [(.val (.int .u64 ((((gM l):Nat):Int)))),(.val (.bool ((cC l))))]):=by
 refine qY Tryz.func219 ?_
 refine jB<|kx [(2,(nK 0)),(3,(vb false))] [] (zM<|zM<|zZ) ?_
 refine jB<|jB<|kx [(9,(vb (decide (2<((l.length:Nat):Int)))))] [] (zM<|zE (vP kO)<|zE hH<|zZ) ?_
 refine jG (b:=decide (2<((l.length:Nat):Int))) rfl (fun h1=>?_) (fun h1=>?_)
 ·replace h1:=uV h1
  refine jB<|kx [(2,(nK 0)),(3,(vb false))] [] (zM<|zM<|zZ) ?_
  refine jE ⟨_,(.tmp (d:=(.val (.int .u64 (0)))) rfl (.tmp (d:=(.val (.bool (false)))) rfl .nil)),?_⟩
  rw[show gM l=0 from if_neg (by omega),show cC l=false from decide_eq_false (by omega)];rfl
 ·replace h1:=vB h1
  have h2:l.length<=2:=by omega
  refine jC<|jB<|kx [(4,(.ref 0 0))] [(0,some (bx (.val (.int .u64 (0)))))] (zN (qR 0 ze170 zo170)<|zT (qA sh170)<|zZ) ?_
  refine jB<|pwp_backL backs cb249 rfl 5 jD l 0 (fun n=>⟨[(2,(nK 0)),(3,(vb false)),(4,(.ref 0 0))],[(0,some (bx (.val (.int .u64 (((n:Nat):Int))))))]⟩) (fun (j:Nat) n=>n=val (l.drop (l.length-j))) 0 rfl rfl rfl rfl rfl rfl rfl rfl rfl rfl rfl rfl (fun _=>rfl) (fun _=>rfl) wk (by simp [val]) (by omega) ?_ ?_
  ·rintro rl j n hj hn
   have hw:=word_bound hd hj h2
   rw[<- hn] at hw
   have hg:=hd.getD (l.length-1-j)
   refine kx [(6,(lF (l.getD (l.length-1-j) 0)))] [] (zM<|zZ) ?_
   refine jH<|kx [] [(0,some (bx (.val (.int .u64 (((((n*1000000000)+(l.getD (l.length-1-j) 0)):Nat):Int))))))] (zR (uE sh170)<|zE (oMl (n*1000000000))<|zM<|zE (cM gN gL (l.getD (l.length-1-j) 0))<|zE (vO ((n*1000000000)+(l.getD (l.length-1-j) 0)))<|zT (qA sh170)<|zZ) ?_
   exact ⟨n*1000000000+l.getD (l.length-1-j) 0,wk,(by dsimp only;rw[iN l j hj,<- hn];omega)⟩
  ·rintro n hn
   refine jB<|kx [(2,(nK n)),(3,(vb true))] [] (zR (uE sh170)<|zM<|zM<|zZ) ?_
   refine jE ⟨_,(.tmp (d:=(.val (.int .u64 (((n:Nat):Int))))) rfl (.tmp (d:=(.val (.bool (true)))) rfl .nil)),?_⟩
   rw[show gM l=n by rw[hn,Nat.sub_self,List.drop_zero];exact if_pos h2,show cC l=true from decide_eq_true h2];rfl
theorem t_compare(a b:List Nat)(ha:yW a)(hb:yW b)(hla:a.length<=17592186044416):jO Tryz.prog 218 [(.sl 140 1 (List.map jD a)),(.sl 140 1 (List.map jD b))] (.val (.int .i64 ((vK ((val a:Nat):Int) ((val b:Nat):Int))))):=by
 refine qY Tryz.func218 ?_
 refine jB<|kx [(3,(.ref 0 0)),(4,(.ref 1 0))] [(0,some (bx (.sl 140 1 (List.map jD b)))),(1,some (bx (.val (.int .i64 (0)))))] (zN (uU 0)<|zN (qR 1 ze3 zo3)<|zZ) ?_
 refine jB<|jB<|kx [(11,(vb (((a.length:Nat):Int) != ((b.length:Nat):Int))))] [] (zM<|zE (vP kO)<|zR (uE yD)<|zE (vP kO)<|zE mF<|zZ) ?_
 refine jG rfl (fun h1=>?_) (fun h1=>?_)
 ·replace h1:=bne_iff_ne.1 h1
  refine jB<|kx [] [(1,some (bx (.val (.int .i64 ((vK ((a.length:Nat):Int) ((b.length:Nat):Int)))))))] (zM<|zE (vP kO)<|zR (uE yD)<|zE (vP kO)<|zE (jV (t_cmp_int ((a.length:Nat):Int) ((b.length:Nat):Int)))<|zT (qA cL)<|zZ) ?_
  refine jE ⟨_,(res_1 (cs:=(bx (.val (.int .i64 ((vK ((a.length:Nat):Int) ((b.length:Nat):Int))))))) (d:=(.val (.int .i64 ((vK ((a.length:Nat):Int) ((b.length:Nat):Int)))))) rfl rfl cL rfl rfl .nil),?_⟩
  rw[<- cmpI_len ha hb h1];rfl
 ·replace h1:=bne_eq_false_iff_eq.1 h1
  have hl:a.length=b.length:=by omega
  refine jC<|jB<|pwp_backL backs cb249 rfl 5 jD a 0 (fun _=>⟨[(3,(.ref 0 0)),(4,(.ref 1 0))],[(0,some (bx (.sl 140 1 (List.map jD b)))),(1,some (bx (.val (.int .i64 (0)))))]⟩) (fun (j:Nat) _=>val (a.drop (a.length-j))=val (b.drop (a.length-j))) () rfl rfl rfl rfl rfl rfl rfl rfl rfl rfl rfl rfl (fun _=>rfl) (fun _=>rfl) wk (by rw[Nat.sub_zero,List.drop_length,hl,List.drop_length]) (by omega) ?_ ?_
  ·rintro rl j ⟨⟩ hj he
   refine jB<|kx [(5,(jS (a.length-1-j)))] [] (zM<|zZ) ?_
   refine kx [(6,(lF (a.getD (a.length-1-j) 0)))] [] (zM<|zZ) ?_
   refine jH<|jB<|kx [(26,(vb ((((a.getD (a.length-1-j) 0):Nat):Int) != (((b.getD (a.length-1-j) 0):Nat):Int))))] [] (zM<|zR (uE yD)<|zM<|zE (yE kO (a.length-1-j) (0:Nat))<|zE (yV uB)<|zE mF<|zZ) ?_
   refine jG rfl (fun h2=>?_) (fun h2=>?_)
   ·replace h2:=bne_iff_ne.1 h2
    refine jB<|kx [] [(1,some (bx (.val (.int .i64 ((vK (((a.getD (a.length-1-j) 0):Nat):Int) (((b.getD (a.length-1-j) 0):Nat):Int)))))))] (zM<|zR (uE yD)<|zM<|zE (yE kO (a.length-1-j) (0:Nat))<|zE (yV uB)<|zE (jV (t_cmp_uint32 (a.getD (a.length-1-j) 0) (b.getD (a.length-1-j) 0)))<|zT (qA cL)<|zZ) ?_
    refine jE ⟨⟨[(4,(.ref 1 0))],[(1,some (bx (.val (.int .i64 ((vK (((a.getD (a.length-1-j) 0):Nat):Int) (((b.getD (a.length-1-j) 0):Nat):Int)))))))]⟩,wk,keys_of rfl,⟨_,(res_1 (cs:=(bx (.val (.int .i64 ((vK (((a.getD (a.length-1-j) 0):Nat):Int) (((b.getD (a.length-1-j) 0):Nat):Int))))))) (d:=(.val (.int .i64 ((vK (((a.getD (a.length-1-j) 0):Nat):Int) (((b.getD (a.length-1-j) 0):Nat):Int)))))) rfl rfl cL rfl rfl .nil),?_⟩⟩
    rw[<- cmpI_top ha.1 hb.1 hl hj he h2];rfl
   ·replace h2:=bne_eq_false_iff_eq.1 h2
    refine jC ?_
    exact ⟨(),wk,(by dsimp only;have e1:=iN a j hj;have e2:=iN b j (by omega);rw[<- hl] at e2;rw[e1,e2,he];omega)⟩
  ·rintro ⟨⟩ he
   refine jB<|kx [] [(1,some (bx (.val (.int .i64 (0)))))] (zT (qA cL)<|zZ) ?_
   refine jE ⟨_,(res_1 (cs:=(bx (.val (.int .i64 (0))))) (d:=(.val (.int .i64 (0)))) rfl rfl cL rfl rfl .nil),?_⟩
   rw[cmpI_same (by rw[Nat.sub_self,List.drop_zero,List.drop_zero] at he;exact he)];rfl
theorem t_split(n:Nat)(hn:n<18446744073709551616):jO Tryz.prog 221 [(.val (.int .u64 (((n:Nat):Int))))] (.sl 140 1 (List.map jD (ofNat n))):=by
 refine qY Tryz.func221 ?_
 refine jB<|kx [] [] (zE (aZ 140 1)<|zZ) ?_
 refine jB<|kx [(3,(.own 0 140 1 0))] [(0,some (bm jD []))] (zO 0 140 1<|zZ) ?_
 refine jB<|jH<|kF (α:=Nat × List Nat) (fun (m,g)=>⟨[(0,(nK m)),(3,(.own 0 140 1 g.length))],[(0,some (bm jD g))]⟩) (fun (m,g)=>m<=n/\g++ofNat m=ofNat n) (fun (m,g)=>m) (n,[]) wk ⟨Nat.le_refl _,by rw[List.nil_append]⟩ ?_
 rintro ⟨m,g⟩ ⟨hm,hg⟩
 have hl:=split_len hg hn
 refine jB<|jB<|kx [(5,(vb (decide (0<((m:Nat):Int)))))] [] (zM<|zE hH<|zZ) ?_
 refine jG (b:=decide (0<((m:Nat):Int))) rfl (fun h1=>?_) (fun h1=>?_)
 ·replace h1:=uV h1
  refine jC<|jB<|jH<|kf [(3,(.own 0 140 1 ((g++[(m % 1000000000)]).length)))] [(0,some (bm jD (g++[(m % 1000000000)])))] (zM<|zM<|zE (oRe (m % 1000000000))<|zE (cM mB nO (m % 1000000000))<|zE (eE kO xB yZ)<|zA jD g [(m % 1000000000)] rfl kO xB mI<|zM<|zF) ?_
  refine kx [(0,(nK (m / 1000000000)))] [] (zM<|zE (oQu (m / 1000000000))<|zM<|zZ) ?_
  exact ⟨(m / 1000000000,g++[m % 1000000000]),wk,⟨by omega,split_step hg h1⟩,(by first|omega|(dsimp only;omega))⟩
 ·replace h1:=vB h1
  refine kD<|jB<|kU (xC (t:=3) (k:=0) (es:=List.map jD g) rfl rfl (vD _ _ (fun _=>rfl)) (uW _ _ rfl) (xE _ _ (fun _=>rfl) rfl)) ?_
  refine kx [(2,(vl 140 1 jD g))] [] (zM<|zM<|zZ) ?_
  refine jE ⟨_,(.tmp (d:=(.sl 140 1 (List.map jD g))) rfl .nil),?_⟩
  rw[split_end hg h1];rfl
theorem vZ:xV Tryz.prog 43 0=some 0:=by kernel_rfl
theorem vR:xV Tryz.prog 43 1=some 1:=by kernel_rfl
theorem iP:qX Tryz.prog 4=some (false,1):=by kernel_rfl
theorem t_big(a:Nat):jO Tryz.prog 215 [(.val (.int .u32 (((a:Nat):Int))))] (.val (.bool ((decide (1000000000<=((a:Nat):Int)))))):=by
 refine qY Tryz.func215 ?_
 refine jB<|kx [] [] (zM<|zZ) ?_
 refine jB<|kx [(2,(vb (decide (1000000000<=((a:Nat):Int)))))] [] (zM<|zE oGe<|zM<|zZ) ?_
 refine jE ⟨_,(.tmp (d:=(.val (.bool (decide (1000000000<=((a:Nat):Int)))))) rfl .nil),?_⟩
 rfl
theorem t_index(l:List Nat)(hb:l.length<=17592186044416):jO Tryz.prog 247 [(.sl 140 1 (List.map jD l)),(.val (.func (.func 215) #[] #[]))] (.val (.int .i64 ((zG l)))):=by
 refine qY Tryz.func247 ?_
 refine jB<|kx [] [] (zM<|zZ) ?_
 refine jB<|jB<|kx [(7,(jS l.length)),(8,(jS 0))] [] (zM<|zE (vP kO)<|zM<|zZ) ?_
 refine jH<|kF (α:=Nat) (fun i=>⟨[(0,(vl 140 1 jD l)),(1,(.d (.val (.func (.func 215) #[] #[])))),(7,(jS l.length)),(8,(jS i))],[]⟩) (fun i=>i<=l.length/\Dig (l.take i)) (fun i=>l.length-i) 0 wk ⟨Nat.zero_le _,nQ⟩ ?_
 rintro i ⟨hi,hd⟩
 refine jB<|kx [(9,(vb (decide (((i:Nat):Int)<((l.length:Nat):Int)))))] [] (zE xK<|zZ) ?_
 refine jB<|jG rfl (fun h1=>?_) (fun h1=>?_)
 ·replace h1:=uV h1
  refine jC<|jB<|jH<|jB<|kx [(5,(jS i))] [] (zM<|zM<|zZ) ?_
  refine jB<|kx [(16,(vb (decide (1000000000<=(((l.getD i 0):Nat):Int)))))] [] (zM<|zM<|zM<|zE (yE kO i (0:Nat))<|zE (yV uB)<|zE (jV (t_big (l.getD i 0)))<|zZ) ?_
  refine jG rfl (fun h2=>?_) (fun h2=>?_)
  ·replace h2:=uV h2
   refine jB<|kx [(4,(jS i))] [] (zM<|zM<|zZ) ?_
   refine jE ⟨_,(.tmp (d:=(.val (.int .i64 (((i:Nat):Int))))) rfl .nil),?_⟩
   rw[firstBig_at (by omega) hd (by omega)];rfl
  ·replace h2:=vB h2
   refine jC<|kx [(8,(jS (i+1)))] [] (zE (vO (i+1))<|zM<|zZ) ?_
   exact ⟨(i+1),wk,⟨by omega,dig_take_succ (by omega) hd (by omega)⟩,(by omega)⟩
 ·replace h1:=vB h1
  refine kD<|jB<|kx [(4,(vi (-1)))] [] (zM<|zZ) ?_
  refine jE ⟨_,(.tmp (d:=(.val (.int .i64 (-1)))) rfl .nil),?_⟩
  rw[lG (by rw[List.take_of_length_le (by omega)] at hd;exact hd)];rfl
theorem t_contains(l:List Nat)(hb:l.length<=17592186044416):jO Tryz.prog 214 [(.sl 140 1 (List.map jD l)),(.val (.func (.func 215) #[] #[]))] (.val (.bool ((decide (0<=zG l))))):=by
 refine qY Tryz.func214 ?_
 refine jB<|kx [] [] (zM<|zZ) ?_
 refine jB<|kx [(4,(vb (decide (0<=(zG l)))))] [] (zM<|zM<|zE (jV (t_index l (by omega)))<|zE oGe<|zM<|zZ) ?_
 refine jE ⟨_,(.tmp (d:=(.val (.bool (decide (0<=(zG l)))))) rfl .nil),?_⟩
 rfl
theorem t_valid(x:qF)(hb:x.gs.length<=17592186044416):jO Tryz.prog 135 [(jX x)] (.val (.bool ((vC x)))):=by
 refine qY Tryz.func135 ?_
 refine jB<|kx [(1,(.ref 0 0))] [(0,some (bx (jX x)))] (zN (uU 0)<|zM<|zZ) ?_
 refine jB<|kx [(3,(jS x.gs.length))] [] (zE (kV vR)<|zR (uE yD)<|zE (vP kO)<|zM<|zZ) ?_
 refine jB<|jB<|kx [(8,(vb (((x.gs.length:Nat):Int) == 0)))] [] (zM<|zE xR<|zZ) ?_
 refine jG (b:=(((x.gs.length:Nat):Int) == 0)) rfl (fun h1=>?_) (fun h1=>?_)
 ·replace h1:=eq_of_beq h1
  refine jB<|kx [(2,(vb (!x.neg)))] [] (zE (kV vZ)<|zR (uE iP)<|zE gD<|zM<|zZ) ?_
  refine jE ⟨_,(.tmp (d:=(.val (.bool (!x.neg)))) rfl .nil),?_⟩
  rw[show vC x=!x.neg from if_pos h1];rfl
 ·replace h1:=ne_of_beq_false h1
  refine jC<|jB<|kx [(2,(vb (((((x.gs.getD (x.gs.length-1) 0):Nat):Int) != 0)&&!(decide (0<=zG x.gs)))))] [] ?_ ?_
  ·refine zE (kV vR)<|zR (uE yD)<|zM<|zE (oSb (x.gs.length-1))<|zE (yE kO (x.gs.length-1) (0:Nat))<|zE (yV uB)<|zE mF<|zE (oV (vb ((((x.gs.getD (x.gs.length-1) 0):Nat):Int) != 0)) (qC (by kernel_rfl)))<|?_
   rcases hb2:((((x.gs.getD (x.gs.length-1) 0):Nat):Int) != 0) with _ | _
   ·replace hb2:=bne_eq_false_iff_eq.1 hb2
    exact zK<|zK<|zK<|zK<|zE xQ<|zM<|zZ
   ·replace hb2:=bne_iff_ne.1 hb2
    exact zE (kV vR)<|zR (uE yD)<|zE (jV (t_contains x.gs (by omega)))<|zE gD<|zE fR<|zM<|zZ
  refine jE ⟨_,(.tmp (d:=(.val (.bool ((((((x.gs.getD (x.gs.length-1) 0):Nat):Int) != 0)&&!(decide (0<=zG x.gs))))))) rfl .nil),?_⟩
  rw[show vC x=_ from if_neg h1];rfl
theorem nD(x:qF)(hb:x.gs.length<=17592186044416):jO Tryz.prog 216 [(jX x)] (.sl 140 1 (List.map jD (kY x))):=by
 refine qY Tryz.func216 ?_
 refine jB<|kx [(1,(.ref 0 0))] [(0,some (bx (jX x)))] (zN (uU 0)<|zE (aZ 140 1)<|zZ) ?_
 refine jB<|jB<|kx [(5,(vb (!(vC x))))] [] (zR (kJ kC)<|zE (jV (t_valid x (by omega)))<|zE gD<|zZ) ?_
 refine jG (b:=!(vC x)) rfl (fun h1=>?_) (fun h1=>?_)
 ·refine jB<|kx [(2,(vl 140 1 jD []))] [] (zE (aZ 140 1)<|zZ) ?_
  refine jE ⟨_,(.tmp (d:=(.sl 140 1 (List.map jD []))) rfl .nil),?_⟩
  rw[show kY x=[] from if_neg (by simpa using h1)];rfl
 ·refine jC<|jB<|kx [(2,(vl 140 1 jD x.gs))] [] (zE (kV vR)<|zR (uE yD)<|zM<|zZ) ?_
  refine jE ⟨_,(.tmp (d:=(.sl 140 1 (List.map jD x.gs))) rfl .nil),?_⟩
  rw[show kY x=x.gs from if_pos (by simpa using h1)];rfl
theorem t_clone(l:List Nat)(hb:l.length<=17592186044416):jO Tryz.prog 223 [(.sl 140 1 (List.map jD l))] (.sl 140 1 (List.map jD l)):=by
 refine qY Tryz.func223 ?_
 refine jB<|kx [] [] (zE (aZ 140 1)<|zZ) ?_
 refine jB<|jB<|pwp_nilq rfl rfl rfl rfl rfl rfl kO rfl rfl rfl (fun nb hnb=>?_)
 refine jG (b:=nb) rfl (fun h1=>?_) (fun h1=>?_)
 ·refine jB<|kx [(2,(vl 140 1 jD []))] [] (zE (aZ 140 1)<|zZ) ?_
  refine jE ⟨_,(.tmp (d:=(.sl 140 1 (List.map jD []))) rfl .nil),?_⟩
  rw[List.map_eq_nil_iff.1 (hnb h1)];rfl
 ·refine jC<|jB<|kf [(2,(.own 0 140 1 (([]++l).length)))] [(0,some (bm jD ([]++l)))] (zN (oBo 0 kO xB yZ)<|zM<|zA jD [] l rfl kO xB mI<|zM<|zF) ?_
  refine kU (xC (t:=2) (k:=0) (es:=List.map jD ([]++l)) rfl rfl (vD _ _ (fun _=>rfl)) (uW _ _ rfl) (xE _ _ (fun _=>rfl) rfl)) ?_
  refine jE ⟨_,(.tmp (d:=(.sl 140 1 (List.map jD ([]++l)))) rfl .nil),?_⟩
  rfl
end Go.Proofs.YtnajallgoaiahaaGreatDoor
