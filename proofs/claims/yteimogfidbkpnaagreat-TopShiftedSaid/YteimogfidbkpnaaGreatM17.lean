/- Part 17 of a proof: rules, plain facts, and functions walked. -/
import Derived.Test.YteimogfidbkpnaaGreatM14
import Derived.Test.YteimogfidbkpnaaGreatM5
import Derived.Test.YteimogfidbkpnaaGreatM11
import Derived.Test.YteimogfidbkpnaaGreatM9
import Derived.Test.YteimogfidbkpnaaGreatChecked
import Derived.RangeFuncBox
import Derived.Shelf.Abstract
import Derived.OwnWalkIn
import Derived.TacticsInMore
import Derived.LoopNIn
import Derived.LoopIn
set_option linter.all false
set_option maxRecDepth 4000
namespace Go.Proofs.YteimogfidbkpnaaGreat
open Go.Fid
theorem gH:xK Tryz.prog 121=some 4:=by kernel_rfl
theorem cb102:callB Tryz.prog 102=true:=by kernel_rfl
theorem cb111:callB Tryz.prog 111=true:=by kernel_rfl
theorem cb126:callB Tryz.prog 126=true:=by kernel_rfl
theorem cb127:callB Tryz.prog 127=true:=by kernel_rfl
theorem cb130:callB Tryz.prog 130=true:=by kernel_rfl
theorem kC:uW Tryz.prog 34=some (121,1):=by kernel_rfl
theorem yE:intB Tryz.prog 121=some .u32:=by kernel_rfl
theorem xR:intB Tryz.prog 126=some .u64:=by kernel_rfl
theorem qJ:kZ Tryz.prog 121=some (false,1):=by kernel_rfl
theorem xU:(Tryz.prog.underlying 121).isSome=true:=by kernel_rfl
theorem yN:(Tryz.prog.underlying 126).isSome=true:=by kernel_rfl
theorem vC:uL Tryz.prog 121=some [.int .u32 0]:=by kernel_rfl
theorem xV:gD [.int .u32 0] [.val (.int .u32 0)]:=by simp [gD,Value.oneCell']
theorem t_at(l:List Nat)(i:Nat):jR Tryz.prog 130 [(.sl 121 1 (List.map jB l)),(.val (.int .i64 (((i:Nat):Int))))] (.val (.int .u32 ((((l.getD i 0):Nat):Int)))):=by
 refine jH Tryz.func130 rfl cb130 rfl ?_
 show qS _ _ _ _ ⟨[(0,(vl 121 1 jB l)),(1,(jL i))],[]⟩
 refine jA<|kx [] [] (zM<|zZ) ?_
 refine jA<|jA<|kx [(8,(vb (decide (((i:Nat):Int)<((l.length:Nat):Int)))))] [] (zM<|zM<|zE (yU kC)<|zE uE<|zZ) ?_
 refine jG rfl (fun h1=>?_) (fun h1=>?_)
 ·replace h1:=vM h1
  refine jA<|kx [(4,(cV (l.getD i 0)))] [] (zM<|zM<|zE (nG kC i (0:Nat))<|zE (xE qJ)<|zM<|zZ) ?_
  refine jE ⟨_,(.tmp (d:=(.val (.int .u32 ((((l.getD i 0):Nat):Int))))) rfl .nil),?_⟩
  rfl
 ·replace h1:=vK h1
  refine jC<|jA<|kx [(4,(cV 0))] [] (zM<|zZ) ?_
  refine jE ⟨_,(.tmp (d:=(.val (.int .u32 (0)))) rfl .nil),?_⟩
  rw[show l.getD i 0=0 from getD_out (by omega)];rfl
theorem t_trim(l0:List Nat)(hd:Dig l0)(hb:l0.length≤17592186044416):jR Tryz.prog 111 [(.sl 121 1 (List.map jB l0))] (.sl 121 1 (List.map jB (ofNat (val l0)))):=by
 refine jH Tryz.func111 rfl cb111 rfl ?_
 show qS _ _ _ _ ⟨[(0,(vl 121 1 jB l0))],[]⟩
 refine jA<|kx [] [] (zE (oNl 121 1)<|zZ) ?_
 refine jA<|jD<|kP (α:=List Nat) (fun l=>⟨[(0,(vl 121 1 jB l))],[]⟩) (fun l=>Dig l∧val l=val l0∧l.length≤l0.length) (fun l=>l.length) l0 wk ⟨hd,rfl,Nat.le_refl _⟩ ?_
 rintro l ⟨hl,hv,hle⟩
 refine jA<|jA<|kx [(14,(vb (decide (0<((l.length:Nat):Int))&&((((l.getD (l.length-1) 0):Nat):Int) == 0))))] [] ?_ ?_
 ·refine zM<|zE (yU kC)<|zE gF<|zE (oV (vb (decide (0<((l.length:Nat):Int)))) (kT (by kernel_rfl)))<|?_
  rcases hb1:(decide (0<((l.length:Nat):Int))) with _ | _
  ·replace hb1:=vK hb1
   exact zK<|zK<|zK<|zK<|zK<|zK<|zK<|zE cB<|zZ
  ·replace hb1:=vM hb1
   exact zM<|zM<|zE (yU kC)<|zE (cO (l.length-1))<|zE (nG kC (l.length-1) (0:Nat))<|zE (xE qJ)<|zE oEq<|zE oPa<|zZ
 refine jG rfl (fun h2=>?_) (fun h2=>?_)
 ·obtain ⟨hp,_⟩:=trim_cond h2
  refine jC<|jD<|kx [(0,(vl 121 1 jB (List.take (l.length-1) l)))] [] (zM<|zM<|zE (yU kC)<|zE (cO (l.length-1))<|zE (e_slc (l:=0) (h:=(l.length-1)) (kl:=.i64) (kh:=.i64) (es':=List.map jB (List.take (l.length-1) l)) (by exact rfl) kC (by exact rfl) (by exact rfl) (by exact rfl) (Nat.zero_le _) (by simp only[List.length_map];omega) (by rw[List.drop_zero,List.map_take]))<|zM<|zZ) ?_
  exact ⟨(l.take (l.length-1)),wk,(trim_step hl hv hle h2),(trim_less h2)⟩
 ·refine jV<|jA<|kx [(2,(vl 121 1 jB l))] [] (zM<|zM<|zZ) ?_
  refine jE ⟨_,(.tmp (d:=(.sl 121 1 (List.map jB l))) rfl .nil),?_⟩
  rw[trim_end hl hv h2];rfl
theorem t_plus(a b:List Nat)(hda:Dig a)(hdb:Dig b)(hla:a.length≤8796093022208)(hlb:b.length≤8796093022208):jR Tryz.prog 126 [(.sl 121 1 (List.map jB a)),(.sl 121 1 (List.map jB b))] (.sl 121 1 (List.map jB (ofNat (val a+val b)))):=by
 refine jH Tryz.func126 rfl cb126 rfl ?_
 show qS _ _ _ _ ⟨[(0,(vl 121 1 jB a)),(1,(vl 121 1 jB b))],[]⟩
 refine jA<|kx [] [] (zE (oNl 121 1)<|zZ) ?_
 refine jA<|kx [(5,(.own 0 121 1 ((max a.length b.length)+1)))] [(0,some (bm jB (List.replicate ((max a.length b.length)+1) 0)))] (zM<|zE (yU kC)<|zM<|zE (yU kC)<|zE (oMx (max a.length b.length))<|zE (qP ((max a.length b.length)+1))<|zN (oMk 0 jB (0:Nat) ((max a.length b.length)+1) ((max a.length b.length)+1) kC vC xV gH)<|zM<|zZ) ?_
 refine jA<|kx [(6,(cV 0))] [] (zM<|zZ) ?_
 refine jA<|jA<|kx [(17,(jL ((max a.length b.length)+1))),(18,(jL 0))] [] (zM<|zE (oLo kC)<|zM<|zZ) ?_
 refine jD<|kP (α:=Nat × List Nat × Nat) (fun (i,out,c)=>⟨[(0,(vl 121 1 jB a)),(1,(vl 121 1 jB b)),(5,(.own 0 121 1 ((max a.length b.length)+1))),(6,(cV c)),(17,(jL ((max a.length b.length)+1))),(18,(jL i))],[(0,some (bm jB out))]⟩) (fun (i,out,c)=>out.length=max a.length b.length+1∧Dig out∧i≤max a.length b.length+1∧c≤1∧val (out.take i)+pw i*c=val (a.take i)+val (b.take i)) (fun (i,out,c)=>max a.length b.length+1-i) (0,List.replicate (max a.length b.length+1) 0,0) wk ⟨by simp,xH _,Nat.zero_le _,Nat.zero_le _,by simp [val]⟩ ?_
 rintro ⟨i,out,c⟩ ⟨uB,hdo,hi,hc,hv⟩
 have hai:=hda.getD i
 have hbi:=hdb.getD i
 refine jA<|kx [(19,(vb (decide (((i:Nat):Int)<((((max a.length b.length)+1):Nat):Int)))))] [] (zE uE<|zZ) ?_
 refine jA<|jG rfl (fun h1=>?_) (fun h1=>?_)
 ·replace h1:=vM h1
  refine jC<|jA<|jD<|jA<|kx [(7,(jL i))] [] (zM<|zM<|zZ) ?_
  refine jA<|kx [(8,(cV (((a.getD i 0)+(b.getD i 0))+c)))] [] (zM<|zM<|zE (jX (t_at a i))<|zM<|zM<|zE (jX (t_at b i))<|zE (qP ((a.getD i 0)+(b.getD i 0)))<|zM<|zE (qP (((a.getD i 0)+(b.getD i 0))+c))<|zM<|zZ) ?_
  refine jA<|kx [(6,(cV 0))] [] (zM<|zZ) ?_
  refine jA<|jA<|kx [(31,(vb (decide (1000000000≤(((((a.getD i 0)+(b.getD i 0))+c):Nat):Int)))))] [] (zM<|zE oGe<|zZ) ?_
  refine jG rfl (fun h2=>?_) (fun h2=>?_)
  ·replace h2:=vM h2
   refine kx [(6,(cV 1)),(8,(cV ((((a.getD i 0)+(b.getD i 0))+c)-1000000000)))] [] (zM<|zE (cO ((((a.getD i 0)+(b.getD i 0))+c)-1000000000))<|zM<|zM<|zZ) ?_
   refine kx [] [(0,some (bm jB (out.set i ((((a.getD i 0)+(b.getD i 0))+c)-1000000000))))] (zM<|zM<|zM<|zE (cH kC i)<|zT (oSp qJ i ((((a.getD i 0)+(b.getD i 0))+c)-1000000000))<|zZ) ?_
   refine kx [(18,(jL (i+1)))] [] (zE (qP (i+1))<|zM<|zZ) ?_
   exact ⟨(i+1,out.set i (a.getD i 0+b.getD i 0+c-1000000000),1),wk,(by obtain ⟨q1,q2,q3⟩:=plus_step (s:=a.getD i 0+b.getD i 0+c-1000000000) (c':=1) uB hdo (by omega) hv (by omega) (by omega);exact ⟨q1,q2,by omega,by omega,q3⟩),(by first|omega|(dsimp only;omega))⟩
  ·replace h2:=vK h2
   refine jC<|kx [] [(0,some (bm jB (out.set i (((a.getD i 0)+(b.getD i 0))+c))))] (zM<|zM<|zM<|zE (cH kC i)<|zT (oSp qJ i (((a.getD i 0)+(b.getD i 0))+c))<|zZ) ?_
   refine kx [(18,(jL (i+1)))] [] (zE (qP (i+1))<|zM<|zZ) ?_
   exact ⟨(i+1,out.set i (a.getD i 0+b.getD i 0+c),0),wk,(by obtain ⟨q1,q2,q3⟩:=plus_step (s:=a.getD i 0+b.getD i 0+c) (c':=0) uB hdo (by omega) hv (by omega) (by omega);exact ⟨q1,q2,by omega,by omega,q3⟩),(by first|omega|(dsimp only;omega))⟩
 ·replace h1:=vK h1
  have hie:i=max a.length b.length+1:=by omega
  rw[hie] at hv
  refine jV<|jA<|kE (vP (t:=5) (k:=0) (es:=List.map jB out) rfl rfl (qZ _ _ (fun _=>rfl)) (uR _ _ uB) (uS _ _ (fun _=>rfl) uB)) ?_
  refine kx [(4,(vl 121 1 jB (ofNat (val out))))] [] (zM<|zE (jX (t_trim out (by assumption) (by omega)))<|zM<|zZ) ?_
  refine jE ⟨_,(.tmp (d:=(.sl 121 1 (List.map jB (ofNat (val out))))) rfl .nil),?_⟩
  rw[plus_end hda hdb uB hv];rfl
theorem t_minus(a b:List Nat)(hda:Dig a)(hdb:Dig b)(hba:val b≤val a)(hla:a.length≤8796093022208):jR Tryz.prog 127 [(.sl 121 1 (List.map jB a)),(.sl 121 1 (List.map jB b))] (.sl 121 1 (List.map jB (ofNat (val a-val b)))):=by
 refine jH Tryz.func127 rfl cb127 rfl ?_
 show qS _ _ _ _ ⟨[(0,(vl 121 1 jB a)),(1,(vl 121 1 jB b))],[]⟩
 refine jA<|kx [] [] (zE (oNl 121 1)<|zZ) ?_
 refine jA<|kx [(5,(.own 0 121 1 a.length))] [(0,some (bm jB (List.replicate a.length 0)))] (zM<|zE (yU kC)<|zN (oMk 0 jB (0:Nat) a.length a.length kC vC xV gH)<|zM<|zZ) ?_
 refine jA<|kx [(6,(cV 0))] [] (zM<|zZ) ?_
 refine jA<|jA<|kx [(13,(jL a.length)),(14,(jL 0))] [] (zM<|zE (oLo kC)<|zM<|zZ) ?_
 refine jD<|kP (α:=Nat × List Nat × Nat) (fun (i,out,c)=>⟨[(0,(vl 121 1 jB a)),(1,(vl 121 1 jB b)),(5,(.own 0 121 1 a.length)),(6,(cV c)),(13,(jL a.length)),(14,(jL i))],[(0,some (bm jB out))]⟩) (fun (i,out,c)=>out.length=a.length∧Dig out∧i≤a.length∧c≤1∧val (out.take i)+val (b.take i)=val (a.take i)+pw i*c) (fun (i,out,c)=>a.length-i) (0,List.replicate a.length 0,0) wk ⟨by simp,xH _,Nat.zero_le _,Nat.zero_le _,by simp [val]⟩ ?_
 rintro ⟨i,out,c⟩ ⟨uB,hdo,hi,hc,hv⟩
 have hai:=hda.getD i
 have hbi:=hdb.getD i
 refine jA<|kx [(15,(vb (decide (((i:Nat):Int)<((a.length:Nat):Int)))))] [] (zE uE<|zZ) ?_
 refine jA<|jG rfl (fun h1=>?_) (fun h1=>?_)
 ·replace h1:=vM h1
  refine jC<|jA<|jD<|jA<|kx [(7,(jL i))] [] (zM<|zM<|zZ) ?_
  refine jA<|kx [(8,(cV ((b.getD i 0)+c)))] [] (zM<|zM<|zE (jX (t_at b i))<|zM<|zE (qP ((b.getD i 0)+c))<|zM<|zZ) ?_
  refine jA<|kx [(6,(cV 0))] [] (zM<|zZ) ?_
  refine jA<|kx [(27,(vb (decide ((((a.getD i 0):Nat):Int)<((((b.getD i 0)+c):Nat):Int)))))] [] (zM<|zM<|zE (nG kC i (0:Nat))<|zE (xE qJ)<|zM<|zE uE<|zZ) ?_
  refine jG rfl (fun h2=>?_) (fun h2=>?_)
  ·replace h2:=vM h2
   refine kx [(6,(cV 1))] [(0,some (bm jB (out.set i (((a.getD i 0)+1000000000)-((b.getD i 0)+c)))))] (zM<|zM<|zM<|zM<|zE (nG kC i (0:Nat))<|zE (xE qJ)<|zE (qP ((a.getD i 0)+1000000000))<|zM<|zE (cO (((a.getD i 0)+1000000000)-((b.getD i 0)+c)))<|zE (cH kC i)<|zT (oSp qJ i (((a.getD i 0)+1000000000)-((b.getD i 0)+c)))<|zM<|zZ) ?_
   refine kx [(14,(jL (i+1)))] [] (zE (qP (i+1))<|zM<|zZ) ?_
   exact ⟨(i+1,out.set i (a.getD i 0+1000000000-(b.getD i 0+c)),1),wk,(by obtain ⟨q1,q2,q3⟩:=minus_step (s:=a.getD i 0+1000000000-(b.getD i 0+c)) (c':=1) uB hdo (by omega) hv (by omega) (by omega);exact ⟨q1,q2,by omega,by omega,q3⟩),(by first|omega|(dsimp only;omega))⟩
  ·replace h2:=vK h2
   refine kx [] [(0,some (bm jB (out.set i ((a.getD i 0)-((b.getD i 0)+c)))))] (zM<|zM<|zM<|zM<|zE (nG kC i (0:Nat))<|zE (xE qJ)<|zM<|zE (cO ((a.getD i 0)-((b.getD i 0)+c)))<|zE (cH kC i)<|zT (oSp qJ i ((a.getD i 0)-((b.getD i 0)+c)))<|zZ) ?_
   refine kx [(14,(jL (i+1)))] [] (zE (qP (i+1))<|zM<|zZ) ?_
   exact ⟨(i+1,out.set i (a.getD i 0-(b.getD i 0+c)),0),wk,(by obtain ⟨q1,q2,q3⟩:=minus_step (s:=a.getD i 0-(b.getD i 0+c)) (c':=0) uB hdo (by omega) hv (by omega) (by omega);exact ⟨q1,q2,by omega,by omega,q3⟩),(by first|omega|(dsimp only;omega))⟩
 ·replace h1:=vK h1
  have hie:i=a.length:=by omega
  rw[hie] at hv
  refine jV<|jA<|kE (vP (t:=5) (k:=0) (es:=List.map jB out) rfl rfl (qZ _ _ (fun _=>rfl)) (uR _ _ uB) (uS _ _ (fun _=>rfl) uB)) ?_
  refine kx [(4,(vl 121 1 jB (ofNat (val out))))] [] (zM<|zE (jX (t_trim out (by assumption) (by omega)))<|zM<|zZ) ?_
  refine jE ⟨_,(.tmp (d:=(.sl 121 1 (List.map jB (ofNat (val out))))) rfl .nil),?_⟩
  rw[minus_end hda hdb hdo hba uB hv];rfl
theorem t_times(a b:List Nat)(hda:Dig a)(hdb:Dig b)(hla:a.length≤4398046511104)(hlb:b.length≤4398046511104):jR Tryz.prog 102 [(.sl 121 1 (List.map jB a)),(.sl 121 1 (List.map jB b))] (.sl 121 1 (List.map jB (ofNat (val a*val b)))):=by
 refine jH Tryz.func102 rfl cb102 rfl ?_
 show qS _ _ _ _ ⟨[(0,(vl 121 1 jB a)),(1,(vl 121 1 jB b))],[]⟩
 refine jA<|kx [] [] (zE (oNl 121 1)<|zZ) ?_
 refine jA<|kx [(5,(.own 0 121 1 (a.length+b.length)))] [(0,some (bm jB (List.replicate (a.length+b.length) 0)))] (zM<|zE (yU kC)<|zM<|zE (yU kC)<|zE (qP (a.length+b.length))<|zN (oMk 0 jB (0:Nat) (a.length+b.length) (a.length+b.length) kC vC xV gH)<|zM<|zZ) ?_
 refine jA<|jA<|kx [(18,(vl 121 1 jB a)),(19,(jL a.length)),(20,(jL 0))] [] (zM<|zE (yU kC)<|zM<|zZ) ?_
 refine jD<|kP (α:=Nat × List Nat) (fun (i,out)=>⟨[(1,(vl 121 1 jB b)),(5,(.own 0 121 1 (a.length+b.length))),(18,(vl 121 1 jB a)),(19,(jL a.length)),(20,(jL i))],[(0,some (bm jB out))]⟩) (fun (i,out)=>out.length=a.length+b.length∧Dig out∧i≤a.length∧(∀ k,i+b.length≤k→out.getD k 0=0)∧val out=val (a.take i)*val b) (fun (i,out)=>a.length-i) (0,List.replicate (a.length+b.length) 0) wk ⟨by simp,xH _,Nat.zero_le _,fun k _=>cK _ k,by simp [val,mH]⟩ ?_
 rintro ⟨i,out⟩ ⟨uB,hdo,hi,hz,hv⟩
 have hai:=hda.getD i
 refine jA<|kx [(21,(vb (decide (((i:Nat):Int)<((a.length:Nat):Int)))))] [] (zE uE<|zZ) ?_
 refine jA<|jG rfl (fun h1=>?_) (fun h1=>?_)
 ·replace h1:=vM h1
  refine jC<|jA<|jD<|jA<|kx [(6,(jL i)),(7,(cV (a.getD i 0)))] [] (zM<|zE (nG kC i (0:Nat))<|zE (xE qJ)<|zM<|zM<|zZ) ?_
  refine jA<|kx [(8,(zG 0))] [] (zM<|zZ) ?_
  refine jA<|jA<|kx [(25,(vl 121 1 jB b)),(26,(jL b.length)),(27,(jL 0))] [] (zM<|zE (yU kC)<|zM<|zZ) ?_
  refine jD<|kP (α:=Nat × List Nat × Nat) (fun (j,o2,c)=>⟨[(1,(vl 121 1 jB b)),(5,(.own 0 121 1 (a.length+b.length))),(6,(jL i)),(7,(cV (a.getD i 0))),(8,(zG c)),(18,(vl 121 1 jB a)),(19,(jL a.length)),(20,(jL i)),(25,(vl 121 1 jB b)),(26,(jL b.length)),(27,(jL j))],[(0,some (bm jB o2))]⟩) (fun (j,o2,c)=>o2.length=a.length+b.length∧Dig o2∧j≤b.length∧c<1000000000∧(∀ k,i+b.length≤k→o2.getD k 0=0)∧val o2+pw (i+j)*c=val (a.take i)*val b+pw i*(a.getD i 0*val (b.take j))) (fun (j,o2,c)=>b.length-j) (0,out,0) wk ⟨uB,hdo,Nat.zero_le _,by decide,hz,by simp [val,hv]⟩ ?_
  rintro ⟨j,o2,c⟩ ⟨hlen2,hdo2,hj,hc,hz2,hv2⟩
  have hbj:=hdb.getD j
  have hoj:=hdo2.getD (i+j)
  have hpq:a.getD i 0*b.getD j 0≤999999999*999999999:=Nat.mul_le_mul (by omega) (by omega)
  refine jA<|kx [(28,(vb (decide (((j:Nat):Int)<((b.length:Nat):Int)))))] [] (zE uE<|zZ) ?_
  refine jA<|jG rfl (fun h2=>?_) (fun h2=>?_)
  ·replace h2:=vM h2
   refine jC<|jA<|jD<|jA<|kx [(9,(jL j)),(10,(cV (b.getD j 0)))] [] (zM<|zE (nG kC j (0:Nat))<|zE (xE qJ)<|zM<|zM<|zZ) ?_
   refine jA<|kx [(11,(zG (((o2.getD (i+j) 0)+((a.getD i 0)*(b.getD j 0)))+c)))] [] (zM<|zM<|zM<|zE (qP (i+j))<|zE (cH kC (i+j))<|zR (oLp qJ (i+j) (0:Nat))<|zE (gM xU xR (o2.getD (i+j) 0))<|zM<|zE (gM xU xR (a.getD i 0))<|zM<|zE (gM xU xR (b.getD j 0))<|zE (oMl ((a.getD i 0)*(b.getD j 0)))<|zE (qP ((o2.getD (i+j) 0)+((a.getD i 0)*(b.getD j 0))))<|zM<|zE (qP (((o2.getD (i+j) 0)+((a.getD i 0)*(b.getD j 0)))+c))<|zM<|zZ) ?_
   refine kx [(8,(zG ((((o2.getD (i+j) 0)+((a.getD i 0)*(b.getD j 0)))+c) / 1000000000)))] [(0,some (bm jB (o2.set (i+j) ((((o2.getD (i+j) 0)+((a.getD i 0)*(b.getD j 0)))+c) % 1000000000))))] (zM<|zM<|zM<|zE (qP (i+j))<|zM<|zE (oRe ((((o2.getD (i+j) 0)+((a.getD i 0)*(b.getD j 0)))+c) % 1000000000))<|zE (gM yN yE ((((o2.getD (i+j) 0)+((a.getD i 0)*(b.getD j 0)))+c) % 1000000000))<|zM<|zE (oQu ((((o2.getD (i+j) 0)+((a.getD i 0)*(b.getD j 0)))+c) / 1000000000))<|zE (cH kC (i+j))<|zT (oSp qJ (i+j) ((((o2.getD (i+j) 0)+((a.getD i 0)*(b.getD j 0)))+c) % 1000000000))<|zM<|zZ) ?_
   refine kx [(27,(jL (j+1)))] [] (zE (qP (j+1))<|zM<|zZ) ?_
   exact ⟨(j+1,o2.set (i+j) ((o2.getD (i+j) 0+a.getD i 0*b.getD j 0+c) % 1000000000),(o2.getD (i+j) 0+a.getD i 0*b.getD j 0+c) / 1000000000),wk,(by obtain ⟨q1,q2⟩:=times_step (by omega) hdo2 hv2 rfl (val_take_succ b j);exact ⟨by simpa using hlen2,q1,by omega,by omega,zero_set (by omega) hz2,q2⟩),(by first|omega|(dsimp only;omega))⟩
  ·replace h2:=vK h2
   have hje:j=b.length:=by omega
   rw[hje] at hv2
   refine jV<|kx [] [(0,some (bm jB (o2.set (i+b.length) c)))] (zM<|zM<|zM<|zE (yU kC)<|zE (qP (i+b.length))<|zM<|zE (gM yN yE c)<|zE (cH kC (i+b.length))<|zT (oSp qJ (i+b.length) c)<|zZ) ?_
   refine kx [(20,(jL (i+1)))] [] (zE (qP (i+1))<|zM<|zZ) ?_
   exact ⟨(i+1,o2.set (i+b.length) c),wk,(by obtain ⟨q1,q2,q3,q4⟩:=times_row hdo2 (by omega) hlen2 hz2 hc hv2;exact ⟨q1,q2,by omega,q3,q4⟩),(by first|omega|(dsimp only;omega))⟩
 ·replace h1:=vK h1
  have hie:i=a.length:=by omega
  rw[hie,List.take_length] at hv
  refine jV<|jA<|kE (vP (t:=5) (k:=0) (es:=List.map jB out) rfl rfl (qZ _ _ (fun _=>rfl)) (uR _ _ uB) (uS _ _ (fun _=>rfl) uB)) ?_
  refine kx [(4,(vl 121 1 jB (ofNat (val out))))] [] (zM<|zE (jX (t_trim out (by assumption) (by omega)))<|zM<|zZ) ?_
  refine jE ⟨_,(.tmp (d:=(.sl 121 1 (List.map jB (ofNat (val out))))) rfl .nil),?_⟩
  rw[hv];rfl
open Go.RowKit Go.Shelf
attribute [local go_sem] Oper.semAt_some
set_option maxRecDepth 100000 in
set_option maxHeartbeats 2000000 in
theorem back1(N l Bs b off len cap:Nat)(u:Nat→Value)(uB:(len:Int)≤9223372036854775807)(J:Nat→World→Prop)(Jx:World→Prop)
  (hc:∀ j W,J j W→W.cell? ⟨Bs,0,none⟩=some (.slice (some ⟨b,off,none⟩) len cap)∧∀ i,i<len→W.cell? ⟨b,off+i,none⟩=some (u i))
  (hY:∀ j W,J j W→j<len→YieldAt Fence.wide N Tryz.prog l #[.int .i64 ((len:Int)-1-(j:Int)),u (len-1-j)] W fun e W'=>
   (e=.returned (.bool true)∧J (j+1) W')∨(e=.returned (.bool false)∧Jx W'))
  (W:World) (h0:J 0 W) :
  CallsIn Fence.wide (N+1) Tryz.prog 128 #[.func (.yield l) #[] #[],.pointer (some ⟨Bs,0,none⟩)] W fun e W'=>(∃ v,e=.returned v)∧(J len W'∨Jx W'):=by
 refine callsIn_of_wp Tryz.func128 rfl trivial ?_ rfl
 simp only[Tryz.ntmps128,List.size_toArray,List.length_cons,List.length_nil,Nat.reduceAdd,Nat.reduceSub,Array.replicate_succ,Array.replicate_zero,List.push_toArray,List.append_toArray,List.nil_append,List.cons_append]
 have hBs:=(hc 0 W h0).1
 gi_wp2
 gi_loopw [3] (fun i wr=>∃ j:Nat,j≤len∧i=.int .i64 ((len:Int)-1-(j:Int))∧J j wr)
  (fun i _=>(intOf i+1).toNat)
 case atStart=>exact ⟨0,Nat.zero_le _,by simp,h0⟩
 case round=>
  obtain ⟨j,hk,rfl,hJs⟩:=hrel
  have hBj:=(hc j wr hJs).1
  by_cases hlt:j<len
  ·have hcj:=(hc j wr hJs).2 (len-1-j) (by omega)
   obtain ⟨fn,tmps,assign,body,hy,hR⟩:=hY j wr hJs hlt
   gi_wp2
   refine hR.mono ?_
   rintro e W3 (⟨rfl,hJ3⟩ | ⟨rfl,hJx3⟩)
   ·gi_wp2
    go_roundw
    case rel=>exact ⟨j+1,by omega,by simp;omega,hJ3⟩
    case measure=>simp [intOf];omega
   ·gi_wp2
    refine bodyPost_ret (results_none rfl _ _ _) rfl ?_
    exact ⟨⟨_,rfl⟩,.inr hJx3⟩
  ·obtain rfl:j=len:=by omega
   gi_wp2
   go_end0
   exact ⟨⟨_,rfl⟩,.inl hJs⟩
set_option maxRecDepth 100000 in
set_option maxHeartbeats 2000000 in
theorem back1_nil(N l Bs cap:Nat)(ao:Option Addr)(J:World→Prop)(W:World)(hBs:W.cell? ⟨Bs,0,none⟩=some (.slice ao 0 cap))(h0:J W) :
  CallsIn Fence.wide (N+1) Tryz.prog 128 #[.func (.yield l) #[] #[],.pointer (some ⟨Bs,0,none⟩)] W fun e W'=>(∃ v,e=.returned v)∧J W':=by
 refine callsIn_of_wp Tryz.func128 rfl trivial ?_ rfl
 simp only[Tryz.ntmps128,List.size_toArray,List.length_cons,List.length_nil,Nat.reduceAdd,Nat.reduceSub,Array.replicate_succ,Array.replicate_zero,List.push_toArray,List.append_toArray,List.nil_append,List.cons_append]
 gi_wp2
 gi_loopw [3] (fun i wr=>i=.int .i64 (-1)∧J wr) (fun _ _=>0)
 case atStart=>exact ⟨by simp,h0⟩
 case round=>
  obtain ⟨rfl,hJs⟩:=hrel
  gi_wp2
  go_end0
  exact ⟨⟨_,rfl⟩,hJs⟩
set_option maxHeartbeats 1000000 in
theorem back_in(a:Option Addr)(len cap:Nat)(w:World) :
  Calls Tryz.prog 109 #[.slice a len cap] w fun e w'=>e=.returned (.func (.func 128) #[] #[.pointer (some ⟨w.heap.size,0,none⟩)])∧w'=w.alloc (.cells #[.slice a len cap] 34):=by
 refine (callsIn_wide (n:=1)).1 (callsIn_of_wp Tryz.func109 rfl trivial ?_ rfl)
 simp only[Tryz.ntmps109,List.size_toArray,List.length_cons,List.length_nil,Nat.reduceAdd,Nat.reduceSub,Array.replicate_succ,Array.replicate_zero,List.push_toArray,List.append_toArray,List.nil_append,List.cons_append]
 gi_wp2
 go_ret
 exact ⟨rfl,rfl⟩
theorem backs:Go.Fid.Backs Tryz.prog 109 128 34:=⟨back_in,back1_nil,fun N l c b off len cap u uB J Jx hc hY W h0=>back1 N l c b off len cap u uB J Jx hc hY W h0,enters_of Tryz.func128 (by kernel_rfl) rfl⟩
theorem cb79:callB Tryz.prog 79=true:=by kernel_rfl
theorem cb80:callB Tryz.prog 80=true:=by kernel_rfl
theorem cb81:callB Tryz.prog 81=true:=by kernel_rfl
theorem cb82:callB Tryz.prog 82=true:=by kernel_rfl
theorem cb83:callB Tryz.prog 83=true:=by kernel_rfl
theorem cb108:callB Tryz.prog 108=true:=by kernel_rfl
theorem cb109:callB Tryz.prog 109=true:=by kernel_rfl
theorem cb110:callB Tryz.prog 110=true:=by kernel_rfl
theorem cb129:callB Tryz.prog 129=true:=by kernel_rfl
theorem pl36:yR Tryz.prog 36=some [(0,1),(1,1)]:=by kernel_rfl
theorem xX:kZ Tryz.prog 34=some (false,1):=by kernel_rfl
theorem jS:kZ Tryz.prog 36=some (true,2):=by kernel_rfl
theorem sh126:kZ Tryz.prog 126=some (false,1):=by kernel_rfl
theorem ze3:uL Tryz.prog 3=some [.int .i64 0]:=by kernel_rfl
theorem yI:uL Tryz.prog 36=some [.bool false,.slice none 0 0]:=by kernel_rfl
theorem ze126:uL Tryz.prog 126=some [.int .u64 0]:=by kernel_rfl
theorem zo3:gD [.int .i64 0] [.val (.int .i64 0)]:=by simp [gD,Value.oneCell']
theorem yL:gD [.bool false,.slice none 0 0] [.val (.bool false),.sl 121 1 []]:=by simp [gD,Value.oneCell']
theorem zo126:gD [.int .u64 0] [.val (.int .u64 0)]:=by simp [gD,Value.oneCell']
theorem t_isnan_int(a:Int):jR Tryz.prog 108 [(.val (.int .i64 (a)))] (.val (.bool (false))):=by
 refine jH Tryz.func108 rfl cb108 rfl ?_
 show qS _ _ _ _ ⟨[(0,(vi a))],[]⟩
 refine jA<|kx [] [] (zM<|zZ) ?_
 refine jA<|kx [(2,(vb (a != a)))] [] (zM<|zM<|zE oNe<|zM<|zZ) ?_
 refine jE ⟨_,(.tmp (d:=(.val (.bool ((a != a))))) rfl .nil),?_⟩
 simp [retD]
theorem t_cmp_int(a b:Int):jR Tryz.prog 79 [(.val (.int .i64 (a))),(.val (.int .i64 (b)))] (.val (.int .i64 ((uP a b)))):=by
 refine jH Tryz.func79 rfl cb79 rfl ?_
 show qS _ _ _ _ ⟨[(0,(vi a)),(1,(vi b))],[]⟩
 refine jA<|kx [] [] (zM<|zZ) ?_
 refine jA<|kx [(5,(vb false))] [] (zM<|zE (jX (t_isnan_int a))<|zM<|zZ) ?_
 refine jA<|kx [(6,(vb false))] [] (zM<|zE (jX (t_isnan_int b))<|zM<|zZ) ?_
 refine jA<|jA<|kx [(11,(vb false))] [] (zM<|zZ) ?_
 refine kY ?_
 refine jC<|jA<|jA<|kx [(13,(vb false))] [] (zM<|zZ) ?_
 refine kY ?_
 refine jC<|jA<|jA<|kx [(16,(vb (decide (a<b))))] [] (zM<|zM<|zE uE<|zZ) ?_
 refine jG (b:=decide (a<b)) rfl (fun h1=>?_) (fun h1=>?_)
 ·replace h1:=vM h1
  refine jA<|kx [(4,(vi (-1)))] [] (zM<|zZ) ?_
  refine jE ⟨_,(.tmp (d:=(.val (.int .i64 (-1)))) rfl .nil),?_⟩
  rw[show uP a b=-1 from if_pos h1];rfl
 ·replace h1:=vK h1
  refine jC<|jA<|jA<|kx [(19,(vb (decide (b<a))))] [] (zM<|zM<|zE gF<|zZ) ?_
  refine jG (b:=decide (b<a)) rfl (fun h2=>?_) (fun h2=>?_)
  ·replace h2:=vM h2
   refine jA<|kx [(4,(jL 1))] [] (zM<|zZ) ?_
   refine jE ⟨_,(.tmp (d:=(.val (.int .i64 (1)))) rfl .nil),?_⟩
   rw[dB h2];rfl
  ·replace h2:=vK h2
   refine jC<|jA<|kx [(4,(jL 0))] [] (zM<|zZ) ?_
   refine jE ⟨_,(.tmp (d:=(.val (.int .i64 (0)))) rfl .nil),?_⟩
   rw[cmpI_eq h1 h2];rfl
theorem t_isnan_uint32(a:Nat):jR Tryz.prog 129 [(.val (.int .u32 (((a:Nat):Int))))] (.val (.bool (false))):=by
 refine jH Tryz.func129 rfl cb129 rfl ?_
 show qS _ _ _ _ ⟨[(0,(cV a))],[]⟩
 refine jA<|kx [] [] (zM<|zZ) ?_
 refine jA<|kx [(2,(vb (((a:Nat):Int) != ((a:Nat):Int))))] [] (zM<|zM<|zE oNe<|zM<|zZ) ?_
 refine jE ⟨_,(.tmp (d:=(.val (.bool ((((a:Nat):Int) != ((a:Nat):Int)))))) rfl .nil),?_⟩
 simp [retD]
theorem t_cmp_uint32(a b:Nat):jR Tryz.prog 110 [(.val (.int .u32 (((a:Nat):Int)))),(.val (.int .u32 (((b:Nat):Int))))] (.val (.int .i64 ((uP ((a:Nat):Int) ((b:Nat):Int))))):=by
 refine jH Tryz.func110 rfl cb110 rfl ?_
 show qS _ _ _ _ ⟨[(0,(cV a)),(1,(cV b))],[]⟩
 refine jA<|kx [] [] (zM<|zZ) ?_
 refine jA<|kx [(5,(vb false))] [] (zM<|zE (jX (t_isnan_uint32 a))<|zM<|zZ) ?_
 refine jA<|kx [(6,(vb false))] [] (zM<|zE (jX (t_isnan_uint32 b))<|zM<|zZ) ?_
 refine jA<|jA<|kx [(11,(vb false))] [] (zM<|zZ) ?_
 refine kY ?_
 refine jC<|jA<|jA<|kx [(13,(vb false))] [] (zM<|zZ) ?_
 refine kY ?_
 refine jC<|jA<|jA<|kx [(16,(vb (decide (((a:Nat):Int)<((b:Nat):Int)))))] [] (zM<|zM<|zE uE<|zZ) ?_
 refine jG rfl (fun h1=>?_) (fun h1=>?_)
 ·replace h1:=vM h1
  refine jA<|kx [(4,(vi (-1)))] [] (zM<|zZ) ?_
  refine jE ⟨_,(.tmp (d:=(.val (.int .i64 (-1)))) rfl .nil),?_⟩
  rw[show uP ((a:Nat):Int) ((b:Nat):Int)=-1 from if_pos h1];rfl
 ·replace h1:=vK h1
  refine jC<|jA<|jA<|kx [(19,(vb (decide (((b:Nat):Int)<((a:Nat):Int)))))] [] (zM<|zM<|zE gF<|zZ) ?_
  refine jG rfl (fun h2=>?_) (fun h2=>?_)
  ·replace h2:=vM h2
   refine jA<|kx [(4,(jL 1))] [] (zM<|zZ) ?_
   refine jE ⟨_,(.tmp (d:=(.val (.int .i64 (1)))) rfl .nil),?_⟩
   rw[dB h2];rfl
  ·replace h2:=vK h2
   refine jC<|jA<|kx [(4,(jL 0))] [] (zM<|zZ) ?_
   refine jE ⟨_,(.tmp (d:=(.val (.int .i64 (0)))) rfl .nil),?_⟩
   rw[cmpI_eq h1 h2];rfl
theorem nI(neg:Bool)(l:List Nat)(hd:Dig l)(hb:l.length≤17592186044416):jR Tryz.prog 82 [(.val (.bool (neg))),(.sl 121 1 (List.map jB l))] (jJ (vO neg (val l))):=by
 refine jH Tryz.func82 rfl cb82 rfl ?_
 show qS _ _ _ _ ⟨[(0,(vb neg)),(1,(vl 121 1 jB l))],[]⟩
 refine jA<|kx [(4,(.ref 0 0))] [(0,some (bx (jJ (kM.mk false []))))] (zN (uX 0 yI yL)<|zZ) ?_
 refine jA<|kx [(1,(vl 121 1 jB (ofNat (val l))))] [] (zM<|zE (jX (t_trim l (by assumption) (by omega)))<|zM<|zZ) ?_
 refine jA<|jA<|kx [(9,(vb ((((ofNat (val l)).length:Nat):Int) == 0)))] [] (zM<|zE (yU kC (L:=(ofNat (val l))))<|zE oEq<|zZ) ?_
 refine jG rfl (fun h1=>?_) (fun h1=>?_)
 ·replace h1:=eq_of_beq h1
  refine jA<|kx [] [(0,some (bx (jJ (kM.mk false []))))] (zE (oBd pl36 yI yL)<|zT (qF jS)<|zZ) ?_
  refine jE ⟨_,(kV (cs:=(bx (jJ (kM.mk false [])))) (d:=(jJ (kM.mk false []))) rfl rfl jS rfl rfl .nil),?_⟩
  rw[mkI_zero h1];rfl
 ·replace h1:=ne_of_beq_false h1
  refine jC<|jA<|kx [] [(0,some (bx (jJ (kM.mk neg (ofNat (val l))))))] (zM<|zM<|zE (oBd pl36 yI yL)<|zT (qF jS)<|zZ) ?_
  refine jE ⟨_,(kV (cs:=(bx (jJ (kM.mk neg (ofNat (val l)))))) (d:=(jJ (kM.mk neg (ofNat (val l))))) rfl rfl jS rfl rfl .nil),?_⟩
  rw[mkI_pos h1];rfl
theorem t_word(l:List Nat)(hd:Dig l):jR Tryz.prog 81 [(.sl 121 1 (List.map jB l))] (.tup [(.val (.int .u64 ((((xS l):Nat):Int)))),(.val (.bool ((gR l))))]):=by
 refine jH Tryz.func81 rfl cb81 rfl ?_
 show qS _ _ _ _ ⟨[(0,(vl 121 1 jB l))],[]⟩
 refine jA<|kx [(2,(zG 0)),(3,(vb false))] [] (zM<|zM<|zZ) ?_
 refine jA<|jA<|kx [(9,(vb (decide (2<((l.length:Nat):Int)))))] [] (zM<|zE (yU kC)<|zE gF<|zZ) ?_
 refine jG (b:=decide (2<((l.length:Nat):Int))) rfl (fun h1=>?_) (fun h1=>?_)
 ·replace h1:=vM h1
  refine jA<|kx [(2,(zG 0)),(3,(vb false))] [] (zM<|zM<|zZ) ?_
  refine jE ⟨_,(.tmp (d:=(.val (.int .u64 (0)))) rfl (.tmp (d:=(.val (.bool (false)))) rfl .nil)),?_⟩
  rw[show xS l=0 from if_neg (by omega),show gR l=false from decide_eq_false (by omega)];rfl
 ·replace h1:=vK h1
  have h2:l.length≤2:=by omega
  refine jC<|jA<|kx [(4,(.ref 0 0))] [(0,some (bx (.val (.int .u64 (0)))))] (zN (uX 0 ze126 zo126)<|zT (qF sh126)<|zZ) ?_
  refine jA<|pwp_backL backs cb109 rfl 5 jB l 0 (fun n=>⟨[(2,(zG 0)),(3,(vb false)),(4,(.ref 0 0))],[(0,some (bx (.val (.int .u64 (((n:Nat):Int))))))]⟩) (fun (j:Nat) n=>n=val (l.drop (l.length-j))) 0 rfl rfl rfl rfl rfl rfl rfl rfl rfl rfl rfl rfl (fun _=>rfl) (fun _=>rfl) wk (by simp [val]) (by omega) ?_ ?_
  ·rintro rl j n hj hn
   have hw:=word_bound hd hj h2
   rw[← hn] at hw
   have hg:=hd.getD (l.length-1-j)
   refine kx [(6,(cV (l.getD (l.length-1-j) 0)))] [] (zM<|zZ) ?_
   refine jD<|kx [] [(0,some (bx (.val (.int .u64 (((((n*1000000000)+(l.getD (l.length-1-j) 0)):Nat):Int))))))] (zR (kX sh126)<|zE (oMl (n*1000000000))<|zM<|zE (gM xU xR (l.getD (l.length-1-j) 0))<|zE (qP ((n*1000000000)+(l.getD (l.length-1-j) 0)))<|zT (qF sh126)<|zZ) ?_
   exact ⟨n*1000000000+l.getD (l.length-1-j) 0,wk,(by dsimp only;rw[dZ l j hj,← hn];omega)⟩
  ·rintro n hn
   refine jA<|kx [(2,(zG n)),(3,(vb true))] [] (zR (kX sh126)<|zM<|zM<|zZ) ?_
   refine jE ⟨_,(.tmp (d:=(.val (.int .u64 (((n:Nat):Int))))) rfl (.tmp (d:=(.val (.bool (true)))) rfl .nil)),?_⟩
   rw[show xS l=n by rw[hn,Nat.sub_self,List.drop_zero];exact if_pos h2,show gR l=true from decide_eq_true h2];rfl
theorem t_compare(a b:List Nat)(ha:yB a)(hb:yB b)(hla:a.length≤17592186044416):jR Tryz.prog 80 [(.sl 121 1 (List.map jB a)),(.sl 121 1 (List.map jB b))] (.val (.int .i64 ((uP ((val a:Nat):Int) ((val b:Nat):Int))))):=by
 refine jH Tryz.func80 rfl cb80 rfl ?_
 show qS _ _ _ _ ⟨[(0,(vl 121 1 jB a)),(1,(vl 121 1 jB b))],[]⟩
 refine jA<|kx [(3,(.ref 0 0)),(4,(.ref 1 0))] [(0,some (bx (.sl 121 1 (List.map jB b)))),(1,some (bx (.val (.int .i64 (0)))))] (zN (vL 0)<|zN (uX 1 ze3 zo3)<|zZ) ?_
 refine jA<|jA<|kx [(11,(vb (((a.length:Nat):Int) != ((b.length:Nat):Int))))] [] (zM<|zE (yU kC)<|zR (kX xX)<|zE (yU kC)<|zE oNe<|zZ) ?_
 refine jG rfl (fun h1=>?_) (fun h1=>?_)
 ·replace h1:=bne_iff_ne.1 h1
  refine jA<|kx [] [(1,some (bx (.val (.int .i64 ((uP ((a.length:Nat):Int) ((b.length:Nat):Int)))))))] (zM<|zE (yU kC)<|zR (kX xX)<|zE (yU kC)<|zE (jX (t_cmp_int ((a.length:Nat):Int) ((b.length:Nat):Int)))<|zT (qF qC)<|zZ) ?_
  refine jE ⟨_,(res_1 (cs:=(bx (.val (.int .i64 ((uP ((a.length:Nat):Int) ((b.length:Nat):Int))))))) (d:=(.val (.int .i64 ((uP ((a.length:Nat):Int) ((b.length:Nat):Int)))))) rfl rfl qC rfl rfl .nil),?_⟩
  rw[← cmpI_len ha hb h1];rfl
 ·replace h1:=bne_eq_false_iff_eq.1 h1
  have hl:a.length=b.length:=by omega
  refine jC<|jA<|pwp_backL backs cb109 rfl 5 jB a 0 (fun _=>⟨[(3,(.ref 0 0)),(4,(.ref 1 0))],[(0,some (bx (.sl 121 1 (List.map jB b)))),(1,some (bx (.val (.int .i64 (0)))))]⟩) (fun (j:Nat) _=>val (a.drop (a.length-j))=val (b.drop (a.length-j))) () rfl rfl rfl rfl rfl rfl rfl rfl rfl rfl rfl rfl (fun _=>rfl) (fun _=>rfl) wk (by rw[Nat.sub_zero,List.drop_length,hl,List.drop_length]) (by omega) ?_ ?_
  ·rintro rl j ⟨⟩ hj he
   refine jA<|kx [(5,(jL (a.length-1-j)))] [] (zM<|zZ) ?_
   refine kx [(6,(cV (a.getD (a.length-1-j) 0)))] [] (zM<|zZ) ?_
   refine jD<|jA<|kx [(26,(vb ((((a.getD (a.length-1-j) 0):Nat):Int) != (((b.getD (a.length-1-j) 0):Nat):Int))))] [] (zM<|zR (kX xX)<|zM<|zE (nG kC (a.length-1-j) (0:Nat))<|zE (xE qJ)<|zE oNe<|zZ) ?_
   refine jG rfl (fun h2=>?_) (fun h2=>?_)
   ·replace h2:=bne_iff_ne.1 h2
    refine jA<|kx [] [(1,some (bx (.val (.int .i64 ((uP (((a.getD (a.length-1-j) 0):Nat):Int) (((b.getD (a.length-1-j) 0):Nat):Int)))))))] (zM<|zR (kX xX)<|zM<|zE (nG kC (a.length-1-j) (0:Nat))<|zE (xE qJ)<|zE (jX (t_cmp_uint32 (a.getD (a.length-1-j) 0) (b.getD (a.length-1-j) 0)))<|zT (qF qC)<|zZ) ?_
    refine jE ⟨⟨[(4,(.ref 1 0))],[(1,some (bx (.val (.int .i64 ((uP (((a.getD (a.length-1-j) 0):Nat):Int) (((b.getD (a.length-1-j) 0):Nat):Int)))))))]⟩,wk,keys_of rfl,⟨_,(res_1 (cs:=(bx (.val (.int .i64 ((uP (((a.getD (a.length-1-j) 0):Nat):Int) (((b.getD (a.length-1-j) 0):Nat):Int))))))) (d:=(.val (.int .i64 ((uP (((a.getD (a.length-1-j) 0):Nat):Int) (((b.getD (a.length-1-j) 0):Nat):Int)))))) rfl rfl qC rfl rfl .nil),?_⟩⟩
    rw[← cmpI_top ha.1 hb.1 hl hj he h2];rfl
   ·replace h2:=bne_eq_false_iff_eq.1 h2
    refine jC ?_
    exact ⟨(),wk,(by dsimp only;have e1:=dZ a j hj;have e2:=dZ b j (by omega);rw[← hl] at e2;rw[e1,e2,he];omega)⟩
  ·rintro ⟨⟩ he
   refine jA<|kx [] [(1,some (bx (.val (.int .i64 (0)))))] (zT (qF qC)<|zZ) ?_
   refine jE ⟨_,(res_1 (cs:=(bx (.val (.int .i64 (0))))) (d:=(.val (.int .i64 (0)))) rfl rfl qC rfl rfl .nil),?_⟩
   rw[cmpI_same (by rw[Nat.sub_self,List.drop_zero,List.drop_zero] at he;exact he)];rfl
theorem t_split(n:Nat)(hn:n<18446744073709551616):jR Tryz.prog 83 [(.val (.int .u64 (((n:Nat):Int))))] (.sl 121 1 (List.map jB (ofNat n))):=by
 refine jH Tryz.func83 rfl cb83 rfl ?_
 show qS _ _ _ _ ⟨[(0,(zG n))],[]⟩
 refine jA<|kx [] [] (zE (oNl 121 1)<|zZ) ?_
 refine jA<|kx [(3,(.own 0 121 1 0))] [(0,some (bm jB []))] (zO 0 121 1<|zZ) ?_
 refine jA<|jD<|kP (α:=Nat × List Nat) (fun (m,g)=>⟨[(0,(zG m)),(3,(.own 0 121 1 g.length))],[(0,some (bm jB g))]⟩) (fun (m,g)=>m≤n∧g++ofNat m=ofNat n) (fun (m,g)=>m) (n,[]) wk ⟨Nat.le_refl _,by rw[List.nil_append]⟩ ?_
 rintro ⟨m,g⟩ ⟨hm,hg⟩
 have hl:=split_len hg hn
 refine jA<|jA<|kx [(5,(vb (decide (0<((m:Nat):Int)))))] [] (zM<|zE gF<|zZ) ?_
 refine jG (b:=decide (0<((m:Nat):Int))) rfl (fun h1=>?_) (fun h1=>?_)
 ·replace h1:=vM h1
  refine jC<|jA<|jD<|kf [(3,(.own 0 121 1 ((g++[(m % 1000000000)]).length)))] [(0,some (bm jB (g++[(m % 1000000000)])))] (zM<|zM<|zE (oRe (m % 1000000000))<|zE (gM yN yE (m % 1000000000))<|zE (oBs kC vC xV)<|zA jB g [(m % 1000000000)] rfl kC vC gH<|zM<|zF) ?_
  refine kx [(0,(zG (m / 1000000000)))] [] (zM<|zE (oQu (m / 1000000000))<|zM<|zZ) ?_
  exact ⟨(m / 1000000000,g++[m % 1000000000]),wk,⟨by omega,split_step hg h1⟩,(by first|omega|(dsimp only;omega))⟩
 ·replace h1:=vK h1
  refine jV<|jA<|kE (vP (t:=3) (k:=0) (es:=List.map jB g) rfl rfl (qZ _ _ (fun _=>rfl)) (uR _ _ rfl) (uS _ _ (fun _=>rfl) rfl)) ?_
  refine kx [(2,(vl 121 1 jB g))] [] (zM<|zM<|zZ) ?_
  refine jE ⟨_,(.tmp (d:=(.sl 121 1 (List.map jB g))) rfl .nil),?_⟩
  rw[split_end hg h1];rfl
theorem cb34:callB Tryz.prog 34=true:=by kernel_rfl
theorem cb76:callB Tryz.prog 76=true:=by kernel_rfl
theorem cb77:callB Tryz.prog 77=true:=by kernel_rfl
theorem cb78:callB Tryz.prog 78=true:=by kernel_rfl
theorem cb85:callB Tryz.prog 85=true:=by kernel_rfl
theorem cb107:callB Tryz.prog 107=true:=by kernel_rfl
theorem vN:uA Tryz.prog 36 0=some 0:=by kernel_rfl
theorem xC:uA Tryz.prog 36 1=some 1:=by kernel_rfl
theorem sh4:kZ Tryz.prog 4=some (false,1):=by kernel_rfl
theorem t_big(a:Nat):jR Tryz.prog 77 [(.val (.int .u32 (((a:Nat):Int))))] (.val (.bool ((decide (1000000000≤((a:Nat):Int)))))):=by
 refine jH Tryz.func77 rfl cb77 rfl ?_
 show qS _ _ _ _ ⟨[(0,(cV a))],[]⟩
 refine jA<|kx [] [] (zM<|zZ) ?_
 refine jA<|kx [(2,(vb (decide (1000000000≤((a:Nat):Int)))))] [] (zM<|zE oGe<|zM<|zZ) ?_
 refine jE ⟨_,(.tmp (d:=(.val (.bool (decide (1000000000≤((a:Nat):Int)))))) rfl .nil),?_⟩
 rfl
theorem t_index(l:List Nat)(hb:l.length≤17592186044416):jR Tryz.prog 107 [(.sl 121 1 (List.map jB l)),(.val (.func (.func 77) #[] #[]))] (.val (.int .i64 ((vZ l)))):=by
 refine jH Tryz.func107 rfl cb107 rfl ?_
 show qS _ _ _ _ ⟨[(0,(vl 121 1 jB l)),(1,(.d (.val (.func (.func 77) #[] #[]))))],[]⟩
 refine jA<|kx [] [] (zM<|zZ) ?_
 refine jA<|jA<|kx [(7,(jL l.length)),(8,(jL 0))] [] (zM<|zE (yU kC)<|zM<|zZ) ?_
 refine jD<|kP (α:=Nat) (fun i=>⟨[(0,(vl 121 1 jB l)),(1,(.d (.val (.func (.func 77) #[] #[])))),(7,(jL l.length)),(8,(jL i))],[]⟩) (fun i=>i≤l.length∧Dig (l.take i)) (fun i=>l.length-i) 0 wk ⟨Nat.zero_le _,yG⟩ ?_
 rintro i ⟨hi,hd⟩
 refine jA<|kx [(9,(vb (decide (((i:Nat):Int)<((l.length:Nat):Int)))))] [] (zE uE<|zZ) ?_
 refine jA<|jG rfl (fun h1=>?_) (fun h1=>?_)
 ·replace h1:=vM h1
  refine jC<|jA<|jD<|jA<|kx [(5,(jL i))] [] (zM<|zM<|zZ) ?_
  refine jA<|kx [(16,(vb (decide (1000000000≤(((l.getD i 0):Nat):Int)))))] [] (zM<|zM<|zM<|zE (nG kC i (0:Nat))<|zE (xE qJ)<|zE (jX (t_big (l.getD i 0)))<|zZ) ?_
  refine jG rfl (fun h2=>?_) (fun h2=>?_)
  ·replace h2:=vM h2
   refine jA<|kx [(4,(jL i))] [] (zM<|zM<|zZ) ?_
   refine jE ⟨_,(.tmp (d:=(.val (.int .i64 (((i:Nat):Int))))) rfl .nil),?_⟩
   rw[firstBig_at (by omega) hd (by omega)];rfl
  ·replace h2:=vK h2
   refine jC<|kx [(8,(jL (i+1)))] [] (zE (qP (i+1))<|zM<|zZ) ?_
   exact ⟨(i+1),wk,⟨by omega,dig_take_succ (by omega) hd (by omega)⟩,(by omega)⟩
 ·replace h1:=vK h1
  refine jV<|jA<|kx [(4,(vi (-1)))] [] (zM<|zZ) ?_
  refine jE ⟨_,(.tmp (d:=(.val (.int .i64 (-1)))) rfl .nil),?_⟩
  rw[eX (by rw[List.take_of_length_le (by omega)] at hd;exact hd)];rfl
theorem t_contains(l:List Nat)(hb:l.length≤17592186044416):jR Tryz.prog 76 [(.sl 121 1 (List.map jB l)),(.val (.func (.func 77) #[] #[]))] (.val (.bool ((decide (0≤vZ l))))):=by
 refine jH Tryz.func76 rfl cb76 rfl ?_
 show qS _ _ _ _ ⟨[(0,(vl 121 1 jB l)),(1,(.d (.val (.func (.func 77) #[] #[]))))],[]⟩
 refine jA<|kx [] [] (zM<|zZ) ?_
 refine jA<|kx [(4,(vb (decide (0≤(vZ l)))))] [] (zM<|zM<|zE (jX (t_index l (by omega)))<|zE oGe<|zM<|zZ) ?_
 refine jE ⟨_,(.tmp (d:=(.val (.bool (decide (0≤(vZ l)))))) rfl .nil),?_⟩
 rfl
theorem t_valid(x:kM)(hb:x.gs.length≤17592186044416):jR Tryz.prog 34 [(jJ x)] (.val (.bool ((qY x)))):=by
 refine jH Tryz.func34 rfl cb34 rfl ?_
 show qS _ _ _ _ ⟨[(0,(.d (jJ x)))],[]⟩
 refine jA<|kx [(1,(.ref 0 0))] [(0,some (bx (jJ x)))] (zN (vL 0)<|zM<|zZ) ?_
 refine jA<|kx [(3,(jL x.gs.length))] [] (zE (kJ xC)<|zR (kX xX)<|zE (yU kC)<|zM<|zZ) ?_
 refine jA<|jA<|kx [(8,(vb (((x.gs.length:Nat):Int) == 0)))] [] (zM<|zE oEq<|zZ) ?_
 refine jG (b:=(((x.gs.length:Nat):Int) == 0)) rfl (fun h1=>?_) (fun h1=>?_)
 ·replace h1:=eq_of_beq h1
  refine jA<|kx [(2,(vb (!x.neg)))] [] (zE (kJ vN)<|zR (kX sh4)<|zE oNt<|zM<|zZ) ?_
  refine jE ⟨_,(.tmp (d:=(.val (.bool (!x.neg)))) rfl .nil),?_⟩
  rw[show qY x=!x.neg from if_pos h1];rfl
 ·replace h1:=ne_of_beq_false h1
  refine jC<|jA<|kx [(2,(vb (((((x.gs.getD (x.gs.length-1) 0):Nat):Int) != 0)&&!(decide (0≤vZ x.gs)))))] [] ?_ ?_
  ·refine zE (kJ xC)<|zR (kX xX)<|zM<|zE (cO (x.gs.length-1))<|zE (nG kC (x.gs.length-1) (0:Nat))<|zE (xE qJ)<|zE oNe<|zE (oV (vb ((((x.gs.getD (x.gs.length-1) 0):Nat):Int) != 0)) (kT (by kernel_rfl)))<|?_
   rcases hb2:((((x.gs.getD (x.gs.length-1) 0):Nat):Int) != 0) with _ | _
   ·replace hb2:=bne_eq_false_iff_eq.1 hb2
    exact zK<|zK<|zK<|zK<|zE cB<|zM<|zZ
   ·replace hb2:=bne_iff_ne.1 hb2
    exact zE (kJ xC)<|zR (kX xX)<|zE (jX (t_contains x.gs (by omega)))<|zE oNt<|zE oPa<|zM<|zZ
  refine jE ⟨_,(.tmp (d:=(.val (.bool ((((((x.gs.getD (x.gs.length-1) 0):Nat):Int) != 0)&&!(decide (0≤vZ x.gs))))))) rfl .nil),?_⟩
  rw[show qY x=_ from if_neg h1];rfl
theorem yJ(x:kM)(hb:x.gs.length≤17592186044416):jR Tryz.prog 78 [(jJ x)] (.sl 121 1 (List.map jB (kF x))):=by
 refine jH Tryz.func78 rfl cb78 rfl ?_
 show qS _ _ _ _ ⟨[(0,(.d (jJ x)))],[]⟩
 refine jA<|kx [(1,(.ref 0 0))] [(0,some (bx (jJ x)))] (zN (vL 0)<|zE (oNl 121 1)<|zZ) ?_
 refine jA<|jA<|kx [(5,(vb (!(qY x))))] [] (zR (kI jS)<|zE (jX (t_valid x (by omega)))<|zE oNt<|zZ) ?_
 refine jG (b:=!(qY x)) rfl (fun h1=>?_) (fun h1=>?_)
 ·refine jA<|kx [(2,(vl 121 1 jB []))] [] (zE (oNl 121 1)<|zZ) ?_
  refine jE ⟨_,(.tmp (d:=(.sl 121 1 (List.map jB []))) rfl .nil),?_⟩
  rw[show kF x=[] from if_neg (by simpa using h1)];rfl
 ·refine jC<|jA<|kx [(2,(vl 121 1 jB x.gs))] [] (zE (kJ xC)<|zR (kX xX)<|zM<|zZ) ?_
  refine jE ⟨_,(.tmp (d:=(.sl 121 1 (List.map jB x.gs))) rfl .nil),?_⟩
  rw[show kF x=x.gs from if_pos (by simpa using h1)];rfl
theorem t_clone(l:List Nat)(hb:l.length≤17592186044416):jR Tryz.prog 85 [(.sl 121 1 (List.map jB l))] (.sl 121 1 (List.map jB l)):=by
 refine jH Tryz.func85 rfl cb85 rfl ?_
 show qS _ _ _ _ ⟨[(0,(vl 121 1 jB l))],[]⟩
 refine jA<|kx [] [] (zE (oNl 121 1)<|zZ) ?_
 refine jA<|jA<|pwp_nilq rfl rfl rfl rfl rfl rfl kC rfl rfl rfl (fun nb hnb=>?_)
 refine jG (b:=nb) rfl (fun h1=>?_) (fun h1=>?_)
 ·refine jA<|kx [(2,(vl 121 1 jB []))] [] (zE (oNl 121 1)<|zZ) ?_
  refine jE ⟨_,(.tmp (d:=(.sl 121 1 (List.map jB []))) rfl .nil),?_⟩
  rw[List.map_eq_nil_iff.1 (hnb h1)];rfl
 ·refine jC<|jA<|kf [(2,(.own 0 121 1 (([]++l).length)))] [(0,some (bm jB ([]++l)))] (zN (oBo 0 kC vC xV)<|zM<|zA jB [] l rfl kC vC gH<|zM<|zF) ?_
  refine kE (vP (t:=2) (k:=0) (es:=List.map jB ([]++l)) rfl rfl (qZ _ _ (fun _=>rfl)) (uR _ _ rfl) (uS _ _ (fun _=>rfl) rfl)) ?_
  refine jE ⟨_,(.tmp (d:=(.sl 121 1 (List.map jB ([]++l)))) rfl .nil),?_⟩
  rfl
end Go.Proofs.YteimogfidbkpnaaGreat
