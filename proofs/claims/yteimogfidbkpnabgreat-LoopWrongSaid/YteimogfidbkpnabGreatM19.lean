/- Part 19 of a proof: rules, plain facts, and functions walked. -/
import Derived.Test.YteimogfidbkpnabGreatM18
import Derived.Test.YteimogfidbkpnabGreatM10
import Derived.Test.YteimogfidbkpnabGreatM11
import Derived.Test.YteimogfidbkpnabGreatM9
set_option linter.all false
set_option maxRecDepth 4000
namespace Go.Proofs.YteimogfidbkpnabGreat
open Go.Fid
theorem eZ:arrB Tryz.prog 101=some (4,3,1):=by kernel_rfl
theorem cb5:callB Tryz.prog 5=true:=by kernel_rfl
theorem cb20:callB Tryz.prog 20=true:=by kernel_rfl
theorem cb42:callB Tryz.prog 42=true:=by kernel_rfl
theorem cb66:callB Tryz.prog 66=true:=by kernel_rfl
theorem vF:uK Tryz.prog 37=some (3,1):=by kernel_rfl
theorem eqs24:eqsB Tryz.prog 24=some 4:=by kernel_rfl
theorem vO:yO Tryz.prog 24 0=some 0:=by kernel_rfl
theorem vP:yO Tryz.prog 24 1=some 1:=by kernel_rfl
theorem vM:yO Tryz.prog 24 2=some 2:=by kernel_rfl
theorem vN:yO Tryz.prog 24 3=some 3:=by kernel_rfl
theorem cB:fU Tryz.prog 24=some [(0,1),(1,1),(2,1),(3,1)]:=by kernel_rfl
theorem kL:kS Tryz.prog 24=some (true,4):=by kernel_rfl
theorem sh101:kS Tryz.prog 101=some (true,4):=by kernel_rfl
theorem vK:uZ Tryz.prog 24=some [.int .i64 0,.int .i64 0,.int .i64 0,.int .i64 0]:=by kernel_rfl
theorem ze101:uZ Tryz.prog 101=some [.int .i64 0,.int .i64 0,.int .i64 0,.int .i64 0]:=by kernel_rfl
theorem vL:mW [.int .i64 0,.int .i64 0,.int .i64 0,.int .i64 0] [.val (.int .i64 0),.val (.int .i64 0),.val (.int .i64 0),.val (.int .i64 0)]:=by simp [mW,Value.oneCell']
theorem zo101:mW [.int .i64 0,.int .i64 0,.int .i64 0,.int .i64 0] [.val (.int .i64 0),.val (.int .i64 0),.val (.int .i64 0),.val (.int .i64 0)]:=by simp [mW,Value.oneCell']
theorem q_parts(a b c d:Int):kB Tryz.prog 66 [(jF (jB.mk a b c d))] (xX (A4.mk a b c d)):=by
 refine jK Tryz.func66 rfl cb66 rfl ?_
 show qU _ _ _ _ ⟨[(0,(.d (jF (jB.mk a b c d))))],[]⟩
 refine jA<|kx [(1,(.ref 0 0)),(2,(.ref 1 0))] [(0,some (bx (jF (jB.mk a b c d)))),(1,some (bx (xX (A4.mk 0 0 0 0))))] (zN (yC 0)<|zN (uQ 1 ze101 zo101)<|zZ) ?_
 refine jA<|kx [] [(1,some (bx (xX (A4.mk a b c d))))] (zE (kV vO)<|zR (kP qF)<|zE (kV vP)<|zR (kP qF)<|zE (kV vM)<|zR (kP qF)<|zE (kV vN)<|zR (kP qF)<|zE (oBf eZ ze101 zo101)<|zT (qA sh101)<|zZ) ?_
 refine jI ⟨_,(kQ (cs:=(bx (xX (A4.mk a b c d)))) (d:=(xX (A4.mk a b c d))) rfl rfl sh101 rfl rfl .nil),?_⟩
 rfl
theorem qs_list(a b c d:Int):kB Tryz.prog 20 [(jF (jB.mk a b c d))] (.sl 3 1 (List.map jO [a,b,c,d])):=by
 refine jK Tryz.func20 rfl cb20 rfl ?_
 show qU _ _ _ _ ⟨[(0,(.d (jF (jB.mk a b c d))))],[]⟩
 refine jA<|kx [(1,(.ref 0 0))] [(0,some (bx (jF (jB.mk a b c d))))] (zN (yC 0)<|zE (oNl 3 1)<|zZ) ?_
 refine jA<|kx [(2,(vl 3 1 jO [a,b,c,d]))] [] (zE (kV vO)<|zR (kP qF)<|zE (kV vP)<|zR (kP qF)<|zE (kV vM)<|zR (kP qF)<|zE (kV vN)<|zR (kP qF)<|zE (oBs vF ze3 zo3)<|zM<|zZ) ?_
 refine jI ⟨_,(.tmp (d:=(.sl 3 1 (List.map jO [a,b,c,d]))) rfl .nil),?_⟩
 rfl
theorem q_chk(a b c d:Int):kB Tryz.prog 42 [(jF (jB.mk a b c d))] (.val (.int .i64 ((((gU a b c d):Nat):Int)))):=by
 refine jK Tryz.func42 rfl cb42 rfl ?_
 show qU _ _ _ _ ⟨[(0,(.d (jF (jB.mk a b c d))))],[]⟩
 refine jA<|kx [(1,(.ref 0 0))] [(0,some (bx (jF (jB.mk a b c d))))] (zN (yC 0)<|zM<|zZ) ?_
 refine jA<|jA<|kx [(7,(vb (decide ([a,b,c,d]=[0,0,0,0]))))] [] (zR (kY kL)<|zE (eQ cB vK vL)<|zE (oEs eqs24 .i64 [a,b,c,d] [0,0,0,0])<|zZ) ?_
 refine jG (b:=(decide ([a,b,c,d]=[0,0,0,0]))) rfl (fun h1=>?_) (fun h1=>?_)
 ·replace h1:=uW h1
  refine jA<|kx [(2,(jT 1))] [] (zM<|zZ) ?_
  refine jI ⟨_,(.tmp (d:=(.val (.int .i64 (((1:Nat):Int))))) rfl .nil),?_⟩
  rw[rotC_z (by simp_all)];rfl
 ·replace h1:=uY h1
  refine jE<|jA<|jA<|kx [(9,(.d (xX (A4.mk a b c d)))),(10,(jT 0))] [] (zR (kY kL)<|zE (kE (q_parts a b c d))<|zM<|zZ) ?_
  refine jH<|yM 20 ?_
  refine gH<|jA<|kx [(11,(vb true))] [] (zE (xR true uM)<|zZ) ?_
  refine jA<|qI ?_
  refine jE<|jA<|jH<|jA<|kx [(4,(vi a))] [] (zE (oXa eZ qF (fun _=>rfl) 0)<|zM<|zZ) ?_
  refine jA<|kx [(18,(vb (decide (a < -1048576)||decide (((1048576:Nat):Int)<a))))] [] ?_ ?_
  ·refine zM<|zE uM<|zE (oV (vb (decide (a < -1048576))) (kZ (by kernel_rfl)))<|?_
   rcases hb2:(decide (a < -1048576)) with _ | _
   ·replace hb2:=uY hb2
    exact zM<|zE cK<|zE cF<|zZ
   ·replace hb2:=uW hb2
    exact zK<|zK<|zE xC<|zZ
  refine jG rfl (fun h3=>?_) (fun h3=>?_)
  ·refine jA<|kx [(2,(jT 3))] [] (zM<|zZ) ?_
   refine jI ⟨_,(.tmp (d:=(.val (.int .i64 (((3:Nat):Int))))) rfl .nil),?_⟩
   first | (rw[eM (by simp_all) (by first | (simp_all;done) | (simp_all;omega))];rfl) | (rw[dN (by simp_all) (by first | (simp_all;done) | (simp_all;omega))];rfl)
  ·refine jE<|kx [(10,(jT 1))] [] (zE (qS 1 (hr:=by decide))<|zM<|zZ) ?_
   refine kH (kK.refl _) ?_
   refine jA<|kx [(11,(vb true))] [] (zE (xR true uM)<|zZ) ?_
   refine jA<|qI ?_
   refine jE<|jA<|jH<|jA<|kx [(4,(vi b))] [] (zE (oXa eZ qF (fun _=>rfl) 1)<|zM<|zZ) ?_
   refine jA<|kx [(18,(vb (decide (b < -1048576)||decide (((1048576:Nat):Int)<b))))] [] ?_ ?_
   ·refine zM<|zE uM<|zE (oV (vb (decide (b < -1048576))) (kZ (by kernel_rfl)))<|?_
    rcases hb4:(decide (b < -1048576)) with _ | _
    ·replace hb4:=uY hb4
     exact zM<|zE cK<|zE cF<|zZ
    ·replace hb4:=uW hb4
     exact zK<|zK<|zE xC<|zZ
   refine jG rfl (fun h5=>?_) (fun h5=>?_)
   ·refine jA<|kx [(2,(jT 3))] [] (zM<|zZ) ?_
    refine jI ⟨_,(.tmp (d:=(.val (.int .i64 (((3:Nat):Int))))) rfl .nil),?_⟩
    first | (rw[eM (by simp_all) (by first | (simp_all;done) | (simp_all;omega))];rfl) | (rw[dN (by simp_all) (by first | (simp_all;done) | (simp_all;omega))];rfl)
   ·refine jE<|kx [(10,(jT 2))] [] (zE (qS 2 (hr:=by decide))<|zM<|zZ) ?_
    refine kH (kK.refl _) ?_
    refine jA<|kx [(11,(vb true))] [] (zE (xR true uM)<|zZ) ?_
    refine jA<|qI ?_
    refine jE<|jA<|jH<|jA<|kx [(4,(vi c))] [] (zE (oXa eZ qF (fun _=>rfl) 2)<|zM<|zZ) ?_
    refine jA<|kx [(18,(vb (decide (c < -1048576)||decide (((1048576:Nat):Int)<c))))] [] ?_ ?_
    ·refine zM<|zE uM<|zE (oV (vb (decide (c < -1048576))) (kZ (by kernel_rfl)))<|?_
     rcases hb6:(decide (c < -1048576)) with _ | _
     ·replace hb6:=uY hb6
      exact zM<|zE cK<|zE cF<|zZ
     ·replace hb6:=uW hb6
      exact zK<|zK<|zE xC<|zZ
    refine jG rfl (fun h7=>?_) (fun h7=>?_)
    ·refine jA<|kX (wk (l:=[(9,(.d (xX (A4.mk a b c d)))),(10,(jT 2)),(18,(vb (decide (c < -1048576)||decide (((1048576:Nat):Int)<c))))]) (b:=[])) ?_
     refine kx [(2,(jT 3))] [] (zM<|zZ) ?_
     refine jI ⟨_,(.tmp (d:=(.val (.int .i64 (((3:Nat):Int))))) rfl .nil),?_⟩
     first | (rw[eM (by simp_all) (by first | (simp_all;done) | (simp_all;omega))];rfl) | (rw[dN (by simp_all) (by first | (simp_all;done) | (simp_all;omega))];rfl)
    ·refine jE<|kX (wk (l:=[(9,(.d (xX (A4.mk a b c d)))),(10,(jT 2)),(18,(vb (decide (c < -1048576)||decide (((1048576:Nat):Int)<c))))]) (b:=[])) ?_
     refine kx [(10,(jT 3))] [] (zE (qS 3 (hr:=by decide))<|zM<|zZ) ?_
     refine kH (kK.refl _) ?_
     refine jA<|kx [(11,(vb true))] [] (zE (xR true uM)<|zZ) ?_
     refine jA<|qI ?_
     refine jE<|jA<|jH<|jA<|kx [(4,(vi d))] [] (zE (oXa eZ qF (fun _=>rfl) 3)<|zM<|zZ) ?_
     refine jA<|kx [(18,(vb (decide (d < -1048576)||decide (((1048576:Nat):Int)<d))))] [] ?_ ?_
     ·refine zM<|zE uM<|zE (oV (vb (decide (d < -1048576))) (kZ (by kernel_rfl)))<|?_
      rcases hb8:(decide (d < -1048576)) with _ | _
      ·replace hb8:=uY hb8
       exact zM<|zE cK<|zE cF<|zZ
      ·replace hb8:=uW hb8
       exact zK<|zK<|zE xC<|zZ
     refine jG rfl (fun h9=>?_) (fun h9=>?_)
     ·refine jA<|kx [(2,(jT 3))] [] (zM<|zZ) ?_
      refine jI ⟨_,(.tmp (d:=(.val (.int .i64 (((3:Nat):Int))))) rfl .nil),?_⟩
      first | (rw[eM (by simp_all) (by first | (simp_all;done) | (simp_all;omega))];rfl) | (rw[dN (by simp_all) (by first | (simp_all;done) | (simp_all;omega))];rfl)
     ·refine jE<|kx [(10,(jT 4))] [] (zE (qS 4 (hr:=by decide))<|zM<|zZ) ?_
      refine kH (kK.refl _) ?_
      refine jA<|kx [(11,(vb false))] [] (zE (xR false uM)<|zZ) ?_
      refine jA<|qZ ?_
      refine jW<|jA<|kx [(2,(jT 0))] [] (zM<|zZ) ?_
      refine jI ⟨_,(.tmp (d:=(.val (.int .i64 (((0:Nat):Int))))) rfl .nil),?_⟩
      first | (rw[eM (by simp_all) (by first | (simp_all;done) | (simp_all;omega))];rfl) | (rw[dN (by simp_all) (by first | (simp_all;done) | (simp_all;omega))];rfl)
theorem qs_chk(a b c d:Int):kB Tryz.prog 5 [(jF (jB.mk a b c d))] (.val (.int .i64 ((((gU a b c d):Nat):Int)))):=by
 refine jK Tryz.func5 rfl cb5 rfl ?_
 show qU _ _ _ _ ⟨[(0,(.d (jF (jB.mk a b c d))))],[]⟩
 refine jA<|kx [(1,(.ref 0 0))] [(0,some (bx (jF (jB.mk a b c d))))] (zN (yC 0)<|zM<|zZ) ?_
 refine jA<|jA<|kx [(22,(vb ((((a == ((0:Nat):Int))&&(b == ((0:Nat):Int)))&&(c == ((0:Nat):Int)))&&(d == ((0:Nat):Int)))))] [] ?_ ?_
 ·refine zE (kV vO)<|zR (kP qF)<|zE gX<|zE (oV (vb (a == ((0:Nat):Int))) (kZ (by kernel_rfl)))<|?_
  rcases hb1:(a == ((0:Nat):Int)) with _ | _
  ·replace hb1:=ne_of_beq_false hb1
   exact zK<|zK<|zK<|zE oPf<|zM<|zK<|zK<|zK<|zE oPf<|zM<|zK<|zK<|zK<|zE oPf<|zZ
  ·replace hb1:=eq_of_beq hb1
   refine zE (kV vP)<|zR (kP qF)<|zE gX<|zE oPa<|zE (oV (vb (true&&(b == ((0:Nat):Int)))) (kZ (by kernel_rfl)))<|?_
   rcases hb2:(true&&(b == ((0:Nat):Int))) with _ | _
   ·exact zK<|zK<|zK<|zE oPf<|zM<|zK<|zK<|zK<|zE oPf<|zZ
   ·refine zE (kV vM)<|zR (kP qF)<|zE gX<|zE oPa<|zE (oV (vb (true&&(c == ((0:Nat):Int)))) (kZ (by kernel_rfl)))<|?_
    rcases hb3:(true&&(c == ((0:Nat):Int))) with _ | _
    ·exact zK<|zK<|zK<|zE oPf<|zZ
    ·exact zE (kV vN)<|zR (kP qF)<|zE gX<|zE oPa<|zZ
 refine jG rfl (fun h4=>?_) (fun h4=>?_)
 ·refine jA<|kx [(2,(jT 1))] [] (zM<|zZ) ?_
  refine jI ⟨_,(.tmp (d:=(.val (.int .i64 (((1:Nat):Int))))) rfl .nil),?_⟩
  rw[rotC_z (by simp_all)];rfl
 ·refine jE<|jA<|kx [(3,(vl 3 1 jO [a,b,c,d]))] [] (zR (kY kL)<|zE (kE (qs_list a b c d))<|zM<|zZ) ?_
  refine jA<|jA<|kx [(4,(jT 0))] [] (zM<|zZ) ?_
  refine jH<|yM 20 ?_
  refine gH<|jA<|jA<|kx [(26,(vb true))] [] (zM<|zE (xR true uM)<|zZ) ?_
  refine qI ?_
  refine jE<|jA<|jH<|jA<|kx [(40,(vb (decide (((1048576:Nat):Int)<a)||decide (a < -1048576))))] [] ?_ ?_
  ·refine zM<|zM<|zE (oXs vF 0)<|zE (nG qF)<|zE cK<|zE (oV (vb (decide (((1048576:Nat):Int)<a))) (kZ (by kernel_rfl)))<|?_
   rcases hb5:(decide (((1048576:Nat):Int)<a)) with _ | _
   ·replace hb5:=uY hb5
    exact zM<|zM<|zE (oXs vF 0)<|zE (nG qF)<|zE uM<|zE cF<|zZ
   ·replace hb5:=uW hb5
    exact zK<|zK<|zK<|zK<|zK<|zE xC<|zZ
  refine jG rfl (fun h6=>?_) (fun h6=>?_)
  ·refine jA<|kx [(2,(jT 3))] [] (zM<|zZ) ?_
   refine jI ⟨_,(.tmp (d:=(.val (.int .i64 (((3:Nat):Int))))) rfl .nil),?_⟩
   first | (rw[eM (by simp_all) (by first | (simp_all;done) | (simp_all;omega))];rfl) | (rw[dN (by simp_all) (by first | (simp_all;done) | (simp_all;omega))];rfl)
  ·refine jE<|kx [(4,(jT 1))] [] (zM<|zE (qS 1 (hr:=by decide))<|zM<|zZ) ?_
   refine kH (kK.refl _) ?_
   refine jA<|jA<|kx [(26,(vb true))] [] (zM<|zE (xR true uM)<|zZ) ?_
   refine qI ?_
   refine jE<|jA<|jH<|jA<|kx [(40,(vb (decide (((1048576:Nat):Int)<b)||decide (b < -1048576))))] [] ?_ ?_
   ·refine zM<|zM<|zE (oXs vF 1)<|zE (nG qF)<|zE cK<|zE (oV (vb (decide (((1048576:Nat):Int)<b))) (kZ (by kernel_rfl)))<|?_
    rcases hb7:(decide (((1048576:Nat):Int)<b)) with _ | _
    ·replace hb7:=uY hb7
     exact zM<|zM<|zE (oXs vF 1)<|zE (nG qF)<|zE uM<|zE cF<|zZ
    ·replace hb7:=uW hb7
     exact zK<|zK<|zK<|zK<|zK<|zE xC<|zZ
   refine jG rfl (fun h8=>?_) (fun h8=>?_)
   ·refine jA<|kx [(2,(jT 3))] [] (zM<|zZ) ?_
    refine jI ⟨_,(.tmp (d:=(.val (.int .i64 (((3:Nat):Int))))) rfl .nil),?_⟩
    first | (rw[eM (by simp_all) (by first | (simp_all;done) | (simp_all;omega))];rfl) | (rw[dN (by simp_all) (by first | (simp_all;done) | (simp_all;omega))];rfl)
   ·refine jE<|kx [(4,(jT 2))] [] (zM<|zE (qS 2 (hr:=by decide))<|zM<|zZ) ?_
    refine kH (kK.refl _) ?_
    refine jA<|jA<|kx [(26,(vb true))] [] (zM<|zE (xR true uM)<|zZ) ?_
    refine qI ?_
    refine jE<|jA<|jH<|jA<|kx [(40,(vb (decide (((1048576:Nat):Int)<c)||decide (c < -1048576))))] [] ?_ ?_
    ·refine zM<|zM<|zE (oXs vF 2)<|zE (nG qF)<|zE cK<|zE (oV (vb (decide (((1048576:Nat):Int)<c))) (kZ (by kernel_rfl)))<|?_
     rcases hb9:(decide (((1048576:Nat):Int)<c)) with _ | _
     ·replace hb9:=uY hb9
      exact zM<|zM<|zE (oXs vF 2)<|zE (nG qF)<|zE uM<|zE cF<|zZ
     ·replace hb9:=uW hb9
      exact zK<|zK<|zK<|zK<|zK<|zE xC<|zZ
    refine jG rfl (fun h10=>?_) (fun h10=>?_)
    ·refine jA<|kx [(2,(jT 3))] [] (zM<|zZ) ?_
     refine jI ⟨_,(.tmp (d:=(.val (.int .i64 (((3:Nat):Int))))) rfl .nil),?_⟩
     first | (rw[eM (by simp_all) (by first | (simp_all;done) | (simp_all;omega))];rfl) | (rw[dN (by simp_all) (by first | (simp_all;done) | (simp_all;omega))];rfl)
    ·refine jE<|kx [(4,(jT 3))] [] (zM<|zE (qS 3 (hr:=by decide))<|zM<|zZ) ?_
     refine kH (kK.refl _) ?_
     refine jA<|jA<|kx [(26,(vb true))] [] (zM<|zE (xR true uM)<|zZ) ?_
     refine qI ?_
     refine jE<|jA<|jH<|jA<|kX (wk (l:=[(3,(vl 3 1 jO [a,b,c,d])),(4,(jT 3)),(26,(vb true))]) (b:=[])) ?_
     refine kx [(40,(vb (decide (((1048576:Nat):Int)<d)||decide (d < -1048576))))] [] ?_ ?_
     ·refine zM<|zM<|zE (oXs vF 3)<|zE (nG qF)<|zE cK<|zE (oV (vb (decide (((1048576:Nat):Int)<d))) (kZ (by kernel_rfl)))<|?_
      rcases hb11:(decide (((1048576:Nat):Int)<d)) with _ | _
      ·replace hb11:=uY hb11
       exact zM<|zM<|zE (oXs vF 3)<|zE (nG qF)<|zE uM<|zE cF<|zZ
      ·replace hb11:=uW hb11
       exact zK<|zK<|zK<|zK<|zK<|zE xC<|zZ
     refine jG rfl (fun h12=>?_) (fun h12=>?_)
     ·refine jA<|kx [(2,(jT 3))] [] (zM<|zZ) ?_
      refine jI ⟨_,(.tmp (d:=(.val (.int .i64 (((3:Nat):Int))))) rfl .nil),?_⟩
      first | (rw[eM (by simp_all) (by first | (simp_all;done) | (simp_all;omega))];rfl) | (rw[dN (by simp_all) (by first | (simp_all;done) | (simp_all;omega))];rfl)
     ·refine jE<|kx [(4,(jT 4))] [] (zM<|zE (qS 4 (hr:=by decide))<|zM<|zZ) ?_
      refine kH (kK.refl _) ?_
      refine jA<|jA<|kx [(26,(vb false))] [] (zM<|zE (xR false uM)<|zZ) ?_
      refine qZ ?_
      refine jW<|jA<|kx [(2,(jT 0))] [] (zM<|zZ) ?_
      refine jI ⟨_,(.tmp (d:=(.val (.int .i64 (((0:Nat):Int))))) rfl .nil),?_⟩
      first | (rw[eM (by simp_all) (by first | (simp_all;done) | (simp_all;omega))];rfl) | (rw[dN (by simp_all) (by first | (simp_all;done) | (simp_all;omega))];rfl)
theorem cb57:callB Tryz.prog 57=true:=by kernel_rfl
theorem qr_norm(a b c d:Int)(ha:-1048576≤a∧a≤1048576)(hb:-1048576≤b∧b≤1048576)(hc:-1048576≤c∧c≤1048576)(hd:-1048576≤d∧d≤1048576):kB Tryz.prog 57 [(jF (jB.mk a b c d))] (.val (.int .i64 ((nq a b c d)))):=by
 have saa:=xA ha ha
 have sab:=xA ha hb
 have sac:=xA ha hc
 have sad:=xA ha hd
 have sbb:=xA hb hb
 have sbc:=xA hb hc
 have sbd:=xA hb hd
 have scc:=xA hc hc
 have scd:=xA hc hd
 have sdd:=xA hd hd
 refine jK Tryz.func57 rfl cb57 rfl ?_
 show qU _ _ _ _ ⟨[(0,(.d (jF (jB.mk a b c d))))],[]⟩
 refine jA<|kx [(1,(.ref 0 0))] [(0,some (bx (jF (jB.mk a b c d))))] (zN (yC 0)<|zM<|zZ) ?_
 refine jA<|kx [(2,(vi ((((a*a)+(b*b))+(c*c))+(d*d))))] [] (zE (kV vO)<|zR (kP qF)<|zE (kV vO)<|zR (kP qF)<|zE (eS (a*a) (hr:=by exact (qJ rfl (by simp only[xL];omega) (by simp only[xM];omega))))<|zE (kV vP)<|zR (kP qF)<|zE (kV vP)<|zR (kP qF)<|zE (eS (b*b) (hr:=by exact (qJ rfl (by simp only[xL];omega) (by simp only[xM];omega))))<|zE (zAd ((a*a)+(b*b)) (hr:=by exact (qJ rfl (by simp only[xL];omega) (by simp only[xM];omega))))<|zE (kV vM)<|zR (kP qF)<|zE (kV vM)<|zR (kP qF)<|zE (eS (c*c) (hr:=by exact (qJ rfl (by simp only[xL];omega) (by simp only[xM];omega))))<|zE (zAd (((a*a)+(b*b))+(c*c)) (hr:=by exact (qJ rfl (by simp only[xL];omega) (by simp only[xM];omega))))<|zE (kV vN)<|zR (kP qF)<|zE (kV vN)<|zR (kP qF)<|zE (eS (d*d) (hr:=by exact (qJ rfl (by simp only[xL];omega) (by simp only[xM];omega))))<|zE (zAd ((((a*a)+(b*b))+(c*c))+(d*d)) (hr:=by exact (qJ rfl (by simp only[xL];omega) (by simp only[xM];omega))))<|zM<|zZ) ?_
 refine jI ⟨_,(.tmp (d:=(.val (.int .i64 (((((a*a)+(b*b))+(c*c))+(d*d)))))) rfl .nil),?_⟩
 rfl
end Go.Proofs.YteimogfidbkpnabGreat
namespace Go.Fid
variable {P:Program} {o:Oper} {S:Nat→SV}
end Go.Fid
namespace Go.Fid
open Go.RowKit (Below)
theorem names_get{k:Nat}{cs:List SV}(h:qO k cs=false){i:Nat}{x:SV}(hx:cs[i]?=some x):x.names k=false:=by
 simp only[qO,List.any_eq_false] at h
 simpa using h x (List.mem_of_getElem? hx)
section
variable {P:Program} {o:Oper} {st:PS}
end
section
variable {P:Program} {o:Oper} {S:Nat→SV}
end
section
variable {P:Program} {o:Oper} {S:SL}
end
section
variable {P:Program} {n:Fr} {ops:Array Oper} {K:SL→BS→Prop} {S:SL} {B:BS} {l:List Oper} {o:Oper} {α:Type} {T E t':TypeId} {x y:Operand} {k s m bytes:Nat} {zv:List Value}
variable {news:List Nat} {acc0:List (List Nat × List Nat)}
end
def swN(k k' j:Nat):Nat:=bif Nat.beq j k then k' else j
def SV.sw(k k':Nat):SV→SV
 |.ref j o=>.ref (swN k k' j) o
 |.own j t s n=>.own (swN k k' j) t s n
 |.view j o n=>.view (swN k k' j) o n
 |.clo f ks=>.clo f (ks.map (swN k k'))
 |.pr j t s n x=>.pr (swN k k' j) t s n x
 |.refx j o b=>.refx (swN k k' j) o b
 |.bnd f j o=>.bnd f (swN k k' j) o
 |.ownx j t s n u=>.ownx (swN k k' j) t s n u
 |x=>x
theorem swN_eq(k k':Nat):swN k k' k=k':=by simp [swN]
theorem swN_ne{k k' j:Nat}(h:j≠k):swN k k' j=j:=by
 have:Nat.beq j k=false:=by rw[← Bool.not_eq_true];exact fun e=>h (Nat.eq_of_beq_eq_true e)
 simp [swN,this]
theorem qB.sw{w:World}{D:kU}{β:qE}{k k':Nat}{v:Value}{x:SV}(h:qB w D β v (x.sw k k')):qB w D (fun j=>β (swN k k' j)) v x:=by
 cases x with
 |d x=>exact h
 |ref j o=>exact h
 |own j t s n=>exact h
 |clo f ks=>
  obtain ⟨vs,h1,h2,h3⟩:=h
  exact ⟨vs,h1,by simpa using h2,fun i j hj=>h3 i (swN k k' j) (by rw[List.getElem?_map,hj];rfl)⟩
 |emp=>exact h
 |view j o n=>exact h
 |hob u b ob=>exact h
 |pr j t s n x=>exact h
 |refx j o b=>exact h
 |bnd f j o=>exact h
 |ownx j t s n u=>exact h
 |junk=>trivial
theorem sw_of{k k':Nat}{x:SV}(h:x.names k=false):x.sw k k'=x:=by
 have key:∀ j,Nat.beq k j=false→swN k k' j=j:=fun j hj=>swN_ne (fun e=>by subst e;simp at hj)
 cases x with
 |ref j o=>simp only[SV.sw];rw[key j h]
 |own j t s n=>simp only[SV.sw];rw[key j h]
 |view j o n=>simp only[SV.sw];rw[key j h]
 |clo f ks=>
  simp only[SV.sw]
  simp only[SV.names,List.any_eq_false] at h
  have:ks.map (swN k k')=ks:=by
   conv=>rhs;rw[← List.map_id ks]
   exact List.map_congr_left fun j hj=>key j (by rw[← Bool.not_eq_true];exact h j hj)
  rw[this]
 |d x=>rfl
 |emp=>rfl
 |hob u b ob=>rfl
 |pr j t s n x=>simp only[SV.sw];rw[key j h]
 |refx j o b=>simp only[SV.sw];rw[key j h]
 |bnd f j o=>simp only[SV.sw];rw[key j h]
 |ownx j t s n u=>simp only[SV.sw];rw[key j h]
 |junk=>rfl
theorem sim_ren{S S':SL}{B B':BS}(k k':Nat)(h1:S'.map (fun p=>jY S p.1)=S'.map (fun p=>p.2.sw k k'):=by kernel_rfl)(h2:B'.map (fun p=>kD B (swN k k' p.1))=B'.map (·.2):=by kernel_rfl)(h3:(B'.all fun p=>!(Nat.beq p.1 k'))=true:=by kernel_rfl)
  (h4:Clr k ((k,none)::B):=by repeat first | exact clr_nil _ | refine clr_self ?_ | refine clr_map ?_ | refine clr_none ?_ | refine clr_bx ?_ | refine clr_d ?_ | refine clr_cons rfl ?_) (h5:kD B k=none:=by kernel_rfl):kK ⟨S,B⟩ ⟨S',B'⟩:=fun C a w ⟨D,β,hs⟩=>by
 have hget:∀ {l:BS},(l.map (fun p=>kD B (swN k k' p.1))=l.map (·.2))→∀ {j c},kD l j=some c→kD B (swN k k' j)=some c:=by
  intro l
  induction l with
  |nil=>intro _ j c h;simp [kD] at h
  |cons p l ih=>
   intro hl j c hj
   obtain ⟨q,y⟩:=p
   simp only[List.map_cons,List.cons.injEq] at hl
   rw[jR] at hj
   split at hj
   ·rename_i e;subst e;rw[hl.1];exact hj
   ·exact ih hl.2 hj
 have hkey:∀ {l:BS},((l.all fun p=>!(Nat.beq p.1 k'))=true)→∀ {j c},kD l j=some c→j≠k':=by
  intro l
  induction l with
  |nil=>intro _ j c h;simp [kD] at h
  |cons p l ih=>
   intro hl j c hj e
   obtain ⟨q,y⟩:=p
   simp only[List.all_cons,Bool.and_eq_true,Bool.not_eq_true'] at hl
   rw[jR] at hj
   split at hj
   ·rename_i e2;subst e2;subst e;simp at hl
   ·exact ih hl.2 hj e
 have hnk:∀ {j c},kD B j=some c→j≠k∧qO k c=false:=fun {j c} hj=>by
  have hne:j≠k:=fun e=>by subst e;rw[h5] at hj;cases hj
  exact ⟨hne,h4 j c hne (by rw[jR,if_neg (fun e=>hne e.symm)];exact hj)⟩
 have hsl:∀ {l:SL},(l.map (fun p=>jY S p.1)=l.map (fun p=>p.2.sw k k'))→∀ t,jY l t=.junk∨jY S t=(jY l t).sw k k':=by
  intro l
  induction l with
  |nil=>intro _ t;exact .inl rfl
  |cons p l ih=>
   intro hl t
   obtain ⟨q,y⟩:=p
   simp only[List.map_cons,List.cons.injEq] at hl
   rw[qG]
   split
   ·rename_i e;subst e;exact .inr hl.1
   ·exact ih hl.2 t
 refine ⟨D,fun j=>β (swN k k' j),hs.base,⟨fun j c hj=>?_,fun j1 j2 c1 c2 q1 q2 b e1 e2=>?_⟩,fun j c hj b hb=>hs.high _ c (hget h2 hj) b hb,fun t=>?_⟩
 ·have hc:=hget h2 hj
  obtain ⟨_,hn⟩:=hnk hc
  rcases hs.mem.ok _ c hc with h | ⟨b,vs,T,g1,g2,g3,g4,g5⟩
  ·exact .inl h
  ·refine .inr ⟨b,vs,T,g1,g2,g3,fun i x hi=>?_,g5⟩
   obtain ⟨u,e1,e2,e3⟩:=g4 i x hi
   exact ⟨u,e1,e2,qB.sw (by rw[sw_of (names_get hn hi)];exact e3)⟩
 ·have:=hs.mem.inj _ _ c1 c2 (hget h2 q1) (hget h2 q2) b e1 e2
  have n1:=hkey h3 q1
  have n2:=hkey h3 q2
  by_cases g1:j1=k<;>by_cases g2:j2=k
  ·omega
  ·subst g1;rw[swN_eq,swN_ne g2] at this;omega
  ·subst g2;rw[swN_eq,swN_ne g1] at this;omega
  ·rw[swN_ne g1,swN_ne g2] at this;exact this
 ·show qB w D _ _ (jY S' t)
  rcases hsl h1 t with h | h
  ·rw[h];trivial
  ·have:=hs.slots t
   dsimp only at this
   rw[h] at this
   exact this.sw
section
variable {P:Program}
end
section
variable {P:Program} {o:Oper} {S:Nat→SV}
end
section
variable {P:Program}
end
section
variable {P:Program} {o:Oper} {S:Nat→SV}
end
end Go.Fid
namespace Go.Proofs.YteimogfidbkpnabGreat
open Go.Fid
theorem cb17:callB Tryz.prog 17=true:=by kernel_rfl
theorem p_eq(l:List Int)(m:List Int)(hb:l.length≤1000000):kB Tryz.prog 17 [(.sl 3 1 (List.map jO l)),(.sl 3 1 (List.map jO m))] (.val (.bool ((l == m)))):=by
 refine jK Tryz.func17 rfl cb17 rfl ?_
 show qU _ _ _ _ ⟨[(0,(vl 3 1 jO l)),(1,(vl 3 1 jO m))],[]⟩
 refine jA<|kx [] [] (zM<|zZ) ?_
 refine jA<|jA<|kx [(10,(vb (((l.length:Nat):Int) != ((m.length:Nat):Int))))] [] (zM<|zE (xD vF)<|zM<|zE (xD vF)<|zE fO<|zZ) ?_
 refine jG rfl (fun h1=>?_) (fun h1=>?_)
 ·replace h1:=bne_iff_ne.1 h1
  refine jA<|kx [(4,(vb false))] [] (zM<|zZ) ?_
  refine jI ⟨_,(.tmp (d:=(.val (.bool (false)))) rfl .nil),?_⟩
  rw[py_eq_len h1];rfl
 ·replace h1:=bne_eq_false_iff_eq.1 h1
  have hlm:l.length=m.length:=by omega
  refine jE<|jA<|jA<|kx [(12,(jT l.length)),(13,(jT 0))] [] (zM<|zE (xD vF)<|zM<|zZ) ?_
  refine jH<|kI (α:=Nat) (fun k=>⟨[(0,(vl 3 1 jO l)),(1,(vl 3 1 jO m)),(12,(jT l.length)),(13,(jT k))],[]⟩) (fun k=>k≤l.length∧l.take k=m.take k) (fun k=>l.length-k) 0 wk ⟨Nat.zero_le _,rfl⟩ ?_
  rintro k ⟨hk,hv⟩
  refine jA<|kx [(14,(vb (decide (((k:Nat):Int)<((l.length:Nat):Int)))))] [] (zE uM<|zZ) ?_
  refine jA<|jG rfl (fun h2=>?_) (fun h2=>?_)
  ·replace h2:=uW h2
   refine jE<|jA<|jH<|jA<|kx [(5,(jT k))] [] (zM<|zM<|zZ) ?_
   refine jA<|kd [(24,(vb ((l.getD k 0) != (m.getD k 0))))] [] mo (wM<|wM<|wE (gV vF k (0:Int))<|wE (nG qF)<|wM<|wM<|wE (gV vF k (0:Int))<|wE (nG qF)<|wE fO<|wZ) ?_
   refine jG (b:=((l.getD k 0) != (m.getD k 0))) rfl (fun h3=>?_) (fun h3=>?_)
   ·replace h3:=bne_iff_ne.1 h3
    refine jA<|kx [(4,(vb false))] [] (zM<|zZ) ?_
    refine jI ⟨_,(.tmp (d:=(.val (.bool (false)))) rfl .nil),?_⟩
    rw[py_eq_at h3];rfl
   ·replace h3:=bne_eq_false_iff_eq.1 h3
    refine jE<|kx [(13,(jT (k+1)))] [] (zE (qS (k+1))<|zM<|zZ) ?_
    exact ⟨(k+1),wk,⟨by omega,py_eq_step hv (by omega) hlm h3⟩,(by omega)⟩
  ·replace h2:=uY h2
   refine jW<|jA<|kx [(4,(vb true))] [] (zM<|zZ) ?_
   refine jI ⟨_,(.tmp (d:=(.val (.bool (true)))) rfl .nil),?_⟩
   rw[py_eq_end hv (by omega) hlm];rfl
end Go.Proofs.YteimogfidbkpnabGreat
namespace Go.Fid
theorem ne_len{T:List (List Int)}(h:0<T.length):T≠[]:=fun e=>by rw[e] at h;exact absurd h (by decide)
theorem rect_lo{w:Nat}{T:List (List Int)}(h:Rect w T):Rect ((w+1) / 2) (T.map loS):=fun r hr=>by
 obtain ⟨q,hq,rfl⟩:=List.mem_map.1 hr;rw[loS_len,h q hq]
inductive R2 {α β:Type} (R:α→β→Prop):List α→List β→Prop where
 |nil:R2 R [] []
 |cons {a:α} {b:β} {l:List α} {m:List β}:R a b→R2 R l m→R2 R (a::l) (b::m)
theorem R2.length{α β:Type}{R:α→β→Prop}{l:List α}{m:List β}(h:R2 R l m):l.length=m.length:=by
 induction h with
 |nil=>rfl
 |cons _ _ ih=>simp [ih]
theorem R2.get{α β:Type}{R:α→β→Prop}{l:List α}{m:List β}(h:R2 R l m)(d:α)(e:β):∀ i,i<l.length→R (l.getD i d) (m.getD i e):=by
 induction h with
 |nil=>intro i hi;exact absurd hi (Nat.not_lt_zero _)
 |cons h1 _ ih=>
  intro i hi
  cases i with
  |zero=>exact h1
  |succ i=>simpa using ih i (by simpa using hi)
theorem R2.of{α β:Type}{R:α→β→Prop}(d:α)(e:β):∀ {l:List α} {m:List β},l.length=m.length→(∀ i,i<l.length→R (l.getD i d) (m.getD i e))→R2 R l m
 |[],[],_,_=>.nil
 |[],_::_,h,_=>by simp at h
 |_::_,[],h,_=>by simp at h
 |a::l,b::m,h,k=>.cons (k 0 (by simp)) (R2.of d e (by simpa using h) fun i hi=>by simpa using k (i+1) (by simpa using hi))
theorem R2.map{α β γ δ:Type}{R:α→β→Prop}{S:γ→δ→Prop}{f:α→γ}{g:β→δ}{l:List α}{m:List β}(h:R2 R l m)(hf:∀ a b,R a b→S (f a) (g b)):R2 S (l.map f) (m.map g):=by
 induction h with
 |nil=>exact .nil
 |cons h1 _ ih=>exact .cons (hf _ _ h1) ih
theorem R2.same{α γ δ:Type}{S:γ→δ→Prop}{f:α→γ}{g:α→δ}(l:List α)(h:∀ a∈l,S (f a) (g a)):R2 S (l.map f) (l.map g):=by
 induction l with
 |nil=>exact .nil
 |cons a l ih=>exact .cons (h a (.head _)) (ih fun b hb=>h b (.tail _ hb))
theorem R2.app{α β:Type}{R:α→β→Prop}{l l':List α}{m m':List β}(h:R2 R l m)(h':R2 R l' m'):R2 R (l++l') (m++m'):=by
 induction h with
 |nil=>exact h'
 |cons h1 _ ih=>exact .cons h1 ih
theorem R2.flat{α β:Type}{R:α→β→Prop}{T:List (List α)}{U:List (List β)}(h:R2 (R2 R) T U):R2 R T.flatten U.flatten:=by
 induction h with
 |nil=>exact .nil
 |cons h1 _ ih=>exact h1.app ih
theorem R2.take{α β:Type}{R:α→β→Prop}{l:List α}{m:List β}(h:R2 R l m):∀ n,R2 R (l.take n) (m.take n):=by
 induction h with
 |nil=>intro n;simp;exact .nil
 |cons h1 _ ih=>
  intro n
  cases n with
  |zero=>exact .nil
  |succ n=>exact .cons h1 (ih n)
theorem R2.drop{α β:Type}{R:α→β→Prop}{l:List α}{m:List β}(h:R2 R l m):∀ n,R2 R (l.drop n) (m.drop n):=by
 induction h with
 |nil=>intro n;simp;exact .nil
 |cons h1 h2 ih=>
  intro n
  cases n with
  |zero=>exact .cons h1 h2
  |succ n=>exact ih n
theorem R2.rows{R:Int→Int→Prop}{l m:List Int}(h:R2 R l m)(w n:Nat):R2 (R2 R) (rowsOf w n l) (rowsOf w n m):=R2.same _ fun y _=>(h.drop _).take _
theorem R2.lo{R:Int→Int→Prop}(hR:∀ a b c d,R a b→R c d→R ((a+c).fdiv 2) ((b+d).fdiv 2)):∀ {l m:List Int},R2 R l m→R2 R (loS l) (loS m)
 |[],_,.nil=>.nil
 |[_],_,.cons h1 .nil=>.cons h1 .nil
 |_::_::_,_,.cons h1 (.cons h2 h3)=>.cons (hR _ _ _ _ h1 h2) (R2.lo hR h3)
theorem R2.hi{R S:Int→Int→Prop}(hR:∀ a b c d,R a b→R c d→S (a-c) (b-d)):∀ {l m:List Int},R2 R l m→R2 S (hiS l) (hiS m)
 |[],_,.nil=>.nil
 |[_],_,.cons h1 .nil=>.nil
 |_::_::_,_,.cons h1 (.cons h2 h3)=>.cons (hR _ _ _ _ h1 h2) (R2.hi hR h3)
theorem R2.col{R:Int→Int→Prop}{w j:Nat}(hj:j<w):∀ {T U:List (List Int)},R2 (R2 R) T U→Rect w T→R2 R (T.map fun r=>r.getD j 0) (U.map fun r=>r.getD j 0)
 |_,_,.nil,_=>.nil
 |_,_,.cons h1 h2,hT=>.cons (h1.get 0 0 j (by rw[hT _ (.head _)];exact hj)) (R2.col hj h2 fun r hr=>hT r (.tail _ hr))
theorem R2.tr{R:Int→Int→Prop}{w:Nat}{T U:List (List Int)}(h:R2 (R2 R) T U)(hT:Rect w T):R2 (R2 R) (Go.Fid.tr w T) (Go.Fid.tr w U):=R2.same _ fun j hj=>R2.col (List.mem_range.1 hj) h hT
theorem R2.rect{R:Int→Int→Prop}{w:Nat}:∀ {T U:List (List Int)},R2 (R2 R) T U→Rect w T→Rect w U
 |_,_,.nil,_=>fun r hr=>by simp at hr
 |_,_,.cons h1 h2,hT=>fun r hr=>by
  rcases List.mem_cons.1 hr with e | e
  ·rw[e,← h1.length];exact hT _ (.head _)
  ·exact R2.rect h2 (fun r hr=>hT r (.tail _ hr)) r e
theorem R2.trP{R:Int→Int→Prop}{w:Nat}{T U:List (List Int)}(h:R2 (R2 R) T U)(hT:Rect w T):R2 (R2 R) (Go.Fid.trP T) (Go.Fid.trP U):=by
 by_cases h0:0<T.length
 ·rw[trP_eq hT (ne_len h0),trP_eq (h.rect hT) (ne_len (by rw[← h.length];exact h0))]
  exact h.tr hT
 ·have e1:=List.eq_nil_of_length_eq_zero (show T.length=0 by omega)
  have e2:=List.eq_nil_of_length_eq_zero (show U.length=0 by have:=h.length;omega)
  rw[e1,e2];exact .nil
theorem trP_rect{w:Nat}{T:List (List Int)}(hT:Rect w T):Rect T.length (Go.Fid.trP T):=by
 by_cases h0:0<T.length
 ·rw[trP_eq hT (ne_len h0)];exact tr_rect _ _
 ·rw[List.eq_nil_of_length_eq_zero (show T.length=0 by omega)]
  intro r hr;simp [Go.Fid.trP,Go.Fid.tr] at hr
theorem R2.low{R:Int→Int→Prop}(hR:∀ a b c d,R a b→R c d→R ((a+c).fdiv 2) ((b+d).fdiv 2)){w h:Nat}{px qx:List Int}(hl:px.length=w*h)(hpq:R2 R px qx):R2 R (bLow w h px) (bLow w h qx):=by
 have r0:=rowsOf_rect hl
 have t0:=hpq.rows w h
 have t1:=t0.map (S:=R2 R) (f:=loS) (g:=loS) fun a b q=>q.lo hR
 have r1:=rect_lo r0
 have t2:=t1.trP r1
 have r2:=trP_rect r1
 have t3:=t2.map (S:=R2 R) (f:=loS) (g:=loS) fun a b q=>q.lo hR
 have r3:=rect_lo r2
 exact (t3.trP r3).flat
open Go.RowKit (Below)
section
variable {P:Program} {n:Fr} {ops:Array Oper} {K:SL→BS→Prop} {S S0 S1:SL} {B B0 B1:BS} {l:List Oper} {o:Oper} {D:SL}
theorem zOh(k E s:Nat)(r:SK P n ops K ((dO o,.own k E s 0)::S) ((k,some [])::B) l)(h:nilK o=true:=by kernel_rfl)(g:goK n ops S o=true:=by kernel_rfl)(h1:(S.all fun p=>!p.2.names k)=true:=by kernel_rfl)
  (h2:FrB k B:=by repeat first | exact frb_nil _ | refine frb_map rfl ?_ | refine frb_d rfl ?_ | refine frb_cs rfl rfl ?_ | refine frb_none rfl ?_):SK P n ops K S B (o::l):=zO k E s r h g (freshB_of h1 h2)
end
section
variable {P:Program} {S:SL} {B:BS} {o:Oper} {x y:Operand} {k:Nat} {T:TypeId}
end
section
variable {P:Program} {o:Oper}
theorem oQd{S:Nat→SV}{z:SV}(d d2:kF)(h:qW P o S [] z)(e:d=d2)(e0:z=.d d:=by kernel_rfl):qW P o S [] (.d d2):=e▸e0▸h
end
theorem den_pos(u:Rat):((u.den:Nat):Int)≠0:=by have:=u.den_pos;omega
end Go.Fid
namespace Go.Proofs.YteimogfidbkpnabGreat
open Go.Fid
theorem cb56:callB Tryz.prog 56=true:=by kernel_rfl
theorem cb80:callB Tryz.prog 80=true:=by kernel_rfl
theorem f_counted(x:kJ)(a:Int)(hx:zJ x a 68719476736):kB Tryz.prog 80 [(jJ x)] (jJ (jQ a)):=by
 refine jK Tryz.func80 rfl cb80 rfl ?_
 show qU _ _ _ _ ⟨[(0,(.d (jJ x)))],[]⟩
 refine jA<|kx [(1,(.ref 0 0)),(2,(.ref 1 0))] [(0,some (bx (jJ x))),(1,some (bx (jJ (kJ.mk false []))))] (zN (yC 0)<|zN (uQ 1 uH uI)<|zZ) ?_
 refine jA<|jA<|kx [(4,(vb (uF x)))] [] (zR (kY jL)<|zE (kE (t_valid x (Nat.le_trans hx.l (by decide))))<|zZ) ?_
 refine jG (b:=(uF x)) rfl (fun h1=>?_) (fun h1=>?_)
 ·refine jA<|kx [] [(1,some (bx (jJ x)))] (zR (kY jL)<|zT (qA jL)<|zZ) ?_
  refine jI ⟨_,(kQ (cs:=(bx (jJ x))) (d:=(jJ x)) rfl rfl jL rfl rfl .nil),?_⟩
  rw[← hx.v,ofZ_toZ h1];rfl
 ·refine jE<|jA<|kx [] [(1,some (bx (jJ (jQ 0))))] (zE (kE (t_of 0 (by decide) (by decide)))<|zT (qA jL)<|zZ) ?_
  refine jI ⟨_,(kQ (cs:=(bx (jJ (jQ 0)))) (d:=(jJ (jQ 0))) rfl rfl jL rfl rfl .nil),?_⟩
  rw[← hx.v,toZ_bad h1,ofZ_zero];rfl
theorem f_newO(num:kJ)(a:Int)(dR:zJ num a 68719476736)(den:kJ)(b:Int)(mM:zJ den b 68719476736)(hb:b≠0):kB Tryz.prog 56 [(jJ num),(jJ den)] (.tup [(kN (zB (Rat.divInt a b))),(.val (.int .i64 (0)))]):=by
 refine jK Tryz.func56 rfl cb56 rfl ?_
 show qU _ _ _ _ ⟨[(0,(.d (jJ num))),(1,(.d (jJ den)))],[]⟩
 refine jA<|kx [(2,(.ref 0 0)),(3,(.ref 1 0)),(4,(.ref 2 0))] [(0,some (bx (jJ num))),(1,some (bx (jJ den))),(2,some (bx (kN oZr)))] (zN (yC 0)<|zN (yC 1)<|zN (uQ 2 mX mS)<|zM<|zZ) ?_
 refine jA<|kd [] [(0,some (bx (jJ (jQ a)))),(1,some (bx (jJ (jQ b))))] mo (wR (kY jL)<|wE (kE (f_counted num a dR))<|wR (kY jL)<|wE (kE (f_counted den b mM))<|wT (qA jL)<|wT (qA jL)<|wZ) ?_
 refine jA<|jA<|kx [(12,(vb false))] [] (zR (kY jL)<|zE (kE (mY (gP (zJ.ln mM)) (by decide)))<|zE (xR false gX (by exact beq_eq_false_iff_ne.2 (fF hb)))<|zZ) ?_
 refine qZ ?_
 refine jE<|jA<|kx [(5,(jT 0))] [(2,some (bx (kN (zB (Rat.divInt a b)))))] (zR (kY jL)<|zR (kY jL)<|zE (kE (f_reduced (jQ a) (jQ b) a b (gP (zJ.ln dR)) (gP (zJ.ln mM)) (by assumption)))<|zT (qA vB)<|zM<|zZ) ?_
 refine jI ⟨_,(kQ (cs:=(bx (kN (zB (Rat.divInt a b))))) (d:=(kN (zB (Rat.divInt a b)))) rfl rfl vB rfl rfl (.tmp (d:=(.val (.int .i64 (0)))) rfl .nil)),?_⟩
 rfl
theorem g_newO(num:kJ)(a:Int)(dR:zJ num a 68719476736)(den:kJ)(b:Int)(mM:zJ den b 68719476736)(hb:b≠0):kB Tryz.prog 37 [(jJ num),(jJ den)] (.tup [(kN (zB (Rat.divInt a b))),(.val (.int .i64 (0)))]):=by
 refine jK Tryz.func37 rfl cb37 rfl ?_
 show qU _ _ _ _ ⟨[(0,(.d (jJ num))),(1,(.d (jJ den)))],[]⟩
 refine jA<|kx [(2,(.ref 0 0)),(3,(.ref 1 0)),(4,(.ref 2 0))] [(0,some (bx (jJ num))),(1,some (bx (jJ den))),(2,some (bx (kN oZr)))] (zN (yC 0)<|zN (yC 1)<|zN (uQ 2 mX mS)<|zM<|zZ) ?_
 refine jA<|jA<|kx [(8,(vb false))] [] (zR (kY jL)<|zE (kE (rs_sign mM (by decide)))<|zE (xR false gX (by exact beq_eq_false_iff_ne.2 (fF hb)))<|zZ) ?_
 refine qZ ?_
 refine jE<|jA<|kx [(5,(jT 0))] [(2,some (bx (kN (zB (Rat.divInt a b)))))] (zR (kY jL)<|zR (kY jL)<|zE (kE (g_reduced num den a b dR mM (by assumption)))<|zT (qA vB)<|zM<|zZ) ?_
 refine jI ⟨_,(kQ (cs:=(bx (kN (zB (Rat.divInt a b))))) (d:=(kN (zB (Rat.divInt a b)))) rfl rfl vB rfl rfl (.tmp (d:=(.val (.int .i64 (0)))) rfl .nil)),?_⟩
 rfl
end Go.Proofs.YteimogfidbkpnabGreat
namespace Go.Fid
end Go.Fid
namespace Go.Proofs.YteimogfidbkpnabGreat
open Go.Fid
theorem cb15:callB Tryz.prog 15=true:=by kernel_rfl
theorem qs_of(n:Int)(hnl:-9223372036854775808≤n)(hnh:n≤9223372036854775807)(d:Int)(hdl:-9223372036854775808≤d)(hdh:d≤9223372036854775807)(hd:d≠0):kB Tryz.prog 15 [(.val (.int .i64 (n))),(.val (.int .i64 (d)))] (.tup [(kN (zB (Rat.divInt n d))),(.val (.int .i64 (0)))]):=by
 refine jK Tryz.func15 rfl cb15 rfl ?_
 show qU _ _ _ _ ⟨[(0,(vi n)),(1,(vi d))],[]⟩
 refine jA<|kx [(4,(.ref 0 0))] [(0,some (bx (kN oZr)))] (zN (uQ 0 mX mS)<|zM<|zZ) ?_
 refine jA<|kx [(5,(vi 0))] [(0,some (bx (kN (zB (Rat.divInt n d)))))] (zM<|zE (kE (g_whole1 n (by omega) (by omega)))<|zM<|zE (kE (g_whole1 d (by omega) (by omega)))<|zE (kE (g_newO (jQ n) n (xG (yI (z:=n) (by omega) (by omega)) (by decide)) (jQ d) d (xG (yI (z:=d) (by omega) (by omega)) (by decide)) hd))<|zE qQ<|zE qQ<|zT (qA vB)<|zM<|zZ) ?_
 refine jI ⟨_,(kQ (cs:=(bx (kN (zB (Rat.divInt n d))))) (d:=(kN (zB (Rat.divInt n d)))) rfl rfl vB rfl rfl (.tmp (d:=(.val (.int .i64 (0)))) rfl .nil)),?_⟩
 rfl
theorem cb9:callB Tryz.prog 9=true:=by kernel_rfl
theorem p_rint(n:Int)(hnl:-9223372036854775808≤n)(hnh:n≤9223372036854775807):kB Tryz.prog 9 [(.val (.int .i64 (n)))] (kN (zB ((n:Int):Rat))):=by
 refine jK Tryz.func9 rfl cb9 rfl ?_
 show qU _ _ _ _ ⟨[(0,(vi n))],[]⟩
 refine jA<|kx [(2,(.ref 0 0))] [(0,some (bx (kN oZr)))] (zN (uQ 0 mX mS)<|zZ) ?_
 refine jA<|kx [] [(0,some (bx (kN (zB ((n:Int):Rat)))))] (zM<|zE (kE (g_whole n (by omega) (by omega)))<|zT (qA vB)<|zZ) ?_
 refine jI ⟨_,(kQ (cs:=(bx (kN (zB ((n:Int):Rat))))) (d:=(kN (zB ((n:Int):Rat)))) rfl rfl vB rfl rfl .nil),?_⟩
 rfl
end Go.Proofs.YteimogfidbkpnabGreat
