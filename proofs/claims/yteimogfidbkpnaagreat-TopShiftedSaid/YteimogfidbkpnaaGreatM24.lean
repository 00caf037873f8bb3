/- Part 24 of a proof: rules, plain facts, and functions walked. -/
import Derived.Test.YteimogfidbkpnaaGreatM23
import Derived.Test.YteimogfidbkpnaaGreatM10
import Derived.Test.YteimogfidbkpnaaGreatM14
set_option linter.all false
set_option maxRecDepth 4000
namespace Go.Proofs.YteimogfidbkpnaaGreat
open Go.Fid
theorem cb8:callB Tryz.prog 8=true:=by kernel_rfl
theorem cb14:callB Tryz.prog 14=true:=by kernel_rfl
theorem cb16:callB Tryz.prog 16=true:=by kernel_rfl
theorem cb39:callB Tryz.prog 39=true:=by kernel_rfl
theorem cb40:callB Tryz.prog 40=true:=by kernel_rfl
theorem cb41:callB Tryz.prog 41=true:=by kernel_rfl
theorem pl24:yR Tryz.prog 24=some [(0,1),(1,1),(2,1),(3,1)]:=by kernel_rfl
theorem ze24:uL Tryz.prog 24=some [.int .i64 0,.int .i64 0,.int .i64 0,.slice none 0 0]:=by kernel_rfl
theorem zo24:gD [.int .i64 0,.int .i64 0,.int .i64 0,.slice none 0 0] [.val (.int .i64 0),.val (.int .i64 0),.val (.int .i64 0),.sl 3 1 []]:=by simp [gD,Value.oneCell']
theorem c_has(w h:Nat)(mx:Int)(px:List Int)(x:Nat)(y:Nat)(hx:x<w)(hy:y<h):jR Tryz.prog 39 [(jN (kG.mk ((w:Nat):Int) ((h:Nat):Int) mx px)),(.val (.int .i64 (((x:Nat):Int)))),(.val (.int .i64 (((y:Nat):Int))))] (.val (.bool (true))):=by
 refine jH Tryz.func39 rfl cb39 rfl ?_
 show qS _ _ _ _ ⟨[(0,(.d (jN (kG.mk ((w:Nat):Int) ((h:Nat):Int) mx px)))),(1,(jL x)),(2,(jL y))],[]⟩
 refine jA<|kx [(3,(.ref 0 0))] [(0,some (bx (jN (kG.mk ((w:Nat):Int) ((h:Nat):Int) mx px))))] (zN (vL 0)<|zM<|zZ) ?_
 refine jA<|kx [(6,(vb (((decide (0≤((x:Nat):Int))&&decide (((x:Nat):Int)<((w:Nat):Int)))&&decide (0≤((y:Nat):Int)))&&decide (((y:Nat):Int)<((h:Nat):Int)))))] [] ?_ ?_
 ·refine zM<|zE oGe<|zE (oV (vb (decide (0≤((x:Nat):Int)))) (kT (by kernel_rfl)))<|?_
  rcases hb1:(decide (0≤((x:Nat):Int))) with _ | _
  ·replace hb1:=vK hb1
   exact zK<|zK<|zK<|zK<|zE cB<|zM<|zK<|zK<|zE cB<|zM<|zK<|zK<|zK<|zK<|zE cB<|zM<|zZ
  ·replace hb1:=vM hb1
   refine zM<|zE (kJ uC)<|zR (kX qC)<|zE uE<|zE oPa<|zE (oV (vb (true&&decide (((x:Nat):Int)<((w:Nat):Int)))) (kT (by kernel_rfl)))<|?_
   rcases hb2:(true&&decide (((x:Nat):Int)<((w:Nat):Int))) with _ | _
   ·replace hb2:=vK (p:=(((x:Nat):Int)<((w:Nat):Int))) hb2
    exact zK<|zK<|zE cB<|zM<|zK<|zK<|zK<|zK<|zE cB<|zM<|zZ
   ·replace hb2:=vM (p:=(((x:Nat):Int)<((w:Nat):Int))) hb2
    refine zM<|zE oGe<|zE oPa<|zE (oV (vb (true&&decide (0≤((y:Nat):Int)))) (kT (by kernel_rfl)))<|?_
    rcases hb3:(true&&decide (0≤((y:Nat):Int))) with _ | _
    ·replace hb3:=vK (p:=(0≤((y:Nat):Int))) hb3
     exact zK<|zK<|zK<|zK<|zE cB<|zM<|zZ
    ·replace hb3:=vM (p:=(0≤((y:Nat):Int))) hb3
     exact zM<|zE (kJ zL)<|zR (kX qC)<|zE uE<|zE oPa<|zM<|zZ
 refine jE ⟨_,(.tmp (d:=(.val (.bool ((((decide (0≤((x:Nat):Int))&&decide (((x:Nat):Int)<((w:Nat):Int)))&&decide (0≤((y:Nat):Int)))&&decide (((y:Nat):Int)<((h:Nat):Int))))))) rfl .nil),?_⟩
 rw[has_t hx hy];rfl
theorem c_cr1(i:Nat)(j:Nat)(w h:Nat)(mx:Int)(px:List Int)(x:Nat)(y:Nat)(hk:(y+j)*w+(x+i)<px.length)(hlp:px.length≤10000)(hb:x+i≤1000∧y+j≤1000):jR Tryz.prog 41 [(.val (.int .i64 (((i:Nat):Int)))),(.val (.int .i64 (((j:Nat):Int)))),(.cptr 1000000 (jQ.cells (jN (kG.mk ((w:Nat):Int) ((h:Nat):Int) mx px))) 0),(.cptr 1000000 (jQ.cells (.val (.int .i64 (((x:Nat):Int))))) 0),(.cptr 1000000 (jQ.cells (.val (.int .i64 (((y:Nat):Int))))) 0)] (.val (.int .i64 ((px.getD ((y+j)*w+(x+i)) 0)))):=by
 refine jH Tryz.func41 rfl cb41 rfl ?_
 show qS _ _ _ _ ⟨[(0,(jL i)),(1,(jL j)),(2,(.d (.cptr 1000000 (jQ.cells (jN (kG.mk ((w:Nat):Int) ((h:Nat):Int) mx px))) 0))),(3,(.d (.cptr 1000000 (jQ.cells (.val (.int .i64 (((x:Nat):Int))))) 0))),(4,(.d (.cptr 1000000 (jQ.cells (.val (.int .i64 (((y:Nat):Int))))) 0)))],[]⟩
 refine jA<|kx [] [] (zM<|zZ) ?_
 refine jA<|kx [(7,(vi (px.getD ((y+j)*w+(x+i)) 0)))] [] (zE (oCa zQ)<|zE (xE qC)<|zM<|zE (qP (x+i))<|zE (xE qC)<|zM<|zE (qP (y+j))<|zE (jX (c_at w h mx px (x+i) (y+j) hk hlp))<|zM<|zZ) ?_
 refine jE ⟨_,(.tmp (d:=(.val (.int .i64 ((px.getD ((y+j)*w+(x+i)) 0))))) rfl .nil),?_⟩
 rfl
theorem c_made(m0:Int)(w h:Nat)(mx:Int)(px:List Int)(x:Nat)(y:Nat)(hw:1≤w∧w≤100)(hh:1≤h∧h≤100)(hl:px.length=w*h)(hp:PxB px)(hx:x+3≤w)(hy:y+3≤h):jR Tryz.prog 40 [(.val (.int .i64 (((3:Nat):Int)))),(.val (.int .i64 (((3:Nat):Int)))),(.val (.int .i64 (m0))),(.clo 41 [(.cptr 1000000 (jQ.cells (jN (kG.mk ((w:Nat):Int) ((h:Nat):Int) mx px))) 0),(.cptr 1000000 (jQ.cells (.val (.int .i64 (((x:Nat):Int))))) 0),(.cptr 1000000 (jQ.cells (.val (.int .i64 (((y:Nat):Int))))) 0)])] (jN (kG.mk ((3:Nat):Int) ((3:Nat):Int) m0 (kL px w x y))):=by
 have hlp:=hC hw.2 hh.2 hl
 let y1:=(jN (kG.mk ((w:Nat):Int) ((h:Nat):Int) mx px))
 refine jH Tryz.func40 rfl cb40 rfl ?_
 show qS _ _ _ _ ⟨[(0,(jL 3)),(1,(jL 3)),(2,(vi m0)),(3,(.d (.clo 41 [(.cptr 1000000 (jQ.cells y1) 0),(.cptr 1000000 (jQ.cells (.val (.int .i64 (((x:Nat):Int))))) 0),(.cptr 1000000 (jQ.cells (.val (.int .i64 (((y:Nat):Int))))) 0)])))],[]⟩
 refine jA<|kx [(8,(.ref 0 0))] [(0,some (bx (jN (kG.mk 0 0 0 []))))] (zN (uX 0 ze24 zo24)<|zZ) ?_
 refine jA<|kE (wk (l:=[(0,(jL 3)),(1,(jL 3)),(2,(vi m0)),(3,(.d (.clo 41 [(.cptr 1000000 (jQ.cells y1) 0),(.cptr 1000000 (jQ.cells (.val (.int .i64 (((x:Nat):Int))))) 0),(.cptr 1000000 (jQ.cells (.val (.int .i64 (((y:Nat):Int))))) 0)]))),(8,(.ref 0 0))]) (b:=[(0,some (bx (jN (kG.mk 0 0 0 []))))])) ?_
 refine kr_cut 7 [(0,(jL 3)),(1,(jL 3)),(2,(vi m0)),(3,(.d (.clo 41 [(.cptr 1000000 (jQ.cells (jN (kG.mk ((w:Nat):Int) ((h:Nat):Int) mx px))) 0),(.cptr 1000000 (jQ.cells (.val (.int .i64 (((x:Nat):Int))))) 0),(.cptr 1000000 (jQ.cells (.val (.int .i64 (((y:Nat):Int))))) 0)]))),(8,(.ref 0 0)),(12,(jL 3)),(13,(jL 3)),(14,(vi m0)),(18,(.own 1 3 1 0))] [(1,some (bm jT [])),(0,some (bx (jN (kG.mk 0 0 0 []))))] [(0,(jL 3)),(1,(jL 3)),(2,(vi m0)),(3,(.d (.clo 41 [(.cptr 1000000 (jQ.cells (jN (kG.mk ((w:Nat):Int) ((h:Nat):Int) mx px))) 0),(.cptr 1000000 (jQ.cells (.val (.int .i64 (((x:Nat):Int))))) 0),(.cptr 1000000 (jQ.cells (.val (.int .i64 (((y:Nat):Int))))) 0)]))),(8,(.ref 0 0)),(9,(.ref 2 0))] [(2,some [(jL 3),(jL 3),(vi m0),(.own 1 3 1 0)]),(1,some (bm jT [])),(0,some (bx (jN (kG.mk 0 0 0 []))))] 18 (zM<|zM<|zM<|zM<|zM<|zE (oMl 9)<|zN (oMk0 1 9 vI ze3 zo3 by3)<|zI (zU (uK (by kernel_rfl)) (fun _ _ h=>h))) rfl (fun ao cap=>zE (oOx 18 (k:=1) (T:=3) (s:=1) (m:=0) (u:=.slice ao 0 cap) (oBd pl24 ze24 zo24))<|zN (uX 2 ze24 zo24)<|zT (qF zQ)<|zI (cell_own2 18 2 [.d (.val (.int .i64 ((3:Nat):Int))),.d (.val (.int .i64 ((3:Nat):Int))),.d (.val (.int .i64 m0))] rfl (by exact rfl) (by kernel_rfl))) ?_
 refine jA<|jA<|kx [(20,(jL 3)),(21,(jL 0))] [] (zM<|zM<|zZ) ?_
 refine jD<|kP (α:=Nat × List Int) (fun (i,l)=>⟨[(0,(jL 3)),(3,(.d (.clo 41 [(.cptr 1000000 (jQ.cells y1) 0),(.cptr 1000000 (jQ.cells (.val (.int .i64 (((x:Nat):Int))))) 0),(.cptr 1000000 (jQ.cells (.val (.int .i64 (((y:Nat):Int))))) 0)]))),(8,(.ref 0 0)),(9,(.ref 2 0)),(20,(jL 3)),(21,(jL i))],[(0,some (bx (jN (kG.mk 0 0 0 [])))),(1,some (bm jT l)),(2,some [(jL 3),(jL 3),(vi m0),(.own 1 3 1 l.length)])]⟩) (fun (i,l)=>i≤3∧l=(cropL px w x y (3*i))) (fun (i,l)=>3-i) (0,[]) wk ⟨Nat.zero_le _,rfl⟩ ?_
 rintro ⟨i,l⟩ ⟨hi,hl0⟩
 have hll:l.length=3*i:=by rw[hl0];exact cropL_len _ _ _ _ _
 refine jA<|kx [(22,(vb (decide (((i:Nat):Int)<((3:Nat):Int)))))] [] (zE uE<|zZ) ?_
 refine jA<|jG rfl (fun h1=>?_) (fun h1=>?_)
 ·replace h1:=vM h1
  refine jC<|jA<|jD<|jA<|kx [(10,(jL i))] [] (zM<|zM<|zZ) ?_
  refine jA<|kx [(24,(jL 3)),(25,(jL 0))] [] (zM<|zM<|zZ) ?_
  refine jD<|kP (α:=Nat × List Int) (fun (j,r)=>⟨[(0,(jL 3)),(3,(.d (.clo 41 [(.cptr 1000000 (jQ.cells y1) 0),(.cptr 1000000 (jQ.cells (.val (.int .i64 (((x:Nat):Int))))) 0),(.cptr 1000000 (jQ.cells (.val (.int .i64 (((y:Nat):Int))))) 0)]))),(8,(.ref 0 0)),(9,(.ref 2 0)),(10,(jL i)),(20,(jL 3)),(21,(jL i)),(24,(jL 3)),(25,(jL j))],[(0,some (bx (jN (kG.mk 0 0 0 [])))),(1,some (bm jT r)),(2,some [(jL 3),(jL 3),(vi m0),(.own 1 3 1 r.length)])]⟩) (fun (j,r)=>j≤3∧r=(cropL px w x y (3*i+j))) (fun (j,r)=>3-j) (0,l) wk ⟨Nat.zero_le _,hl0⟩ ?_
  rintro ⟨j,r⟩ ⟨hj,hr⟩
  have hrl:r.length=3*i+j:=by rw[hr];exact cropL_len _ _ _ _ _
  refine jA<|kx [(26,(vb (decide (((j:Nat):Int)<((3:Nat):Int)))))] [] (zE uE<|zZ) ?_
  refine jA<|jG rfl (fun h2=>?_) (fun h2=>?_)
  ·replace h2:=vM h2
   have hkk:=dK (w:=w) (show y+i<h by omega) (show x+j<w by omega)
   rw[← hl] at hkk
   refine jC<|jA<|jD<|jA<|kx [(11,(jL j))] [] (zM<|zM<|zZ) ?_
   refine kd [] [(2,some [(jL 3),(jL 3),(vi m0),(.own 3 3 1 ((r++[(px.getD ((y+i)*w+(x+j)) 0)]).length))]),(3,some (bm jT (r++[(px.getD ((y+i)*w+(x+j)) 0)]))),(1,none)] mo (wE (kJ uY)<|wR (kX xT)<|wM<|wM<|wM<|wE (oCd (ds:=[(.val (.int .i64 (((j:Nat):Int)))),(.val (.int .i64 (((i:Nat):Int))))]) (caps:=[(.cptr 1000000 (jQ.cells y1) 0),(.cptr 1000000 (jQ.cells (.val (.int .i64 (((x:Nat):Int))))) 0),(.cptr 1000000 (jQ.cells (.val (.int .i64 (((y:Nat):Int))))) 0)]) (c_cr1 j i w h mx px x y (by assumption) (by assumption) (by omega)))<|wE (oBs vI ze3 zo3)<|wA (k:=1) 3 jT r [(px.getD ((y+i)*w+(x+j)) 0)] rfl vI ze3 by3<|wE (kJ uY)<|wT (oSx xT)<|wZ) ?_
   refine kE (wk (l:=[(0,(jL 3)),(3,(.d (.clo 41 [(.cptr 1000000 (jQ.cells y1) 0),(.cptr 1000000 (jQ.cells (.val (.int .i64 (((x:Nat):Int))))) 0),(.cptr 1000000 (jQ.cells (.val (.int .i64 (((y:Nat):Int))))) 0)]))),(8,(.ref 0 0)),(9,(.ref 2 0)),(10,(jL i)),(20,(jL 3)),(21,(jL i)),(24,(jL 3)),(25,(jL j))]) (b:=[(0,some (bx (jN (kG.mk 0 0 0 [])))),(2,some [(jL 3),(jL 3),(vi m0),(.own 3 3 1 ((r++[(px.getD ((y+i)*w+(x+j)) 0)]).length))]),(3,some (bm jT (r++[(px.getD ((y+i)*w+(x+j)) 0)])))])) ?_
   refine kE (sim_ren2 (S':=[(0,(jL 3)),(3,(.d (.clo 41 [(.cptr 1000000 (jQ.cells y1) 0),(.cptr 1000000 (jQ.cells (.val (.int .i64 (((x:Nat):Int))))) 0),(.cptr 1000000 (jQ.cells (.val (.int .i64 (((y:Nat):Int))))) 0)]))),(8,(.ref 0 0)),(9,(.ref 2 0)),(10,(jL i)),(20,(jL 3)),(21,(jL i)),(24,(jL 3)),(25,(jL j))]) (B':=[(0,some (bx (jN (kG.mk 0 0 0 [])))),(1,some (bm jT (r++[(px.getD ((y+i)*w+(x+j)) 0)]))),(2,some [(jL 3),(jL 3),(vi m0),(.own 1 3 1 ((r++[(px.getD ((y+i)*w+(x+j)) 0)]).length))])]) 1 3 2) ?_
   refine kx [(25,(jL (j+1)))] [] (zE (qP (j+1))<|zM<|zZ) ?_
   exact ⟨(j+1,r++[px.getD ((y+i)*w+(x+j)) 0]),wk,⟨by omega,by rw[hr];exact (cropL_c (by omega)).symm⟩,(by first|omega|(dsimp only;omega))⟩
  ·replace h2:=vK h2
   refine jV<|kx [(21,(jL (i+1)))] [] (zE (qP (i+1))<|zM<|zZ) ?_
   exact ⟨(i+1,r),wk,⟨by omega,by rw[hr,show j=3 by omega];rfl⟩,(by first|omega|(dsimp only;omega))⟩
 ·replace h1:=vK h1
  refine jV<|jA<|kE (dY (j:=2) (k:=1) (pre:=[(jL 3),(jL 3),(vi m0)]) (post:=[]) (es:=List.map jT l) rfl (by decide) rfl (qZ _ _ (fun _=>rfl)) (uR _ _ rfl) (uS _ _ (fun _=>rfl) rfl)) ?_
  refine kE (wk (l:=[(0,(jL 3)),(3,(.d (.clo 41 [(.cptr 1000000 (jQ.cells y1) 0),(.cptr 1000000 (jQ.cells (.val (.int .i64 (((x:Nat):Int))))) 0),(.cptr 1000000 (jQ.cells (.val (.int .i64 (((y:Nat):Int))))) 0)]))),(8,(.ref 0 0)),(9,(.ref 2 0)),(20,(jL 3)),(21,(jL i)),(22,(vb (decide (((i:Nat):Int)<((3:Nat):Int)))))]) (b:=[(0,some (bx (jN (kG.mk 0 0 0 [])))),(2,some (bx (jN (kG.mk ((3:Nat):Int) ((3:Nat):Int) m0 l))))])) ?_
  refine kx [] [(0,some (bx (jN (kG.mk ((3:Nat):Int) ((3:Nat):Int) m0 l))))] (zR (kI zQ)<|zT (qF zQ)<|zZ) ?_
  refine jE ⟨_,(kV (cs:=(bx (jN (kG.mk ((3:Nat):Int) ((3:Nat):Int) m0 l)))) (d:=(jN (kG.mk ((3:Nat):Int) ((3:Nat):Int) m0 l))) rfl rfl zQ rfl rfl .nil),?_⟩
  rw[hl0,show i=3 by omega];rfl
theorem c_crop(w h:Nat)(mx:Int)(px:List Int)(x:Nat)(y:Nat)(hw:1≤w∧w≤100)(hh:1≤h∧h≤100)(hl:px.length=w*h)(hp:PxB px)(hc:gG ((w:Nat):Int) ((h:Nat):Int) mx px=0)(hx:x+3≤w)(hy:y+3≤h):jR Tryz.prog 16 [(jN (kG.mk ((w:Nat):Int) ((h:Nat):Int) mx px)),(.val (.int .i64 (((x:Nat):Int)))),(.val (.int .i64 (((y:Nat):Int)))),(.val (.int .i64 (((3:Nat):Int)))),(.val (.int .i64 (((3:Nat):Int))))] (.tup [(jN (kG.mk ((3:Nat):Int) ((3:Nat):Int) mx (kL px w x y))),(.val (.int .i64 (((0:Nat):Int))))]):=by
 let y1:=(jN (kG.mk ((w:Nat):Int) ((h:Nat):Int) mx px))
 refine jH Tryz.func16 rfl cb16 rfl ?_
 show qS _ _ _ _ ⟨[(0,(.d y1)),(1,(jL x)),(2,(jL y)),(3,(jL 3)),(4,(jL 3))],[]⟩
 refine jA<|kx [(5,(.ref 0 0)),(6,(.ref 1 0)),(7,(.ref 2 0)),(10,(.ref 3 0))] [(0,some (bx y1)),(1,some (bx (.val (.int .i64 (((x:Nat):Int)))))),(2,some (bx (.val (.int .i64 (((y:Nat):Int)))))),(3,some (bx (jN (kG.mk 0 0 0 []))))] (zN (vL 0)<|zN (vL 1)<|zN (vL 2)<|zN (uX 3 ze24 zo24)<|zM<|zZ) ?_
 refine jA<|jA<|kx [(12,(vi (gG ((w:Nat):Int) ((h:Nat):Int) mx px)))] [] (zR (kI zQ)<|zE (jX (p_chk ((w:Nat):Int) ((h:Nat):Int) mx px (by have:=hC hw.2 hh.2 hl;omega)))<|zM<|zZ) ?_
 refine jA<|kx [(16,(vb false))] [] (zM<|zE (vG false oNe (by exact bne_eq_false_iff_eq.2 hc))<|zZ) ?_
 refine kY ?_
 refine jC<|jA<|jA<|kx [(47,(vb ((false||decide ((((w-x):Nat):Int)<((3:Nat):Int)))||decide ((((h-y):Nat):Int)<((3:Nat):Int)))))] [] ?_ ?_
 ·refine zR (kI zQ)<|zR (kX qC)<|zR (kX qC)<|zE (jX (c_has w h mx px x y (by omega) (by omega)))<|zE oNt<|zM<|zM<|zE (vG false uE)<|zE cB<|zM<|zM<|zE (vG false uE)<|zE cB<|zM<|zM<|zE (kJ uC)<|zR (kX qC)<|zR (kX qC)<|zE (cO (w-x))<|zE gF<|zE nS<|zE (oV (vb (false||decide ((((w-x):Nat):Int)<((3:Nat):Int)))) (kT (by kernel_rfl)))<|?_
  rcases hb1:(false||decide ((((w-x):Nat):Int)<((3:Nat):Int))) with _ | _
  ·replace hb1:=vK (p:=((((w-x):Nat):Int)<((3:Nat):Int))) hb1
   exact zM<|zE (kJ zL)<|zR (kX qC)<|zR (kX qC)<|zE (cO (h-y))<|zE gF<|zE nS<|zZ
  ·replace hb1:=vM (p:=((((w-x):Nat):Int)<((3:Nat):Int))) hb1
   exact zK<|zK<|zK<|zK<|zK<|zK<|zE xB<|zZ
 refine jG rfl (fun h2=>?_) (fun h2=>?_)
 ·exfalso;simp at h2;omega
 ·refine jC<|jA<|kx [(11,(jL 0))] [(3,some (bx (jN (kG.mk ((3:Nat):Int) ((3:Nat):Int) mx (kL px w x y)))))] (zM<|zM<|zE (kJ dT)<|zR (kX qC)<|zE (oMf [0,1,2])<|zC (oCg [(0,(jQ.cells y1)),(1,(jQ.cells (.val (.int .i64 (((x:Nat):Int)))))),(2,(jQ.cells (.val (.int .i64 (((y:Nat):Int))))))] [(jL 3),(jL 3),(vi mx),(.clo 41 [0,1,2])] (c_made mx w h mx px x y hw hh hl hp hx hy) (.d (.d (.d (.c (css:=[(jQ.cells y1),(jQ.cells (.val (.int .i64 (((x:Nat):Int))))),(jQ.cells (.val (.int .i64 (((y:Nat):Int)))))]) (.cons (.head _) (.cons (.tail _ (.head _)) (.cons (.tail _ (.tail _ (.head _))) .nil))) .nil)))) (avo_encRst (by decide) _))<|zT (qF zQ)<|zM<|zZ) ?_
  refine jE ⟨_,(kV (cs:=(bx (jN (kG.mk ((3:Nat):Int) ((3:Nat):Int) mx (kL px w x y))))) (d:=(jN (kG.mk ((3:Nat):Int) ((3:Nat):Int) mx (kL px w x y)))) rfl rfl zQ rfl rfl (.tmp (d:=(.val (.int .i64 (((0:Nat):Int))))) rfl .nil)),?_⟩
  rfl
theorem c_both(w1 h1 m1:Int)(p1:List Int)(w2 h2 m2:Int)(p2:List Int)(hb1:p1.length≤1000000)(hb2:p2.length≤1000000)(g1:gG w1 h1 m1 p1=0)(g2:gG w2 h2 m2 p2=0):jR Tryz.prog 14 [(jN (kG.mk w1 h1 m1 p1)),(jN (kG.mk w2 h2 m2 p2))] (.val (.int .i64 (((0:Nat):Int)))):=by
 refine jH Tryz.func14 rfl cb14 rfl ?_
 show qS _ _ _ _ ⟨[(0,(.d (jN (kG.mk w1 h1 m1 p1)))),(1,(.d (jN (kG.mk w2 h2 m2 p2))))],[]⟩
 refine jA<|kx [(2,(.ref 0 0)),(3,(.ref 1 0))] [(0,some (bx (jN (kG.mk w1 h1 m1 p1)))),(1,some (bx (jN (kG.mk w2 h2 m2 p2))))] (zN (vL 0)<|zN (vL 1)<|zM<|zZ) ?_
 refine jA<|jA<|kx [(5,(vi (gG w1 h1 m1 p1)))] [] (zR (kI zQ)<|zE (jX (p_chk w1 h1 m1 p1 hb1))<|zM<|zZ) ?_
 refine jA<|kx [(9,(vb false))] [] (zM<|zE (vG false oNe (by exact bne_eq_false_iff_eq.2 g1))<|zZ) ?_
 refine kY ?_
 refine jC<|jA<|kx [(4,(vi (gG w2 h2 m2 p2)))] [] (zR (kI zQ)<|zE (jX (p_chk w2 h2 m2 p2 hb2))<|zM<|zZ) ?_
 refine jE ⟨_,(.tmp (d:=(.val (.int .i64 ((gG w2 h2 m2 p2))))) rfl .nil),?_⟩
 rw[g2];rfl
theorem c_score(nx:Int)(p:List Int)(w h:Nat)(mx:Int)(px:List Int)(x:Int)(y:Int)(hw:1≤w∧w≤100)(hh:1≤h∧h≤100)(hl:px.length=w*h)(hp:PxB px)(hpl:p.length=9)(hpp:PxB p)(hc:gG ((w:Nat):Int) ((h:Nat):Int) mx px=0)(hcp:gG ((3:Nat):Int) ((3:Nat):Int) nx p=0)(hat:cX w h x y=true):jR Tryz.prog 8 [(jN (kG.mk ((3:Nat):Int) ((3:Nat):Int) nx p)),(jN (kG.mk ((w:Nat):Int) ((h:Nat):Int) mx px)),(.val (.int .i64 (x))),(.val (.int .i64 (y)))] (.tup [(jI (jF (scF p px w x y))),(.val (.int .i64 (((0:Nat):Int))))]):=by
 refine jH Tryz.func8 rfl cb8 rfl ?_
 show qS _ _ _ _ ⟨[(0,(.d (jN (kG.mk ((3:Nat):Int) ((3:Nat):Int) nx p)))),(1,(.d (jN (kG.mk ((w:Nat):Int) ((h:Nat):Int) mx px)))),(2,(vi x)),(3,(vi y))],[]⟩
 refine jA<|kx [(4,(.ref 0 0)),(5,(.ref 1 0)),(8,(.ref 2 0))] [(0,some (bx (jN (kG.mk ((3:Nat):Int) ((3:Nat):Int) nx p)))),(1,some (bx (jN (kG.mk ((w:Nat):Int) ((h:Nat):Int) mx px)))),(2,some (bx (jI nT)))] (zN (vL 0)<|zN (vL 1)<|zN (uX 2 qW uI)<|zM<|zZ) ?_
 refine jA<|jA<|kx [(10,(jL 0))] [] (zR (kI zQ)<|zR (kI zQ)<|zE (jX (c_both ((3:Nat):Int) ((3:Nat):Int) nx p ((w:Nat):Int) ((h:Nat):Int) mx px (by omega) (by have:=hC hw.2 hh.2 hl;omega) hcp hc))<|zM<|zZ) ?_
 refine jA<|kx [(16,(vb false))] [] (zM<|zE (vG false oNe)<|zZ) ?_
 refine kY ?_
 refine jC<|jA<|kx [(11,(.d (.cptr 1000001 (jQ.cells (yP (eA.mk (kG.mk ((3:Nat):Int) ((3:Nat):Int) nx p) (kG.mk ((w:Nat):Int) ((h:Nat):Int) mx px) (vH gJ px w h) (vH gQ px w h) (sm p) (xL p p)))) 0)))] [] (zR (kI zQ)<|zR (kI zQ)<|zE (jX (c_new nx p w h mx px hw hh hl hp hpl hpp hc))<|zM<|zZ) ?_
 refine jA<|jA<|kx [(26,(vb false))] [] (zM<|zM<|zM<|zE (vG true (jX (c_mat nx p w h mx px x y hw hh)) (by exact hat))<|zE oNt<|zZ) ?_
 refine kY ?_
 refine jC<|jA<|kx [(9,(jL 0))] [(2,some (bx (jI (jF (scF p px w x y)))))] (zM<|zM<|zM<|zE (jX (c_scI nx p w h mx px x y hw hh hl hp hpl hpp hat))<|zT (qF jP)<|zM<|zZ) ?_
 refine jE ⟨_,(kV (cs:=(bx (jI (jF (scF p px w x y))))) (d:=(jI (jF (scF p px w x y)))) rfl rfl jP rfl rfl (.tmp (d:=(.val (.int .i64 (((0:Nat):Int))))) rfl .nil)),?_⟩
 rfl
theorem by4:xK Tryz.prog 4=some 1:=by kernel_rfl
theorem by26:xK Tryz.prog 26=some 16:=by kernel_rfl
theorem cb6:callB Tryz.prog 6=true:=by kernel_rfl
theorem mJ:uW Tryz.prog 30=some (26,2):=by kernel_rfl
theorem el31:uW Tryz.prog 31=some (4,1):=by kernel_rfl
theorem vX:uA Tryz.prog 26 0=some 0:=by kernel_rfl
theorem vR:uA Tryz.prog 26 1=some 1:=by kernel_rfl
theorem pl26:yR Tryz.prog 26=some [(0,1),(1,1)]:=by kernel_rfl
theorem sh26:kZ Tryz.prog 26=some (true,2):=by kernel_rfl
theorem ze4:uL Tryz.prog 4=some [.bool false]:=by kernel_rfl
theorem ze26:uL Tryz.prog 26=some [.int .i64 0,.int .i64 0]:=by kernel_rfl
theorem zo4:gD [.bool false] [.val (.bool false)]:=by simp [gD,Value.oneCell']
theorem zo26:gD [.int .i64 0,.int .i64 0] [.val (.int .i64 0),.val (.int .i64 0)]:=by simp [gD,Value.oneCell']
theorem c_shY(pa:List Int)(w h:Nat)(mx:Int)(px:List Int)(x y:Nat)(e:Rat)(hee:QL e 16)(a:Int)(b:Int)(q:Rat)(hw:1≤w∧w≤64)(hh:1≤h∧h≤64)(hl:px.length=w*h)(hp:PxB px)(hla:pa.length=w*h)(hpa:PxB pa)(hc:gG ((w:Nat):Int) ((h:Nat):Int) mx px=0)(hca:gG ((w:Nat):Int) ((h:Nat):Int) mx pa=0)(hx:x+3≤w)(hy:y+3≤h)(he:e=((1:Int):Rat))(hq:QL q 12)(hres:pkA (scF (kL pa w x y) px w) (cX w h) (((x:Nat):Int)-3) (((y:Nat):Int)-3) 7 7=some (a,b,q))(hab:-1000≤a∧a≤1000∧-1000≤b∧b≤1000)(hge:¬ (0:Int)<dN e q):jR Tryz.prog 6 [(jN (kG.mk ((w:Nat):Int) ((h:Nat):Int) mx pa)),(jN (kG.mk ((w:Nat):Int) ((h:Nat):Int) mx px)),(.sl 26 2 (List.map qH [(qI.mk ((x:Nat):Int) ((y:Nat):Int))])),(.val (.int .i64 (((3:Nat):Int)))),(.val (.int .i64 (((3:Nat):Int)))),(jI (jF e))] (.tup [(.sl 26 2 (List.map qH [(qI.mk (a-((x:Nat):Int)) (b-((y:Nat):Int)))])),(.sl 4 1 (List.map xI [true])),(.val (.int .i64 (((0:Nat):Int))))]):=by
 have hwa:=yY pa w x y
 have hwp:=hpa.win w x y
 refine jH Tryz.func6 rfl cb6 rfl ?_
 show qS _ _ _ _ ⟨[(0,(.d (jN (kG.mk ((w:Nat):Int) ((h:Nat):Int) mx pa)))),(1,(.d (jN (kG.mk ((w:Nat):Int) ((h:Nat):Int) mx px)))),(2,(vl 26 2 qH [(qI.mk ((x:Nat):Int) ((y:Nat):Int))])),(3,(jL 3)),(4,(jL 3)),(5,(.d (jI (jF e))))],[]⟩
 refine jA<|kx [(6,(.ref 0 0)),(7,(.ref 1 0)),(11,(.ref 2 0))] [(0,some (bx (jN (kG.mk ((w:Nat):Int) ((h:Nat):Int) mx pa)))),(1,some (bx (jN (kG.mk ((w:Nat):Int) ((h:Nat):Int) mx px)))),(2,some (bx (jI (jF e))))] (zN (vL 0)<|zN (vL 1)<|zN (vL 2)<|zE (oNl 26 2)<|zE (oNl 4 1)<|zM<|zZ) ?_
 refine jA<|jA<|kx [(15,(jL 0))] [] (zR (kI zQ)<|zR (kI zQ)<|zE (jX (c_both ((w:Nat):Int) ((h:Nat):Int) mx pa ((w:Nat):Int) ((h:Nat):Int) mx px (by have:=hC (w:=w) (h:=h) (by omega) (by omega) hla;omega) (by have:=hC (w:=w) (h:=h) (by omega) (by omega) hl;omega) hca hc))<|zM<|zZ) ?_
 refine jA<|kx [(32,(vb false))] [] (zM<|zE (vG false oNe)<|zZ) ?_
 refine kY ?_
 refine jC<|jA<|jA<|kx [(47,(vb false))] [] (zM<|zE (vG false uE)<|zM<|zM<|zE (vG false gF)<|zE cB<|zM<|zM<|zE (vG false uE)<|zE cB<|zM<|zM<|zE (vG false gF)<|zE cB<|zZ) ?_
 refine kY ?_
 refine jC<|jA<|jA<|kx [(50,(vb false))] [] (zR (kI jP)<|zE (vG true (jX (f_valid (jF e) e (kO (kQ hee) (by decide)))) (by exact (fJ _)))<|zE oNt<|zZ) ?_
 refine kY ?_
 refine jC<|jA<|jA<|kx [(53,(vb false))] [] (zM<|zE (oLn mJ 1)<|zE (vG false gF)<|zZ) ?_
 refine kY ?_
 refine jC<|jA<|jA<|kx [(54,(vl 26 2 qH [(qI.mk ((x:Nat):Int) ((y:Nat):Int))])),(55,(jL 1)),(56,(jL 0))] [] (zM<|zE (oLn mJ 1)<|zM<|zZ) ?_
 refine jD<|uD 2 ?_
 refine uU<|jA<|kx [(57,(vb true))] [] (zE (vG true uE)<|zZ) ?_
 refine jA<|qB ?_
 refine jC<|jA<|jD<|jA<|kx [(17,(.ref 3 0))] [(3,some (bx (qH (qI.mk ((x:Nat):Int) ((y:Nat):Int)))))] (zE (dP mJ 0)<|zE (oCa sh26)<|zN (uX 3 ze26 zo26)<|zT (qF sh26)<|zZ) ?_
 refine jA<|kx [(85,(vb (((decide (((x:Nat):Int)<((0:Nat):Int))||decide (((y:Nat):Int)<((0:Nat):Int)))||decide ((((w-3):Nat):Int)<((x:Nat):Int)))||decide ((((h-3):Nat):Int)<((y:Nat):Int)))))] [] ?_ ?_
 ·refine zE (kJ vX)<|zR (kX qC)<|zE uE<|zE (oV (vb (decide (((x:Nat):Int)<((0:Nat):Int)))) (kT (by kernel_rfl)))<|?_
  rcases hb1:(decide (((x:Nat):Int)<((0:Nat):Int))) with _ | _
  ·replace hb1:=vK hb1
   refine zE (kJ vR)<|zR (kX qC)<|zE uE<|zE nS<|zE (oV (vb (false||decide (((y:Nat):Int)<((0:Nat):Int)))) (kT (by kernel_rfl)))<|?_
   rcases hb2:(false||decide (((y:Nat):Int)<((0:Nat):Int))) with _ | _
   ·replace hb2:=vK (p:=(((y:Nat):Int)<((0:Nat):Int))) hb2
    refine zE (kJ vX)<|zR (kX qC)<|zE (kJ uC)<|zR (kX qC)<|zM<|zE (cO (w-3))<|zE gF<|zE nS<|zE (oV (vb (false||decide ((((w-3):Nat):Int)<((x:Nat):Int)))) (kT (by kernel_rfl)))<|?_
    rcases hb3:(false||decide ((((w-3):Nat):Int)<((x:Nat):Int))) with _ | _
    ·replace hb3:=vK (p:=((((w-3):Nat):Int)<((x:Nat):Int))) hb3
     exact zE (kJ vR)<|zR (kX qC)<|zE (kJ zL)<|zR (kX qC)<|zM<|zE (cO (h-3))<|zE gF<|zE nS<|zZ
    ·replace hb3:=vM (p:=((((w-3):Nat):Int)<((x:Nat):Int))) hb3
     exact zK<|zK<|zK<|zK<|zK<|zK<|zK<|zE xB<|zZ
   ·replace hb2:=vM (p:=(((y:Nat):Int)<((0:Nat):Int))) hb2
    exact zK<|zK<|zK<|zK<|zK<|zK<|zK<|zE xB<|zM<|zK<|zK<|zK<|zK<|zK<|zK<|zK<|zE xB<|zZ
  ·replace hb1:=vM hb1
   exact zK<|zK<|zK<|zE xB<|zM<|zK<|zK<|zK<|zK<|zK<|zK<|zK<|zE xB<|zM<|zK<|zK<|zK<|zK<|zK<|zK<|zK<|zE xB<|zZ
 refine jG rfl (fun h4=>?_) (fun h4=>?_)
 ·exfalso;simp at h4;omega
 ·refine jC<|kx [(56,(jL 1))] [] (zE (qP 1 (hr:=by decide))<|zM<|zZ) ?_
  refine kA (kB.refl _) ?_
  refine jA<|kx [(57,(vb false))] [] (zE (vG false uE)<|zZ) ?_
  refine jA<|kY ?_
  refine jV<|jA<|kd [(18,(.own 4 26 2 1)),(19,(.own 5 4 1 1))] [(4,some (mV qH (List.replicate 1 (qI.mk 0 0)))),(5,some (bm xI (List.replicate 1 false)))] mo (wM<|wE (oLn mJ 1)<|wN (hc:=cT _ _ _) (oMkS 4 qH (qI.mk 0 0) 1 1 mJ ze26 zo26 by26)<|wM<|wE (oLn mJ 1)<|wH (hc:=cT _ _ _) (oMk 5 xI (false:Bool) 1 1 el31 ze4 zo4 by4)<|wM<|wM<|wZ) ?_
  refine jA<|jA<|kx [(93,(vl 26 2 qH [(qI.mk ((x:Nat):Int) ((y:Nat):Int))])),(94,(jL 1)),(95,(jL 0))] [] (zM<|zE (oLn mJ 1)<|zM<|zZ) ?_
  refine jD<|uD 2 ?_
  refine uU<|jA<|kE (wk (l:=[(3,(jL 3)),(4,(jL 3)),(6,(.ref 0 0)),(7,(.ref 1 0)),(11,(.ref 2 0)),(18,(.own 4 26 2 1)),(19,(.own 5 4 1 1)),(93,(vl 26 2 qH [(qI.mk ((x:Nat):Int) ((y:Nat):Int))])),(94,(jL 1)),(95,(jL 0))]) (b:=[(0,some (bx (jN (kG.mk ((w:Nat):Int) ((h:Nat):Int) mx pa)))),(1,some (bx (jN (kG.mk ((w:Nat):Int) ((h:Nat):Int) mx px)))),(2,some (bx (jI (jF e)))),(4,some (mV qH (List.replicate 1 (qI.mk 0 0)))),(5,some (bm xI (List.replicate 1 false)))])) ?_
  refine kx [(96,(vb true))] [] (zE (vG true uE)<|zZ) ?_
  refine jA<|qB ?_
  refine jC<|jA<|jD<|jA<|kx [(20,(jL 0)),(21,(.ref 6 0))] [(6,some (bx (qH (qI.mk ((x:Nat):Int) ((y:Nat):Int)))))] (zM<|zE (dP mJ 0)<|zE (oCa sh26)<|zH (uX 6 ze26 zo26)<|zM<|zT (qF sh26)<|zZ) ?_
  refine jA<|kx [(22,(.ref 7 0))] [(7,some (bx (jN (kG.mk ((3:Nat):Int) ((3:Nat):Int) mx (kL pa w x y)))))] (zR (kI zQ)<|zE (kJ vX)<|zR (kX qC)<|zE (kJ vR)<|zR (kX qC)<|zM<|zM<|zE (jX (c_crop w h mx pa x y (by omega) (by omega) hla hpa hca hx hy))<|zM<|zE vQ<|zE vQ<|zH (uX 7 ze24 zo24)<|zT (qF zQ)<|zM<|zZ) ?_
  refine jA<|kd [(24,(vi a)),(25,(vi b)),(26,(.ref 8 0)),(27,(vb true))] [(8,some (bx (jI (jF q))))] mo (wR (kI zQ)<|wR (kI zQ)<|wE (jX (c_new mx (kL pa w x y) w h mx px (by omega) (by omega) hl hp hwa hwp hc))<|wE (kJ vX)<|wR (kX qC)<|wM<|wE (cN (((x:Nat):Int)-3))<|wE (kJ vR)<|wR (kX qC)<|wM<|wE (cN (((y:Nat):Int)-3))<|wE (kJ vX)<|wR (kX qC)<|wM<|wE (qP (x+3))<|wE (kJ vR)<|wR (kX qC)<|wM<|wE (qP (y+3))<|wE (jX (c_peak mx (kL pa w x y) w h mx px (((x:Nat):Int)-3) (((y:Nat):Int)-3) (((x+3):Nat):Int) (((y+3):Nat):Int) a b q (by omega) (by omega) hl hp hwa hwp (by omega) (by omega) (by omega) (by omega) hq hres))<|wM<|wE vQ<|wE vQ<|wE vQ<|wE vQ<|wH (hc:=by kernel_rfl) (uX 8 qW uI)<|wM<|wM<|wT (qF jP)<|wM<|wZ) ?_
  refine jA<|kx [(142,(vb true))] [] (zM<|zM<|zR (kI jP)<|zR (kI jP)<|zE (vG false (jX (c_abv e hee q (qu hq))) (by exact decide_eq_false hge))<|zE oNt<|zE xB<|zZ) ?_
  refine qB ?_
  refine kx [] [(4,some (mV qH ((List.replicate 1 (qI.mk 0 0)).set 0 (qI.mk (a-((x:Nat):Int)) (b-((y:Nat):Int)))))),(5,some (bm xI ((List.replicate 1 false).set 0 true)))] (zM<|zM<|zM<|zM<|zM<|zE (kJ vX)<|zR (kX qC)<|zE (cN (a-((x:Nat):Int)) (hr:=by exact (qV rfl (by simp only[xZ];omega) (by simp only[zD];omega))))<|zM<|zE (kJ vR)<|zR (kX qC)<|zE (cN (b-((y:Nat):Int)) (hr:=by exact (qV rfl (by simp only[xZ];omega) (by simp only[zD];omega))))<|zE (oBd pl26 ze26 zo26)<|zE (oXO mJ 0)<|zT (oSA sh26 0 (qI.mk (a-((x:Nat):Int)) (b-((y:Nat):Int))) (h1:=by first | omega | simp))<|zE (cH el31 0)<|zT (oSp sh4 0 true (h1:=by first | omega | simp))<|zZ) ?_
  refine kx [(95,(jL 1))] [] (zE (qP 1 (hr:=by decide))<|zM<|zZ) ?_
  refine kA (kB.refl _) ?_
  refine jA<|kx [(96,(vb false))] [] (zE (vG false uE)<|zZ) ?_
  refine jA<|kY ?_
  refine jV<|jA<|kE (vP (t:=18) (k:=4) (es:=List.map qH ((List.replicate 1 (qI.mk 0 0)).set 0 (qI.mk (a-((x:Nat):Int)) (b-((y:Nat):Int))))) rfl rfl (nC _ _ (fun _=>rfl)) (uR _ _ rfl) (dX qH ((List.replicate 1 (qI.mk 0 0)).set 0 (qI.mk (a-((x:Nat):Int)) (b-((y:Nat):Int)))) (fun _=>rfl) rfl)) ?_
  refine kE (vP (t:=19) (k:=5) (es:=List.map xI ((List.replicate 1 false).set 0 true)) rfl rfl (qZ _ _ (fun _=>rfl)) (uR _ _ rfl) (uS _ _ (fun _=>rfl) rfl)) ?_
  refine kx [(12,(vl 26 2 qH ((List.replicate 1 (qI.mk 0 0)).set 0 (qI.mk (a-((x:Nat):Int)) (b-((y:Nat):Int)))))),(13,(vl 4 1 xI ((List.replicate 1 false).set 0 true))),(14,(jL 0))] [] (zM<|zM<|zM<|zM<|zM<|zZ) ?_
  refine jE ⟨_,(.tmp (d:=(.sl 26 2 (List.map qH ((List.replicate 1 (qI.mk 0 0)).set 0 (qI.mk (a-((x:Nat):Int)) (b-((y:Nat):Int))))))) rfl (.tmp (d:=(.sl 4 1 (List.map xI ((List.replicate 1 false).set 0 true)))) rfl (.tmp (d:=(.val (.int .i64 (((0:Nat):Int))))) rfl .nil))),?_⟩
  rfl
theorem c_shN(pa:List Int)(w h:Nat)(mx:Int)(px:List Int)(x y:Nat)(e:Rat)(hee:QL e 16)(a:Int)(b:Int)(q:Rat)(hw:1≤w∧w≤64)(hh:1≤h∧h≤64)(hl:px.length=w*h)(hp:PxB px)(hla:pa.length=w*h)(hpa:PxB pa)(hc:gG ((w:Nat):Int) ((h:Nat):Int) mx px=0)(hca:gG ((w:Nat):Int) ((h:Nat):Int) mx pa=0)(hx:x+3≤w)(hy:y+3≤h)(he:e=((1:Int):Rat))(hq:QL q 12)(hres:pkA (scF (kL pa w x y) px w) (cX w h) (((x:Nat):Int)-3) (((y:Nat):Int)-3) 7 7=some (a,b,q))(hab:-1000≤a∧a≤1000∧-1000≤b∧b≤1000)(hlt:(0:Int)<dN e q):jR Tryz.prog 6 [(jN (kG.mk ((w:Nat):Int) ((h:Nat):Int) mx pa)),(jN (kG.mk ((w:Nat):Int) ((h:Nat):Int) mx px)),(.sl 26 2 (List.map qH [(qI.mk ((x:Nat):Int) ((y:Nat):Int))])),(.val (.int .i64 (((3:Nat):Int)))),(.val (.int .i64 (((3:Nat):Int)))),(jI (jF e))] (.tup [(.sl 26 2 (List.map qH [(qI.mk 0 0)])),(.sl 4 1 (List.map xI [false])),(.val (.int .i64 (((0:Nat):Int))))]):=by
 have hwa:=yY pa w x y
 have hwp:=hpa.win w x y
 refine jH Tryz.func6 rfl cb6 rfl ?_
 show qS _ _ _ _ ⟨[(0,(.d (jN (kG.mk ((w:Nat):Int) ((h:Nat):Int) mx pa)))),(1,(.d (jN (kG.mk ((w:Nat):Int) ((h:Nat):Int) mx px)))),(2,(vl 26 2 qH [(qI.mk ((x:Nat):Int) ((y:Nat):Int))])),(3,(jL 3)),(4,(jL 3)),(5,(.d (jI (jF e))))],[]⟩
 refine jA<|kx [(6,(.ref 0 0)),(7,(.ref 1 0)),(11,(.ref 2 0))] [(0,some (bx (jN (kG.mk ((w:Nat):Int) ((h:Nat):Int) mx pa)))),(1,some (bx (jN (kG.mk ((w:Nat):Int) ((h:Nat):Int) mx px)))),(2,some (bx (jI (jF e))))] (zN (vL 0)<|zN (vL 1)<|zN (vL 2)<|zE (oNl 26 2)<|zE (oNl 4 1)<|zM<|zZ) ?_
 refine jA<|jA<|kx [(15,(jL 0))] [] (zR (kI zQ)<|zR (kI zQ)<|zE (jX (c_both ((w:Nat):Int) ((h:Nat):Int) mx pa ((w:Nat):Int) ((h:Nat):Int) mx px (by have:=hC (w:=w) (h:=h) (by omega) (by omega) hla;omega) (by have:=hC (w:=w) (h:=h) (by omega) (by omega) hl;omega) hca hc))<|zM<|zZ) ?_
 refine jA<|kx [(32,(vb false))] [] (zM<|zE (vG false oNe)<|zZ) ?_
 refine kY ?_
 refine jC<|jA<|jA<|kx [(47,(vb false))] [] (zM<|zE (vG false uE)<|zM<|zM<|zE (vG false gF)<|zE cB<|zM<|zM<|zE (vG false uE)<|zE cB<|zM<|zM<|zE (vG false gF)<|zE cB<|zZ) ?_
 refine kY ?_
 refine jC<|jA<|jA<|kx [(50,(vb false))] [] (zR (kI jP)<|zE (vG true (jX (f_valid (jF e) e (kO (kQ hee) (by decide)))) (by exact (fJ _)))<|zE oNt<|zZ) ?_
 refine kY ?_
 refine jC<|jA<|jA<|kx [(53,(vb false))] [] (zM<|zE (oLn mJ 1)<|zE (vG false gF)<|zZ) ?_
 refine kY ?_
 refine jC<|jA<|jA<|kx [(54,(vl 26 2 qH [(qI.mk ((x:Nat):Int) ((y:Nat):Int))])),(55,(jL 1)),(56,(jL 0))] [] (zM<|zE (oLn mJ 1)<|zM<|zZ) ?_
 refine jD<|uD 2 ?_
 refine uU<|jA<|kx [(57,(vb true))] [] (zE (vG true uE)<|zZ) ?_
 refine jA<|qB ?_
 refine jC<|jA<|jD<|jA<|kx [(17,(.ref 3 0))] [(3,some (bx (qH (qI.mk ((x:Nat):Int) ((y:Nat):Int)))))] (zE (dP mJ 0)<|zE (oCa sh26)<|zN (uX 3 ze26 zo26)<|zT (qF sh26)<|zZ) ?_
 refine jA<|kx [(85,(vb (((decide (((x:Nat):Int)<((0:Nat):Int))||decide (((y:Nat):Int)<((0:Nat):Int)))||decide ((((w-3):Nat):Int)<((x:Nat):Int)))||decide ((((h-3):Nat):Int)<((y:Nat):Int)))))] [] ?_ ?_
 ·refine zE (kJ vX)<|zR (kX qC)<|zE uE<|zE (oV (vb (decide (((x:Nat):Int)<((0:Nat):Int)))) (kT (by kernel_rfl)))<|?_
  rcases hb1:(decide (((x:Nat):Int)<((0:Nat):Int))) with _ | _
  ·replace hb1:=vK hb1
   refine zE (kJ vR)<|zR (kX qC)<|zE uE<|zE nS<|zE (oV (vb (false||decide (((y:Nat):Int)<((0:Nat):Int)))) (kT (by kernel_rfl)))<|?_
   rcases hb2:(false||decide (((y:Nat):Int)<((0:Nat):Int))) with _ | _
   ·replace hb2:=vK (p:=(((y:Nat):Int)<((0:Nat):Int))) hb2
    refine zE (kJ vX)<|zR (kX qC)<|zE (kJ uC)<|zR (kX qC)<|zM<|zE (cO (w-3))<|zE gF<|zE nS<|zE (oV (vb (false||decide ((((w-3):Nat):Int)<((x:Nat):Int)))) (kT (by kernel_rfl)))<|?_
    rcases hb3:(false||decide ((((w-3):Nat):Int)<((x:Nat):Int))) with _ | _
    ·replace hb3:=vK (p:=((((w-3):Nat):Int)<((x:Nat):Int))) hb3
     exact zE (kJ vR)<|zR (kX qC)<|zE (kJ zL)<|zR (kX qC)<|zM<|zE (cO (h-3))<|zE gF<|zE nS<|zZ
    ·replace hb3:=vM (p:=((((w-3):Nat):Int)<((x:Nat):Int))) hb3
     exact zK<|zK<|zK<|zK<|zK<|zK<|zK<|zE xB<|zZ
   ·replace hb2:=vM (p:=(((y:Nat):Int)<((0:Nat):Int))) hb2
    exact zK<|zK<|zK<|zK<|zK<|zK<|zK<|zE xB<|zM<|zK<|zK<|zK<|zK<|zK<|zK<|zK<|zE xB<|zZ
  ·replace hb1:=vM hb1
   exact zK<|zK<|zK<|zE xB<|zM<|zK<|zK<|zK<|zK<|zK<|zK<|zK<|zE xB<|zM<|zK<|zK<|zK<|zK<|zK<|zK<|zK<|zE xB<|zZ
 refine jG rfl (fun h4=>?_) (fun h4=>?_)
 ·exfalso;simp at h4;omega
 ·refine jC<|kx [(56,(jL 1))] [] (zE (qP 1 (hr:=by decide))<|zM<|zZ) ?_
  refine kA (kB.refl _) ?_
  refine jA<|kx [(57,(vb false))] [] (zE (vG false uE)<|zZ) ?_
  refine jA<|kY ?_
  refine jV<|jA<|kd [(18,(.own 4 26 2 1)),(19,(.own 5 4 1 1))] [(4,some (mV qH (List.replicate 1 (qI.mk 0 0)))),(5,some (bm xI (List.replicate 1 false)))] mo (wM<|wE (oLn mJ 1)<|wN (hc:=cT _ _ _) (oMkS 4 qH (qI.mk 0 0) 1 1 mJ ze26 zo26 by26)<|wM<|wE (oLn mJ 1)<|wH (hc:=cT _ _ _) (oMk 5 xI (false:Bool) 1 1 el31 ze4 zo4 by4)<|wM<|wM<|wZ) ?_
  refine jA<|jA<|kx [(93,(vl 26 2 qH [(qI.mk ((x:Nat):Int) ((y:Nat):Int))])),(94,(jL 1)),(95,(jL 0))] [] (zM<|zE (oLn mJ 1)<|zM<|zZ) ?_
  refine jD<|uD 2 ?_
  refine uU<|jA<|kE (wk (l:=[(3,(jL 3)),(4,(jL 3)),(6,(.ref 0 0)),(7,(.ref 1 0)),(11,(.ref 2 0)),(18,(.own 4 26 2 1)),(19,(.own 5 4 1 1)),(93,(vl 26 2 qH [(qI.mk ((x:Nat):Int) ((y:Nat):Int))])),(94,(jL 1)),(95,(jL 0))]) (b:=[(0,some (bx (jN (kG.mk ((w:Nat):Int) ((h:Nat):Int) mx pa)))),(1,some (bx (jN (kG.mk ((w:Nat):Int) ((h:Nat):Int) mx px)))),(2,some (bx (jI (jF e)))),(4,some (mV qH (List.replicate 1 (qI.mk 0 0)))),(5,some (bm xI (List.replicate 1 false)))])) ?_
  refine kx [(96,(vb true))] [] (zE (vG true uE)<|zZ) ?_
  refine jA<|qB ?_
  refine jC<|jA<|jD<|jA<|kx [(20,(jL 0)),(21,(.ref 6 0))] [(6,some (bx (qH (qI.mk ((x:Nat):Int) ((y:Nat):Int)))))] (zM<|zE (dP mJ 0)<|zE (oCa sh26)<|zH (uX 6 ze26 zo26)<|zM<|zT (qF sh26)<|zZ) ?_
  refine jA<|kx [(22,(.ref 7 0))] [(7,some (bx (jN (kG.mk ((3:Nat):Int) ((3:Nat):Int) mx (kL pa w x y)))))] (zR (kI zQ)<|zE (kJ vX)<|zR (kX qC)<|zE (kJ vR)<|zR (kX qC)<|zM<|zM<|zE (jX (c_crop w h mx pa x y (by omega) (by omega) hla hpa hca hx hy))<|zM<|zE vQ<|zE vQ<|zH (uX 7 ze24 zo24)<|zT (qF zQ)<|zM<|zZ) ?_
  refine jA<|kd [(24,(vi a)),(25,(vi b)),(26,(.ref 8 0)),(27,(vb true))] [(8,some (bx (jI (jF q))))] mo (wR (kI zQ)<|wR (kI zQ)<|wE (jX (c_new mx (kL pa w x y) w h mx px (by omega) (by omega) hl hp hwa hwp hc))<|wE (kJ vX)<|wR (kX qC)<|wM<|wE (cN (((x:Nat):Int)-3))<|wE (kJ vR)<|wR (kX qC)<|wM<|wE (cN (((y:Nat):Int)-3))<|wE (kJ vX)<|wR (kX qC)<|wM<|wE (qP (x+3))<|wE (kJ vR)<|wR (kX qC)<|wM<|wE (qP (y+3))<|wE (jX (c_peak mx (kL pa w x y) w h mx px (((x:Nat):Int)-3) (((y:Nat):Int)-3) (((x+3):Nat):Int) (((y+3):Nat):Int) a b q (by omega) (by omega) hl hp hwa hwp (by omega) (by omega) (by omega) (by omega) hq hres))<|wM<|wE vQ<|wE vQ<|wE vQ<|wE vQ<|wH (hc:=by kernel_rfl) (uX 8 qW uI)<|wM<|wM<|wT (qF jP)<|wM<|wZ) ?_
  refine jA<|kx [(142,(vb false))] [] (zM<|zM<|zR (kI jP)<|zR (kI jP)<|zE (vG true (jX (c_abv e hee q (qu hq))) (by exact decide_eq_true hlt))<|zE oNt<|zE xB<|zZ) ?_
  refine kY ?_
  refine jC<|kx [(95,(jL 1))] [] (zE (qP 1 (hr:=by decide))<|zM<|zZ) ?_
  refine kA (kB.refl _) ?_
  refine jA<|kx [(96,(vb false))] [] (zE (vG false uE)<|zZ) ?_
  refine jA<|kY ?_
  refine jV<|jA<|kE (vP (t:=18) (k:=4) (es:=List.map qH (List.replicate 1 (qI.mk 0 0))) rfl rfl (nC _ _ (fun _=>rfl)) (uR _ _ rfl) (dX qH (List.replicate 1 (qI.mk 0 0)) (fun _=>rfl) rfl)) ?_
  refine kE (vP (t:=19) (k:=5) (es:=List.map xI (List.replicate 1 false)) rfl rfl (qZ _ _ (fun _=>rfl)) (uR _ _ rfl) (uS _ _ (fun _=>rfl) rfl)) ?_
  refine kx [(12,(vl 26 2 qH (List.replicate 1 (qI.mk 0 0)))),(13,(vl 4 1 xI (List.replicate 1 false))),(14,(jL 0))] [] (zM<|zM<|zM<|zM<|zM<|zZ) ?_
  refine jE ⟨_,(.tmp (d:=(.sl 26 2 (List.map qH (List.replicate 1 (qI.mk 0 0))))) rfl (.tmp (d:=(.sl 4 1 (List.map xI (List.replicate 1 false)))) rfl (.tmp (d:=(.val (.int .i64 (((0:Nat):Int))))) rfl .nil))),?_⟩
  rfl
end Go.Proofs.YteimogfidbkpnaaGreat
namespace Go.Fid
theorem rst_chk{w h:Nat}{mx:Int}{px:List Int}(w1:1≤w)(w2:w≤64)(h1:1≤h)(h2:h≤64)(hl:px.length=w*h)(m1:1≤mx)(m2:mx≤65535)(hp:px.any (gB mx)=false):gG ((w:Nat):Int) ((h:Nat):Int) mx px=0:=by
 have:chkB ((w:Nat):Int) ((h:Nat):Int) mx px=false:=by
  simp only[chkB,Bool.or_eq_false_iff,bne_eq_false_iff_eq,decide_eq_false_iff_not]
  refine ⟨⟨⟨by omega,by omega⟩,by omega⟩,?_⟩
  rw[hl];rfl
 exact chk_3 this hp
theorem px_ok{mx:Int}{px:List Int}:px.any (gB mx)=false↔∀ x∈px,0≤x∧x≤mx:=by
 rw[List.any_eq_false]
 constructor
 ·intro h x hx;have:=h x hx;simp only[gB,Bool.or_eq_true,decide_eq_true_eq,not_or] at this;omega
 ·intro h x hx;have:=h x hx;simp only[gB,Bool.or_eq_true,decide_eq_true_eq,not_or];omega
def mvP(px:List Int)(w d k:Nat):Int:=px.getD (k / w*w+min (k % w+d) (w-1)) 0
def mvL(px:List Int)(w d n:Nat):List Int:=(List.range n).map (mvP px w d)
theorem mvL_len(px:List Int)(w d n:Nat):(mvL px w d n).length=n:=by unfold mvL;simp
theorem mvL_s(px:List Int)(w d n:Nat):mvL px w d (n+1)=mvL px w d n++[mvP px w d n]:=by unfold mvL;rw[List.range_succ,List.map_append];rfl
theorem div_in{k w h:Nat}(hk:k<w*h)(hw:1≤w):k / w<h:=Nat.div_lt_of_lt_mul hk
theorem mv_ix{px:List Int}{k w h d:Nat}(hl:px.length=w*h)(hk:k<px.length)(hw:1≤w):k / w*w+min (k % w+d) (w-1)<px.length:=by
 rw[hl] at hk ⊢
 exact dK (div_in hk hw) (by omega)
theorem mv_at{px:List Int}{w h d x y:Nat}(hl:px.length=w*h)(hx:x<w)(hy:y<h):(mvL px w d px.length).getD (y*w+x) 0=px.getD (y*w+min (x+d) (w-1)) 0:=by
 have hi:=dK hy hx
 rw[← hl] at hi
 rw[show (mvL px w d px.length).getD (y*w+x) 0=mvP px w d (y*w+x) from map_rng _ _ hi]
 unfold mvP
 have e1:(y*w+x) / w=y:=by
  rw[Nat.add_comm,Nat.add_mul_div_right _ _ (by omega),Nat.div_eq_of_lt hx,Nat.zero_add]
 have e2:(y*w+x) % w=x:=by
  rw[Nat.add_comm,Nat.add_mul_mod_self_right,Nat.mod_eq_of_lt hx]
 rw[e1,e2]
theorem mv_win{px:List Int}{w h d x y:Nat}(hl:px.length=w*h)(hd:d≤x)(hx:x+3≤w)(hy:y+3≤h):kL (mvL px w d px.length) w (x-d) y=kL px w x y:=by
 unfold kL
 refine List.map_congr_left fun i hi=>?_
 have hi:=List.mem_range.1 hi
 have:=mv_at (d:=d) (x:=x-d+i % 3) (y:=y+i / 3) hl (by omega) (by omega)
 rw[Nat.add_assoc,this,Nat.add_assoc]
 congr 1
 omega
theorem mv_mem{px:List Int}{w h d:Nat}{mx:Int}(hl:px.length=w*h)(hw:1≤w)(hp:∀ z∈px,0≤z∧z≤mx):∀ z∈mvL px w d px.length,0≤z∧z≤mx:=by
 intro z hz
 unfold mvL at hz
 obtain ⟨k,hk,rfl⟩:=List.mem_map.1 hz
 have hk:=List.mem_range.1 hk
 have hi:=mv_ix (d:=d) hl hk hw
 unfold mvP
 rw[List.getD_eq_getElem?_getD,List.getElem?_eq_getElem hi,Option.getD_some]
 exact hp _ (List.getElem_mem _)
theorem pxb_of{px:List Int}{mx:Int}(m2:mx≤65535)(hp:∀ z∈px,0≤z∧z≤mx):PxB px:=fun i=>by
 by_cases hi:i<px.length
 ·rw[List.getD_eq_getElem?_getD,List.getElem?_eq_getElem hi,Option.getD_some]
  have:=hp _ (List.getElem_mem hi)
  omega
 ·rw[List.getD_eq_getElem?_getD,List.getElem?_eq_none (by omega)]
  decide
def mL(px:List Int)(w x y:Nat):Nat→Bool
 |0=>true
 |k+1=>mL px w x y k&&(px.getD ((y+k / 3)*w+x+k % 3) 0 == px.getD (y*w+x) 0)
theorem flt_all{px:List Int}{w x y:Nat}:∀ n,mL px w x y n=true↔∀ k,k<n→px.getD ((y+k / 3)*w+x+k % 3) 0=px.getD (y*w+x) 0
 |0=>by simp [mL]
 |n+1=>by
  have ih:=flt_all (px:=px) (w:=w) (x:=x) (y:=y) n
  simp only[mL,Bool.and_eq_true,beq_iff_eq]
  rw[ih]
  constructor
  ·rintro ⟨h1,h2⟩ k hk
   rcases Nat.lt_or_ge k n with h | h
   ·exact h1 k h
   ·rw[show k=n by omega];exact h2
  ·intro h
   exact ⟨fun k hk=>h k (by omega),h n (by omega)⟩
theorem win_0(px:List Int)(w x y:Nat):(kL px w x y).getD 0 0=px.getD (y*w+x) 0:=winL_at (by decide)
theorem flt_cov{px:List Int}{w x y:Nat}:(mL px w x y 9=true→xL (kL px w x y) (kL px w x y)=0)∧(mL px w x y 9=false→0<xL (kL px w x y) (kL px w x y)):=by
 have hm:∀ z,z∈kL px w x y↔∃ k,k<9∧px.getD ((y+k / 3)*w+x+k % 3) 0=z:=fun z=>by
  unfold kL
  simp only[List.mem_map,List.mem_range]
 constructor
 ·intro h
  refine cov_flat (c:=px.getD (y*w+x) 0) fun z hz=>?_
  obtain ⟨k,hk,rfl⟩:=(hm z).1 hz
  exact (flt_all 9).1 h k hk
 ·intro h
  refine cov_pos (fun e=>?_) fun hall=>?_
  ·have:=yY px w x y
   rw[e] at this;cases this
  ·have:mL px w x y 9=true:=(flt_all 9).2 fun k hk=>by
    have:=hall _ ((hm _).2 ⟨k,hk,rfl⟩)
    rw[win_0] at this;exact this
   rw[h] at this;cases this
theorem ts_flat{px l:List Int}{w h x y:Nat}(hf:mL px w x y 9=true)(hx:x+3≤w)(hy:y+3≤h) :
  ∃ a b,pkA (scF (kL px w x y) l w) (cX w h) (((x:Nat):Int)-3) (((y:Nat):Int)-3) 7 7=some (a,b,((0:Int):Rat))∧(((x:Nat):Int)-3≤a∧a≤((x:Nat):Int)+3∧((y:Nat):Int)-3≤b∧b≤((y:Nat):Int)+3):=by
 have h0:∀ u v,scF (kL px w x y) l w u v=((0:Int):Rat):=fun u v=>scW_flat _ (flt_cov.1 hf)
 have hk:=pkI_A (sc:=scF (kL px w x y) l w) (ok:=cX w h) (x0:=((x:Nat):Int)-3) (y0:=((y:Nat):Int)-3) (m:=7) 7
 have hat:cX w h x y=true:=mAtB_y (by omega) (by omega) (by omega) (by omega)
 revert hk
 match pkA (scF (kL px w x y) l w) (cX w h) (((x:Nat):Int)-3) (((y:Nat):Int)-3) 7 7 with
 |none=>intro hk;rw[hk x y (by omega)] at hat;cases hat
 |some (a,b,q)=>
  rintro ⟨k1,k2,k3,k4⟩
  exact ⟨a,b,by rw[k3,h0],by omega⟩
theorem ts_one{px:List Int}{w h d x y:Nat}(hl:px.length=w*h)(hf:mL px w x y 9=false)(hd:d≤x)(hd3:d≤3)(hx:x+3≤w)(hy:y+3≤h) :
  ∃ a b,pkA (scF (kL px w x y) (mvL px w d px.length) w) (cX w h) (((x:Nat):Int)-3) (((y:Nat):Int)-3) 7 7=some (a,b,((1:Int):Rat))∧(((x:Nat):Int)-3≤a∧a≤((x:Nat):Int)+3∧((y:Nat):Int)-3≤b∧b≤((y:Nat):Int)+3) ∧
   cX w h a b=true∧scF (kL px w x y) (mvL px w d px.length) w a b=((1:Int):Rat)∧(b<((y:Nat):Int)∨b=((y:Nat):Int)∧a≤((x:Nat):Int)-((d:Nat):Int)):=by
 have e1:((1:Int):Rat)=1:=rfl
 have hle:∀ u v,scF (kL px w x y) (mvL px w d px.length) w u v≤1:=fun u v=>scW_le (by rw[yY,yY])
 have hat:cX w h ((x-d:Nat):Int) y=true:=mAtB_y (by omega) (by omega) (by omega) (by omega)
 have h1:scF (kL px w x y) (mvL px w d px.length) w ((x-d:Nat):Int) y=1:=by
  show scW _ (kL _ _ (((x-d:Nat):Int)).toNat ((y:Nat):Int).toNat)=1
  rw[Int.toNat_natCast,Int.toNat_natCast,mv_win hl hd hx hy]
  exact scW_one (flt_cov.2 hf)
 obtain ⟨a,b,g1,g2,g3,g4,g5,g6,g7⟩:=pk_one (x0:=((x:Nat):Int)-3) (y0:=((y:Nat):Int)-3) (m:=7) (n:=7) hle hat h1 (by omega)
 rw[e1]
 exact ⟨a,b,g1,by omega,g2,g3,by omega⟩
end Go.Fid
