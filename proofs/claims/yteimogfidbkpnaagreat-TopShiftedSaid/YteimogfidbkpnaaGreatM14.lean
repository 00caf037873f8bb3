/- Part 14 of a proof: rules, plain facts, and functions walked. -/
import Derived.Test.YteimogfidbkpnaaGreatM9
import Derived.Test.YteimogfidbkpnaaGreatM13
import Derived.Test.YteimogfidbkpnaaGreatM10
import Derived.Test.YteimogfidbkpnaaGreatChecked
set_option linter.all false
set_option maxRecDepth 4000
namespace Go.Proofs.YteimogfidbkpnaaGreat
open Go.Fid
def jJ(x:kM):jQ:=.agg [.val (.bool x.neg),.sl 121 1 (x.gs.map jB)]
def jI(x:qK):jQ:=.agg [.val (.bool x.num.neg),.sl 121 1 (x.num.gs.map jB),.val (.bool x.den.neg),.sl 121 1 (x.den.gs.map jB)]
def encG(x:RRng):jQ:=.agg [.val (.bool x.lo.num.neg),.sl 121 1 (x.lo.num.gs.map jB),.val (.bool x.lo.den.neg),.sl 121 1 (x.lo.den.gs.map jB),.val (.bool x.hi.num.neg),.sl 121 1 (x.hi.num.gs.map jB),.val (.bool x.hi.den.neg),.sl 121 1 (x.hi.den.gs.map jB)]
structure qI where
 x:Int
 y:Int
def qH(x:qI):jQ:=.agg [.val (.int .i64 x.x),.val (.int .i64 x.y)]
structure nY where
 x:qK
 y:qK
def yV(x:nY):jQ:=.agg [.val (.bool x.x.num.neg),.sl 121 1 (x.x.num.gs.map jB),.val (.bool x.x.den.neg),.sl 121 1 (x.x.den.gs.map jB),.val (.bool x.y.num.neg),.sl 121 1 (x.y.num.gs.map jB),.val (.bool x.y.den.neg),.sl 121 1 (x.y.den.gs.map jB)]
structure uG where
 x:Int
 y:Int
 z:Int
def eQ(x:uG):jQ:=.agg [.val (.int .i64 x.x),.val (.int .i64 x.y),.val (.int .i64 x.z)]
def vY(x:kK):jQ:=.agg [.val (.int .i64 x.a),.val (.int .i64 x.b),.val (.int .i64 x.c),.val (.int .i64 x.d)]
structure xN where
 at_:uG
 turn:kK
 focal:Int
 centre:qI
def encStn(x:xN):jQ:=.agg [.val (.int .i64 x.at_.x),.val (.int .i64 x.at_.y),.val (.int .i64 x.at_.z),.val (.int .i64 x.turn.a),.val (.int .i64 x.turn.b),.val (.int .i64 x.turn.c),.val (.int .i64 x.turn.d),.val (.int .i64 x.focal),.val (.int .i64 x.centre.x),.val (.int .i64 x.centre.y)]
structure mC where
 left:xN
 right:xN
def gO(x:mC):jQ:=.agg [.val (.int .i64 x.left.at_.x),.val (.int .i64 x.left.at_.y),.val (.int .i64 x.left.at_.z),.val (.int .i64 x.left.turn.a),.val (.int .i64 x.left.turn.b),.val (.int .i64 x.left.turn.c),.val (.int .i64 x.left.turn.d),.val (.int .i64 x.left.focal),.val (.int .i64 x.left.centre.x),.val (.int .i64 x.left.centre.y),.val (.int .i64 x.right.at_.x),.val (.int .i64 x.right.at_.y),.val (.int .i64 x.right.at_.z),.val (.int .i64 x.right.turn.a),.val (.int .i64 x.right.turn.b),.val (.int .i64 x.right.turn.c),.val (.int .i64 x.right.turn.d),.val (.int .i64 x.right.focal),.val (.int .i64 x.right.centre.x),.val (.int .i64 x.right.centre.y)]
structure kG where
 width:Int
 height:Int
 max_:Int
 pixels:List Int
def jN(x:kG):jQ:=.agg [.val (.int .i64 x.width),.val (.int .i64 x.height),.val (.int .i64 x.max_),.sl 3 1 (x.pixels.map jT)]
structure eA where
 patch:kG
 image:kG
 sums:List (List Int)
 powers:List (List Int)
 sum_:Int
 spread:Int
def yZ(l:List (Int)):jQ:=.sl 3 1 (l.map jT)
def yP(x:eA):jQ:=.agg [.val (.int .i64 x.patch.width),.val (.int .i64 x.patch.height),.val (.int .i64 x.patch.max_),.sl 3 1 (x.patch.pixels.map jT),.val (.int .i64 x.image.width),.val (.int .i64 x.image.height),.val (.int .i64 x.image.max_),.sl 3 1 (x.image.pixels.map jT),.sl 22 1 (x.sums.map yZ),.sl 22 1 (x.powers.map yZ),.val (.int .i64 x.sum_),.val (.int .i64 x.spread)]
structure A3 (α:Type) where
 a0:α
 a1:α
 a2:α
structure A4 (α:Type) where
 a0:α
 a1:α
 a2:α
 a3:α
def kH(x:A3 (qK)):jQ:=.agg [.val (.bool x.a0.num.neg),.sl 121 1 (x.a0.num.gs.map jB),.val (.bool x.a0.den.neg),.sl 121 1 (x.a0.den.gs.map jB),.val (.bool x.a1.num.neg),.sl 121 1 (x.a1.num.gs.map jB),.val (.bool x.a1.den.neg),.sl 121 1 (x.a1.den.gs.map jB),.val (.bool x.a2.num.neg),.sl 121 1 (x.a2.num.gs.map jB),.val (.bool x.a2.den.neg),.sl 121 1 (x.a2.den.gs.map jB)]
def vU(x:A3 (A3 (qK))):jQ:=.agg [.val (.bool x.a0.a0.num.neg),.sl 121 1 (x.a0.a0.num.gs.map jB),.val (.bool x.a0.a0.den.neg),.sl 121 1 (x.a0.a0.den.gs.map jB),.val (.bool x.a0.a1.num.neg),.sl 121 1 (x.a0.a1.num.gs.map jB),.val (.bool x.a0.a1.den.neg),.sl 121 1 (x.a0.a1.den.gs.map jB),.val (.bool x.a0.a2.num.neg),.sl 121 1 (x.a0.a2.num.gs.map jB),.val (.bool x.a0.a2.den.neg),.sl 121 1 (x.a0.a2.den.gs.map jB),.val (.bool x.a1.a0.num.neg),.sl 121 1 (x.a1.a0.num.gs.map jB),.val (.bool x.a1.a0.den.neg),.sl 121 1 (x.a1.a0.den.gs.map jB),.val (.bool x.a1.a1.num.neg),.sl 121 1 (x.a1.a1.num.gs.map jB),.val (.bool x.a1.a1.den.neg),.sl 121 1 (x.a1.a1.den.gs.map jB),.val (.bool x.a1.a2.num.neg),.sl 121 1 (x.a1.a2.num.gs.map jB),.val (.bool x.a1.a2.den.neg),.sl 121 1 (x.a1.a2.den.gs.map jB),.val (.bool x.a2.a0.num.neg),.sl 121 1 (x.a2.a0.num.gs.map jB),.val (.bool x.a2.a0.den.neg),.sl 121 1 (x.a2.a0.den.gs.map jB),.val (.bool x.a2.a1.num.neg),.sl 121 1 (x.a2.a1.num.gs.map jB),.val (.bool x.a2.a1.den.neg),.sl 121 1 (x.a2.a1.den.gs.map jB),.val (.bool x.a2.a2.num.neg),.sl 121 1 (x.a2.a2.num.gs.map jB),.val (.bool x.a2.a2.den.neg),.sl 121 1 (x.a2.a2.den.gs.map jB)]
def dG(x:A4 (Int)):jQ:=.agg [.val (.int .i64 x.a0),.val (.int .i64 x.a1),.val (.int .i64 x.a2),.val (.int .i64 x.a3)]
def encA159(x:A3 (Int)):jQ:=.agg [.val (.int .i64 x.a0),.val (.int .i64 x.a1),.val (.int .i64 x.a2)]
def encA160(x:A3 (A3 (Int))):jQ:=.agg [.val (.int .i64 x.a0.a0),.val (.int .i64 x.a0.a1),.val (.int .i64 x.a0.a2),.val (.int .i64 x.a1.a0),.val (.int .i64 x.a1.a1),.val (.int .i64 x.a1.a2),.val (.int .i64 x.a2.a0),.val (.int .i64 x.a2.a1),.val (.int .i64 x.a2.a2)]
structure RRp where
 left:xN
 right:xN
 base:A3 (qK)
 axes:A3 (A3 (qK))
def encRp(x:RRp):jQ:=.agg [.val (.int .i64 x.left.at_.x),.val (.int .i64 x.left.at_.y),.val (.int .i64 x.left.at_.z),.val (.int .i64 x.left.turn.a),.val (.int .i64 x.left.turn.b),.val (.int .i64 x.left.turn.c),.val (.int .i64 x.left.turn.d),.val (.int .i64 x.left.focal),.val (.int .i64 x.left.centre.x),.val (.int .i64 x.left.centre.y),.val (.int .i64 x.right.at_.x),.val (.int .i64 x.right.at_.y),.val (.int .i64 x.right.at_.z),.val (.int .i64 x.right.turn.a),.val (.int .i64 x.right.turn.b),.val (.int .i64 x.right.turn.c),.val (.int .i64 x.right.turn.d),.val (.int .i64 x.right.focal),.val (.int .i64 x.right.centre.x),.val (.int .i64 x.right.centre.y),.val (.bool x.base.a0.num.neg),.sl 121 1 (x.base.a0.num.gs.map jB),.val (.bool x.base.a0.den.neg),.sl 121 1 (x.base.a0.den.gs.map jB),.val (.bool x.base.a1.num.neg),.sl 121 1 (x.base.a1.num.gs.map jB),.val (.bool x.base.a1.den.neg),.sl 121 1 (x.base.a1.den.gs.map jB),.val (.bool x.base.a2.num.neg),.sl 121 1 (x.base.a2.num.gs.map jB),.val (.bool x.base.a2.den.neg),.sl 121 1 (x.base.a2.den.gs.map jB),.val (.bool x.axes.a0.a0.num.neg),.sl 121 1 (x.axes.a0.a0.num.gs.map jB),.val (.bool x.axes.a0.a0.den.neg),.sl 121 1 (x.axes.a0.a0.den.gs.map jB),.val (.bool x.axes.a0.a1.num.neg),.sl 121 1 (x.axes.a0.a1.num.gs.map jB),.val (.bool x.axes.a0.a1.den.neg),.sl 121 1 (x.axes.a0.a1.den.gs.map jB),.val (.bool x.axes.a0.a2.num.neg),.sl 121 1 (x.axes.a0.a2.num.gs.map jB),.val (.bool x.axes.a0.a2.den.neg),.sl 121 1 (x.axes.a0.a2.den.gs.map jB),.val (.bool x.axes.a1.a0.num.neg),.sl 121 1 (x.axes.a1.a0.num.gs.map jB),.val (.bool x.axes.a1.a0.den.neg),.sl 121 1 (x.axes.a1.a0.den.gs.map jB),.val (.bool x.axes.a1.a1.num.neg),.sl 121 1 (x.axes.a1.a1.num.gs.map jB),.val (.bool x.axes.a1.a1.den.neg),.sl 121 1 (x.axes.a1.a1.den.gs.map jB),.val (.bool x.axes.a1.a2.num.neg),.sl 121 1 (x.axes.a1.a2.num.gs.map jB),.val (.bool x.axes.a1.a2.den.neg),.sl 121 1 (x.axes.a1.a2.den.gs.map jB),.val (.bool x.axes.a2.a0.num.neg),.sl 121 1 (x.axes.a2.a0.num.gs.map jB),.val (.bool x.axes.a2.a0.den.neg),.sl 121 1 (x.axes.a2.a0.den.gs.map jB),.val (.bool x.axes.a2.a1.num.neg),.sl 121 1 (x.axes.a2.a1.num.gs.map jB),.val (.bool x.axes.a2.a1.den.neg),.sl 121 1 (x.axes.a2.a1.den.gs.map jB),.val (.bool x.axes.a2.a2.num.neg),.sl 121 1 (x.axes.a2.a2.num.gs.map jB),.val (.bool x.axes.a2.a2.den.neg),.sl 121 1 (x.axes.a2.a2.den.gs.map jB)]
def uQ(l:List (qK)):jQ:=.sl 38 4 (l.map jI)
theorem avo_encR(h121:121≠1000000)(x:qK):zP 1000000 (jI x):=.agg (gW (.val _) (gW (avo_vals h121 _) (gW (.val _) (gW (avo_vals h121 _) avo_nil))))
theorem avo_encRst(h3:3≠1000000)(x:kG):zP 1000000 (jN x):=.agg (gW (.val _) (gW (.val _) (gW (.val _) (gW (avo_vals h3 _) avo_nil))))
theorem mo:Tryz.prog.follows .mixedOrders=true:=by kernel_rfl
theorem cb74:callB Tryz.prog 74=true:=by kernel_rfl
theorem cb75:callB Tryz.prog 75=true:=by kernel_rfl
theorem cb106:callB Tryz.prog 106=true:=by kernel_rfl
theorem vI:uW Tryz.prog 22=some (3,1):=by kernel_rfl
theorem dT:uA Tryz.prog 24 2=some 2:=by kernel_rfl
theorem qC:kZ Tryz.prog 3=some (false,1):=by kernel_rfl
theorem p_chkC(n:Int)(w h mx:Int)(px:List Int):jR Tryz.prog 75 [(.val (.int .i64 (n))),(.cptr 1000000 (jQ.cells (jN (kG.mk w h mx px))) 0)] (.val (.bool ((gB mx n)))):=by
 refine jH Tryz.func75 rfl cb75 rfl ?_
 show qS _ _ _ _ ⟨[(0,(vi n)),(1,(.d (.cptr 1000000 (jQ.cells (jN (kG.mk w h mx px))) 0)))],[]⟩
 refine jA<|kx [] [] (zM<|zZ) ?_
 refine jA<|kx [(3,(vb (decide (n<0)||decide (mx<n))))] [] ?_ ?_
 ·refine zM<|zE uE<|zE (oV (vb (decide (n<0))) (kT (by kernel_rfl)))<|?_
  rcases hb1:(decide (n<0)) with _ | _
  ·replace hb1:=vK hb1
   exact zM<|zE (mZ dT)<|zE (xE qC)<|zE gF<|zE nS<|zM<|zZ
  ·replace hb1:=vM hb1
   exact zK<|zK<|zK<|zK<|zE xB<|zM<|zZ
 refine jE ⟨_,(.tmp (d:=(.val (.bool ((decide (n<0)||decide (mx<n)))))) rfl .nil),?_⟩
 rfl
theorem p_chkAI(l:List Int)(w h mx:Int)(px:List Int)(hb:l.length≤1000000):jR Tryz.prog 106 [(.sl 3 1 (List.map jT l)),(.clo 75 [(.cptr 1000000 (jQ.cells (jN (kG.mk w h mx px))) 0)])] (.val (.int .i64 ((yO (gB mx) l 0)))):=by
 refine jH Tryz.func106 rfl cb106 rfl ?_
 show qS _ _ _ _ ⟨[(0,(vl 3 1 jT l)),(1,(.d (.clo 75 [(.cptr 1000000 (jQ.cells (jN (kG.mk w h mx px))) 0)])))],[]⟩
 refine jA<|kx [] [] (zM<|zZ) ?_
 refine jA<|jA<|kx [(7,(jL l.length)),(8,(jL 0))] [] (zM<|zE (yU vI)<|zM<|zZ) ?_
 refine jD<|kP (α:=Nat) (fun k=>⟨[(0,(vl 3 1 jT l)),(1,(.d (.clo 75 [(.cptr 1000000 (jQ.cells (jN (kG.mk w h mx px))) 0)]))),(7,(jL l.length)),(8,(jL k))],[]⟩) (fun k=>k≤l.length∧yO (gB mx) l 0=yO (gB mx) (l.drop k) k) (fun k=>l.length-k) 0 wk ⟨Nat.zero_le _,rfl⟩ ?_
 rintro k ⟨hk,hv⟩
 refine jA<|kx [(9,(vb (decide (((k:Nat):Int)<((l.length:Nat):Int)))))] [] (zE uE<|zZ) ?_
 refine jA<|jG rfl (fun h1=>?_) (fun h1=>?_)
 ·replace h1:=vM h1
  refine jC<|jA<|jD<|jA<|kx [(5,(jL k))] [] (zM<|zM<|zZ) ?_
  refine jA<|kx [(16,(vb (gB mx (l.getD k 0))))] [] (zM<|zM<|zM<|zE (nG vI k (0:Int))<|zE (xE qC)<|zE (oCd (ds:=[(.val (.int .i64 ((l.getD k 0))))]) (caps:=[(.cptr 1000000 (jQ.cells (jN (kG.mk w h mx px))) 0)]) (p_chkC (l.getD k 0) w h mx px))<|zZ) ?_
  refine jG (b:=(gB mx (l.getD k 0))) rfl (fun h2=>?_) (fun h2=>?_)
  ·have hix:=firstIx_at _ l k (by omega) h2
   refine jA<|kx [(4,(jL k))] [] (zM<|zM<|zZ) ?_
   refine jE ⟨_,(.tmp (d:=(.val (.int .i64 (((k:Nat):Int))))) rfl .nil),?_⟩
   rw[hv,hix];rfl
  ·have hix:=firstIx_step _ l k (by omega) h2
   refine jC<|kx [(8,(jL (k+1)))] [] (zE (qP (k+1))<|zM<|zZ) ?_
   exact ⟨(k+1),wk,⟨by omega,hv.trans hix⟩,(by omega)⟩
 ·replace h1:=vK h1
  have hix:=firstIx_end (gB mx) l k (by omega)
  refine jV<|jA<|kx [(4,(vi (-1)))] [] (zM<|zZ) ?_
  refine jE ⟨_,(.tmp (d:=(.val (.int .i64 (-1)))) rfl .nil),?_⟩
  rw[hv,hix];rfl
theorem p_chkA(l:List Int)(w h mx:Int)(px:List Int)(hb:l.length≤1000000):jR Tryz.prog 74 [(.sl 3 1 (List.map jT l)),(.clo 75 [(.cptr 1000000 (jQ.cells (jN (kG.mk w h mx px))) 0)])] (.val (.bool ((l.any (gB mx))))):=by
 refine jH Tryz.func74 rfl cb74 rfl ?_
 show qS _ _ _ _ ⟨[(0,(vl 3 1 jT l)),(1,(.d (.clo 75 [(.cptr 1000000 (jQ.cells (jN (kG.mk w h mx px))) 0)])))],[]⟩
 refine jA<|kx [] [] (zM<|zZ) ?_
 refine jA<|kx [(4,(vb (decide (0≤(yO (gB mx) l 0)))))] [] (zM<|zM<|zE (jX (p_chkAI l w h mx px hb))<|zE oGe<|zM<|zZ) ?_
 refine jE ⟨_,(.tmp (d:=(.val (.bool (decide (0≤(yO (gB mx) l 0)))))) rfl .nil),?_⟩
 rw[firstIx_any];rfl
theorem cb33:callB Tryz.prog 33=true:=by kernel_rfl
theorem uC:uA Tryz.prog 24 0=some 0:=by kernel_rfl
theorem zL:uA Tryz.prog 24 1=some 1:=by kernel_rfl
theorem uY:uA Tryz.prog 24 3=some 3:=by kernel_rfl
theorem xT:kZ Tryz.prog 22=some (false,1):=by kernel_rfl
theorem p_chk(w h mx:Int)(px:List Int)(hb:px.length≤1000000):jR Tryz.prog 33 [(jN (kG.mk w h mx px))] (.val (.int .i64 ((gG w h mx px)))):=by
 refine jH Tryz.func33 rfl cb33 rfl ?_
 show qS _ _ _ _ ⟨[(0,(.d (jN (kG.mk w h mx px))))],[]⟩
 refine jA<|kx [(1,(.ref 0 0))] [(0,some (bx (jN (kG.mk w h mx px))))] (zN (vL 0)<|zM<|zZ) ?_
 refine jA<|jA<|kx [(34,(vb (((decide ((min (min w h) mx)<1)||decide (64<(max w h)))||decide (65535<mx))||(((px.length:Nat):Int) != (w*h)))))] [] ?_ ?_
 ·refine zE (kJ uC)<|zR (kX qC)<|zE (kJ zL)<|zR (kX qC)<|zE (kJ dT)<|zR (kX qC)<|zE (oN3 (min (min w h) mx) (hr:=by exact rfl))<|zE uE<|zE (oV (vb (decide ((min (min w h) mx)<1))) (kT (by kernel_rfl)))<|?_
  rcases hb1:(decide ((min (min w h) mx)<1)) with _ | _
  ·replace hb1:=vK hb1
   refine zE (kJ uC)<|zR (kX qC)<|zE (kJ zL)<|zR (kX qC)<|zE (zMx (max w h) (hr:=by first | omega | (dsimp only;omega)))<|zE gF<|zE nS<|zE (oV (vb (false||decide (64<(max w h)))) (kT (by kernel_rfl)))<|?_
   rcases hb2:(false||decide (64<(max w h))) with _ | _
   ·replace hb2:=vK (p:=(64<(max w h))) hb2
    refine zE (kJ dT)<|zR (kX qC)<|zE gF<|zE nS<|zE (oV (vb (false||decide (65535<mx))) (kT (by kernel_rfl)))<|?_
    rcases hb3:(false||decide (65535<mx)) with _ | _
    ·replace hb3:=vK (p:=(65535<mx)) hb3
     exact zE (kJ uY)<|zR (kX xT)<|zE (yU vI)<|zE (kJ uC)<|zR (kX qC)<|zE (kJ zL)<|zR (kX qC)<|zE (nU (w*h) (hr:=by exact (qV rfl (by have hq:=wh_bd (w:=w) (h:=h) (by omega) (by omega) (by omega) (by omega);simp only[xZ];omega) (by have hq:=wh_bd (w:=w) (h:=h) (by omega) (by omega) (by omega) (by omega);simp only[zD];omega))))<|zE oNe<|zE nS<|zZ
    ·replace hb3:=vM (p:=(65535<mx)) hb3
     exact zK<|zK<|zK<|zK<|zK<|zK<|zK<|zK<|zK<|zE xB<|zZ
   ·replace hb2:=vM (p:=(64<(max w h))) hb2
    exact zK<|zK<|zK<|zE xB<|zM<|zK<|zK<|zK<|zK<|zK<|zK<|zK<|zK<|zK<|zE xB<|zZ
  ·replace hb1:=vM hb1
   exact zK<|zK<|zK<|zK<|zK<|zK<|zE xB<|zM<|zK<|zK<|zK<|zE xB<|zM<|zK<|zK<|zK<|zK<|zK<|zK<|zK<|zK<|zK<|zE xB<|zZ
 refine jG rfl (fun h4=>?_) (fun h4=>?_)
 ·refine jA<|kx [(2,(jL 1))] [] (zM<|zZ) ?_
  refine jE ⟨_,(.tmp (d:=(.val (.int .i64 (1)))) rfl .nil),?_⟩
  rw[chk_1 h4];rfl
 ·refine jC<|jA<|jA<|kx [(38,(vb (px.any (gB mx))))] [] (zE (kJ uY)<|zR (kX xT)<|zE (oMf [0])<|zC (oCg [(0,(jQ.cells (jN (kG.mk w h mx px))))] [(vl 3 1 jT px),(.clo 75 [0])] (p_chkA px w h mx px hb) (.d (.c (css:=[(jQ.cells (jN (kG.mk w h mx px)))]) (.cons (.head _) .nil) .nil)) (.val _))<|zZ) ?_
  refine jG (b:=(px.any (gB mx))) rfl (fun h5=>?_) (fun h5=>?_)
  ·refine jA<|kx [(2,(jL 1))] [] (zM<|zZ) ?_
   refine jE ⟨_,(.tmp (d:=(.val (.int .i64 (1)))) rfl .nil),?_⟩
   rw[chk_2 h5];rfl
  ·refine jC<|jA<|kx [(2,(jL 0))] [] (zM<|zZ) ?_
   refine jE ⟨_,(.tmp (d:=(.val (.int .i64 (0)))) rfl .nil),?_⟩
   rw[chk_3 h4 h5];rfl
end Go.Proofs.YteimogfidbkpnaaGreat
namespace Go.Fid
def dt:List Int→List Int→Int
 |x::a,y::b=>x*y+dt a b
 |_,_=>0
def dsq(p q:Int):List Int→List Int→Int
 |x::a,y::b=>(p*x-q*y)*(p*x-q*y)+dsq p q a b
 |_,_=>0
theorem dsq_nn(p q:Int):∀ a b,0≤dsq p q a b
 |[],_=>Int.le_refl 0
 |_::_,[]=>Int.le_refl 0
 |x::a,y::b=>by
  have h:=dsq_nn p q a b
  have h2:0≤(p*x-q*y)*(p*x-q*y):=by
   rcases Int.le_total 0 (p*x-q*y) with e | e
   ·exact Int.mul_nonneg e e
   ·have:=Int.mul_nonneg (a:=-(p*x-q*y)) (b:=-(p*x-q*y)) (by omega) (by omega)
    rwa [Int.neg_mul_neg] at this
  show 0≤(p*x-q*y)*(p*x-q*y)+dsq p q a b
  omega
theorem dsq_eq(p q:Int):∀ a b,a.length=b.length→dsq p q a b=p*p*dt a a-2*p*q*dt a b+q*q*dt b b
 |[],[],_=>by simp [dsq,dt]
 |x::a,y::b,h=>by
  have ih:=dsq_eq p q a b (by simpa using h)
  simp only[dsq,dt]
  rw[ih]
  generalize dt a a=A
  generalize dt a b=C
  generalize dt b b=B
  grind
theorem dt_sq_nn:∀ a,0≤dt a a
 |[]=>Int.le_refl 0
 |x::a=>by
  have h:=dt_sq_nn a
  have h2:0≤x*x:=by
   rcases Int.le_total 0 x with e | e
   ·exact Int.mul_nonneg e e
   ·have:=Int.mul_nonneg (a:=-x) (b:=-x) (by omega) (by omega)
    rwa [Int.neg_mul_neg] at this
  show 0≤x*x+dt a a
  omega
theorem dt_zero:∀ a b,a.length=b.length→dt b b=0→dt a b=0
 |[],[],_,_=>rfl
 |x::a,y::b,h,h0=>by
  have h1:=dt_sq_nn b
  have h2:0≤y*y:=by
   rcases Int.le_total 0 y with e | e
   ·exact Int.mul_nonneg e e
   ·have:=Int.mul_nonneg (a:=-y) (b:=-y) (by omega) (by omega)
    rwa [Int.neg_mul_neg] at this
  have h3:y*y+dt b b=0:=h0
  have hy:y*y=0:=by omega
  have hy0:y=0:=by
   rcases Int.mul_eq_zero.1 hy with e | e<;>exact e
  have ih:=dt_zero a b (by simpa using h) (by omega)
  show x*y+dt a b=0
  rw[hy0,ih];simp
theorem dt_cs(a b:List Int)(h:a.length=b.length):dt a b*dt a b≤dt a a*dt b b:=by
 have hB:=dt_sq_nn b
 by_cases h0:dt b b=0
 ·rw[dt_zero a b h h0,h0];simp
 ·have e:=dsq_eq (dt b b) (dt a b) a b h
  have n:=dsq_nn (dt b b) (dt a b) a b
  rw[e] at n
  revert n hB h0
  generalize dt a a=A
  generalize dt a b=C
  generalize dt b b=B
  intro hB h0 n
  have e2:B*B*A-2*B*C*C+C*C*B=B*(A*B-C*C):=by grind
  rw[e2] at n
  have hBp:0<B:=by omega
  by_cases hh:A*B-C*C<0
  ·have:=Int.mul_neg_of_pos_of_neg hBp hh
   omega
  ·omega
def sm:List Int→Int
 |[]=>0
 |x::l=>x+sm l
theorem dt_ctr(n s t:Int):∀ a b,a.length=b.length→dt (a.map fun x=>n*x-s) (b.map fun y=>n*y-t)=n*n*dt a b-n*t*sm a-n*s*sm b+((a.length:Nat):Int)*s*t
 |[],[],_=>by simp [dt,sm]
 |x::a,y::b,h=>by
  have ih:=dt_ctr n s t a b (by simpa using h)
  simp only[List.map_cons,dt,sm,List.length_cons]
  rw[ih]
  generalize dt a b=C
  generalize sm a=U
  generalize sm b=V
  rw[show (((a.length+1:Nat)):Int)=((a.length:Nat):Int)+1 by omega]
  generalize ((a.length:Nat):Int)=k
  grind
def xL(a b:List Int):Int:=((a.length:Nat):Int)*dt a b-sm a*sm b
theorem cov_ctr(a b:List Int)(h:a.length=b.length):dt (a.map fun x=>((a.length:Nat):Int)*x-sm a) (b.map fun y=>((a.length:Nat):Int)*y-sm b)=((a.length:Nat):Int)*xL a b:=by
 rw[dt_ctr _ _ _ a b h]
 unfold xL
 generalize dt a b=C
 generalize sm a=U
 generalize sm b=V
 generalize ((a.length:Nat):Int)=k
 grind
theorem cov_cs(a b:List Int)(h:a.length=b.length):xL a b*xL a b≤xL a a*xL b b:=by
 by_cases h0:a.length=0
 ·have ha:a=[]:=List.eq_nil_of_length_eq_zero h0
  have hb:b=[]:=List.eq_nil_of_length_eq_zero (h▸h0)
  subst ha hb
  decide
 ·have e1:=cov_ctr a b h
  have e2:=cov_ctr a a rfl
  have e3:=cov_ctr b b rfl
  rw[← h] at e3
  have c:=dt_cs (a.map fun x=>((a.length:Nat):Int)*x-sm a) (b.map fun y=>((a.length:Nat):Int)*y-sm b) (by simpa using h)
  rw[e1,e2,e3] at c
  have hk:0<((a.length:Nat):Int):=by omega
  revert c hk
  generalize ((a.length:Nat):Int)=k
  generalize xL a b=C
  generalize xL a a=A
  generalize xL b b=B
  intro c hk
  by_cases hh:A*B-C*C<0
  ·have q1:=Int.mul_neg_of_pos_of_neg (Int.mul_pos hk hk) hh
   have q2:k*k*(A*B-C*C)=k*A*(k*B)-k*C*(k*C):=by grind
   omega
  ·omega
theorem cov_nn(a:List Int):0≤xL a a:=by
 by_cases h0:a.length=0
 ·have ha:a=[]:=List.eq_nil_of_length_eq_zero h0
  subst ha;decide
 ·have e:=cov_ctr a a rfl
  have n:=dt_sq_nn (a.map fun x=>((a.length:Nat):Int)*x-sm a)
  rw[e] at n
  have hk:0<((a.length:Nat):Int):=by omega
  by_cases hh:xL a a<0
  ·have:=Int.mul_neg_of_pos_of_neg hk hh;omega
  ·omega
theorem absQ_int(c:Int):absQ ((c:Int):Rat)=(((c.natAbs:Nat):Int):Rat):=by
 unfold absQ
 by_cases h:((c:Int):Rat)<0
 ·have h2:c<0:=by rw[← Rat.intCast_zero] at h;exact Rat.intCast_lt_intCast.1 h
  rw[if_pos h,← Rat.intCast_neg];exact congrArg Int.cast (by omega)
 ·have h2:¬ c<0:=fun hh=>h (by rw[← Rat.intCast_zero];exact Rat.intCast_lt_intCast.2 hh)
  rw[if_neg h];exact congrArg Int.cast (by omega)
def scQ(c s t:Int):Rat:=(((c:Int):Rat)*absQ ((c:Int):Rat)) / (((s:Int):Rat)*((t:Int):Rat))
theorem scQ_le{c s t:Int}(hs:0<s)(ht:0<t)(h:c*c≤s*t):scQ c s t≤1:=by
 have hst:(0:Rat)<((s:Int):Rat)*((t:Int):Rat):=by
  rw[← Rat.intCast_mul,← Rat.intCast_zero];exact Rat.intCast_lt_intCast.2 (Int.mul_pos hs ht)
 unfold scQ
 rw[← Rat.not_lt,Rat.lt_div_iff hst,Rat.not_lt,Rat.one_mul,absQ_int,← Rat.intCast_mul,← Rat.intCast_mul]
 refine Rat.intCast_le_intCast.2 (Int.le_trans ?_ h)
 rcases Int.le_total 0 c with e | e
 ·rw[show ((c.natAbs:Nat):Int)=c by omega];exact Int.le_refl _
 ·have q1:c*((c.natAbs:Nat):Int)≤0:=Int.mul_nonpos_of_nonpos_of_nonneg e (by omega)
  have q2:0≤c*c:=by
   have:=Int.mul_nonneg (a:=-c) (b:=-c) (by omega) (by omega)
   rwa [Int.neg_mul_neg] at this
  omega
theorem scQ_one{c:Int}(hc:0<c):scQ c c c=1:=by
 have h:((c:Int):Rat)≠0:=by
  intro e
  rw[← Rat.intCast_zero] at e
  have:=Rat.intCast_inj.1 e;omega
 unfold scQ
 rw[absQ_int,show ((c.natAbs:Nat):Int)=c by omega]
 have h2:((c:Int):Rat)*((c:Int):Rat)≠0:=by
  intro e
  rcases Rat.mul_eq_zero.1 e with q | q<;>exact h q
 rw[Rat.div_def,Rat.mul_inv_cancel _ h2]
def lnS(f:Int→Int)(px:List Int)(w j:Nat):Nat→Int
 |0=>0
 |x+1=>lnS f px w j x+f (px.getD (j*w+x) 0)
def nB(f:Int→Int)(px:List Int)(w x:Nat):Nat→Int
 |0=>0
 |y+1=>nB f px w x y+lnS f px w y x
def preR(f:Int→Int)(px:List Int)(w y:Nat):List Int:=(List.range (w+1)).map fun x=>nB f px w x y
def vH(f:Int→Int)(px:List Int)(w h:Nat):List (List Int):=(List.range (h+1)).map fun y=>preR f px w y
section
variable {f:Int→Int} {px:List Int} {w h:Nat}
theorem rsS_x0:∀ y,nB f px w 0 y=0
 |0=>rfl
 |y+1=>by show nB f px w 0 y+0=0;rw[rsS_x0 y];rfl
theorem lnS_s(j x:Nat):lnS f px w j (x+1)=lnS f px w j x+f (px.getD (j*w+x) 0):=rfl
theorem rsS_s(x y:Nat):nB f px w x (y+1)=nB f px w x y+lnS f px w y x:=rfl
theorem map_rng{α:Type}{n k:Nat}(g:Nat→α)(d:α)(h:k<n):((List.range n).map g).getD k d=g k:=by
 rw[List.getD_eq_getElem?_getD,List.getElem?_map,List.getElem?_range h];rfl
theorem preT_len:(vH f px w h).length=h+1:=by unfold vH;simp
theorem eJ(y:Nat):(preR f px w y).length=w+1:=by unfold preR;simp
theorem dW{y:Nat}(hy:y≤h):(vH f px w h).getD y []=preR f px w y:=map_rng _ _ (by omega)
theorem eU{x:Nat}(y:Nat)(hx:x≤w):(preR f px w y).getD x 0=nB f px w x y:=map_rng _ _ (by omega)
theorem lnS_b{M:Int}(hf:∀ i,0≤f (px.getD i 0)∧f (px.getD i 0)≤M)(j:Nat):∀ x,0≤lnS f px w j x∧lnS f px w j x≤((x:Nat):Int)*M
 |0=>⟨Int.le_refl 0,by simp [lnS]⟩
 |x+1=>by
  have ih:=lnS_b hf j x
  have h1:=hf (j*w+x)
  rw[lnS_s,show ((x+1:Nat):Int)=(x:Int)+1 by omega,Int.add_mul,Int.one_mul]
  omega
theorem rsS_b{M:Int}{K:Int}(hK:∀ y,0≤lnS f px w y h∧lnS f px w y h≤K):∀ y,0≤nB f px w h y∧nB f px w h y≤((y:Nat):Int)*K
 |0=>⟨Int.le_refl 0,by simp [nB]⟩
 |y+1=>by
  have ih:=rsS_b (M:=M) hK y
  have h1:=hK y
  rw[rsS_s,show ((y+1:Nat):Int)=(y:Int)+1 by omega,Int.add_mul,Int.one_mul]
  omega
end
def tabF(n:Nat)(g:Nat→List Int):List (List Int):=(List.range n).map g
def midR(f:Int→Int)(px:List Int)(w y k:Nat):List Int:=(List.range (w+1)).map fun i=>if i≤k then nB f px w i y else 0
def dU(f:Int→Int)(px:List Int)(w h y:Nat):List (List Int):=tabF (h+1) fun j=>if j<y then preR f px w j else []
def mdT(f:Int→Int)(px:List Int)(w h y k:Nat):List (List Int):=tabF (h+1) fun j=>if j=y then midR f px w y k else if j<y then preR f px w j else []
section
variable {f:Int→Int} {px:List Int} {w h y k:Nat}
theorem mK(n:Nat)(g:Nat→List Int):(tabF n g).length=n:=by unfold tabF;simp
theorem tabF_get{n:Nat}{g:Nat→List Int}{j:Nat}(hj:j<n):(tabF n g)[j]?=some (g j):=by
 unfold tabF;rw[List.getElem?_map,List.getElem?_range hj];rfl
theorem tabF_set{n:Nat}{g g':Nat→List Int}{j:Nat}{v:List Int}(h:∀ i,i<n→g' i=if i=j then v else g i):(tabF n g).set j v=tabF n g':=by
 apply List.ext_getElem?
 intro i
 rw[List.getElem?_set,mK]
 by_cases hi:i<n
 ·have h2:=h i hi
  rw[tabF_get hi,tabF_get hi,h2]
  by_cases e:j=i
  ·subst e;rw[if_pos rfl,if_pos hi,if_pos rfl]
  ·rw[if_neg e,if_neg (fun x=>e x.symm)]
 ·rw[List.getElem?_eq_none (by rw[mK];omega),List.getElem?_eq_none (by rw[mK];omega)]
  split
  ·rw[if_neg (by omega)]
  ·rfl
theorem prtT_0:dU f px w h 0=List.replicate (h+1) []:=by
 unfold dU tabF
 apply List.ext_getElem?
 intro i
 rw[List.getElem?_map,List.getElem?_replicate]
 by_cases hi:i<h+1
 ·rw[List.getElem?_range hi,if_pos hi];rfl
 ·rw[List.getElem?_eq_none (by rw[List.length_range];omega),if_neg hi];rfl
theorem prtT_end:dU f px w h (h+1)=vH f px w h:=by
 unfold dU vH tabF
 refine List.map_congr_left fun j hj=>?_
 have:=List.mem_range.1 hj
 rw[if_pos this]
theorem midR_0:midR f px w y 0=List.replicate (w+1) 0:=by
 unfold midR
 apply List.ext_getElem?
 intro i
 rw[List.getElem?_map,List.getElem?_replicate]
 by_cases hi:i<w+1
 ·rw[List.getElem?_range hi,if_pos hi]
  show some _=some _
  congr 1
  dsimp only
  split
  ·rename_i e
   have:i=0:=by omega
   subst this;exact rsS_x0 y
  ·rfl
 ·rw[List.getElem?_eq_none (by rw[List.length_range];omega),if_neg hi];rfl
theorem midR_len:(midR f px w y k).length=w+1:=by unfold midR;simp
theorem midR_at{i:Nat}(hi:i≤k)(hw:i≤w):(midR f px w y k).getD i 0=nB f px w i y:=by
 rw[show (midR f px w y k).getD i 0=_ from map_rng _ _ (by omega),if_pos hi]
theorem midR_set(hk:k+1≤w):(midR f px w y k).set (k+1) (nB f px w (k+1) y)=midR f px w y (k+1):=by
 apply List.ext_getElem?
 intro i
 rw[List.getElem?_set,midR_len]
 unfold midR
 rw[List.getElem?_map,List.getElem?_map]
 by_cases hi:i<w+1
 ·rw[List.getElem?_range hi]
  by_cases e:k+1=i
  ·subst e;rw[if_pos rfl,if_pos hi];simp
  ·rw[if_neg e]
   show some _=some _
   congr 1
   dsimp only
   by_cases e2:i≤k
   ·rw[if_pos e2,if_pos (by omega)]
   ·rw[if_neg e2,if_neg (by omega)]
 ·rw[if_neg (by omega),List.getElem?_eq_none (by rw[List.length_range];omega)];rfl
theorem midR_end(h:k=w∨y=0):midR f px w y k=preR f px w y:=by
 unfold midR preR
 refine List.map_congr_left fun i hi=>?_
 have:=List.mem_range.1 hi
 split
 ·rfl
 ·rcases h with h | h
  ·omega
  ·subst h;rfl
theorem mdT_new:(dU f px w h y).set y (List.replicate (w+1) 0)=mdT f px w h y 0:=by
 unfold dU mdT
 refine tabF_set fun i hi=>?_
 rw[midR_0]
theorem mdT_set(hk:k+1≤w):(mdT f px w h y k).set y ((midR f px w y k).set (k+1) (nB f px w (k+1) y))=mdT f px w h y (k+1):=by
 rw[midR_set hk]
 unfold mdT
 refine tabF_set fun i hi=>?_
 split
 ·rfl
 ·rfl
theorem mdT_end(hk:k=w∨y=0):mdT f px w h y k=dU f px w h (y+1):=by
 unfold mdT dU tabF
 refine List.map_congr_left fun i hi=>?_
 by_cases e:i=y
 ·subst e;rw[if_pos rfl,if_pos (by omega),midR_end hk]
 ·rw[if_neg e]
  by_cases e2:i<y
  ·rw[if_pos e2,if_pos (by omega)]
  ·rw[if_neg e2,if_neg (by omega)]
theorem mdT_y(hy:y≤h):(mdT f px w h y k)[y]?=some (midR f px w y k):=by
 unfold mdT;rw[tabF_get (by omega),if_pos rfl]
theorem mdT_p(hy:y+1≤h):(mdT f px w h (y+1) k)[y]?=some (preR f px w y):=by
 unfold mdT;rw[tabF_get (by omega),if_neg (by omega),if_pos (by omega)]
end
theorem eM{f:Int→Int}{px:List Int}{w h y:Nat}:(dU f px w h y).length=h+1:=mK _ _
def gQ(p:Int):Int:=p*p
def gJ(p:Int):Int:=p
def PxB(px:List Int):Prop:=∀ i,0≤px.getD i 0∧px.getD i 0≤65535
theorem sq_M{px:List Int}(h:PxB px)(i:Nat):0≤gQ (px.getD i 0)∧gQ (px.getD i 0)≤4294836225:=by
 have hi:=h i
 refine ⟨Int.mul_nonneg hi.1 hi.1,?_⟩
 have:=Int.mul_le_mul hi.2 hi.2 hi.1 (show (0:Int)≤65535 by decide)
 unfold gQ;omega
theorem id_M{px:List Int}(h:PxB px)(i:Nat):0≤gJ (px.getD i 0)∧gJ (px.getD i 0)≤4294836225:=by
 have hi:=h i
 unfold gJ;omega
theorem ln_M{f:Int→Int}{px:List Int}{w:Nat}(hf:∀ i,0≤f (px.getD i 0)∧f (px.getD i 0)≤4294836225)(j:Nat){x:Nat}(hx:x≤100):0≤lnS f px w j x∧lnS f px w j x≤429483622500:=by
 have:=lnS_b (w:=w) hf j x
 omega
theorem rs_M{f:Int→Int}{px:List Int}{w:Nat}(hf:∀ i,0≤f (px.getD i 0)∧f (px.getD i 0)≤4294836225){x y:Nat}(hx:x≤100)(hy:y≤100):0≤nB f px w x y∧nB f px w x y≤42948362250000:=by
 have:=rsS_b (M:=0) (f:=f) (px:=px) (w:=w) (h:=x) (fun j=>ln_M hf j hx) y
 omega
theorem hC{px:List Int}{w h:Nat}(hw:w≤100)(hh:h≤100)(hl:px.length=w*h):px.length≤10000:=by
 have:=Nat.mul_le_mul hw hh
 omega
theorem dK{w h a b:Nat}(ha:a<h)(hb:b<w):a*w+b<w*h:=by
 have:=Nat.mul_le_mul_right w (show a+1≤h from ha)
 rw[Nat.add_mul,Nat.one_mul] at this
 rw[Nat.mul_comm w h];omega
def kL(px:List Int)(w x y:Nat):List Int:=(List.range 9).map fun i=>px.getD ((y+i / 3)*w+x+i % 3) 0
theorem yY(px:List Int)(w x y:Nat):(kL px w x y).length=9:=by unfold kL;simp
theorem winL_at{px:List Int}{w x y i:Nat}(h:i<9):(kL px w x y).getD i 0=px.getD ((y+i / 3)*w+x+i % 3) 0:=map_rng _ _ h
theorem win_sum(f:Int→Int)(px:List Int)(w x y:Nat):nB f px w (x+3) (y+3)-nB f px w (x+3) y-nB f px w x (y+3)+nB f px w x y=sm ((kL px w x y).map f):=by
 have e:kL px w x y=[px.getD (y*w+x) 0,px.getD (y*w+(x+1)) 0,px.getD (y*w+(x+2)) 0,px.getD ((y+1)*w+x) 0,px.getD ((y+1)*w+(x+1)) 0,px.getD ((y+1)*w+(x+2)) 0,px.getD ((y+2)*w+x) 0,px.getD ((y+2)*w+(x+1)) 0,px.getD ((y+2)*w+(x+2)) 0]:=by
  unfold kL
  simp only[List.range_succ,List.range_zero,List.nil_append,List.cons_append,List.map_cons,List.map_nil,Nat.add_assoc]
  rfl
 rw[e]
 simp only[nB,lnS,sm,List.map_cons,List.map_nil]
 generalize nB f px w (x+3) y=A
 generalize nB f px w x y=B
 omega
theorem sm_sq(l:List Int):sm (l.map fun p=>p*p)=dt l l:=by
 induction l with
 |nil=>rfl
 |cons a l ih=>simp only[List.map_cons,sm,dt,ih]
theorem sm_id(l:List Int):sm (l.map fun p=>p)=sm l:=by rw[List.map_id']
theorem sm_app(l:List Int)(x:Int):sm (l++[x])=sm l+x:=by
 induction l with
 |nil=>simp [sm]
 |cons a l ih=>simp only[List.cons_append,sm,ih];omega
theorem dt_app:∀ (a b:List Int) (x y:Int),a.length=b.length→dt (a++[x]) (b++[y])=dt a b+x*y
 |[],[],x,y,_=>by simp [dt]
 |p::a,q::b,x,y,h=>by
  have ih:=dt_app a b x y (by simpa using h)
  simp only[List.cons_append,dt,ih];omega
theorem sm_s{l:List Int}{k:Nat}(h:k<l.length):sm (l.take (k+1))=sm (l.take k)+l.getD k 0:=by
 rw[List.take_succ_eq_append_getElem h,sm_app,List.getD_eq_getElem?_getD,List.getElem?_eq_getElem h];rfl
theorem dt_s{a b:List Int}{k:Nat}(h:k<a.length)(h2:k<b.length):dt (a.take (k+1)) (b.take (k+1))=dt (a.take k) (b.take k)+a.getD k 0*b.getD k 0:=by
 rw[List.take_succ_eq_append_getElem h,List.take_succ_eq_append_getElem h2,dt_app _ _ _ _ (by rw[List.length_take,List.length_take];omega),List.getD_eq_getElem?_getD,List.getElem?_eq_getElem h,List.getD_eq_getElem?_getD,List.getElem?_eq_getElem h2];rfl
theorem sm_b{M:Int}(hM:0≤M):∀ {l:List Int},(∀ x∈l,0≤x∧x≤M)→0≤sm l∧sm l≤((l.length:Nat):Int)*M
 |[],_=>⟨Int.le_refl 0,by simp [sm]⟩
 |x::l,h=>by
  have ih:=sm_b hM (l:=l) fun y hy=>h y (by simp [hy])
  have hx:=h x (by simp)
  simp only[sm,List.length_cons]
  rw[show ((l.length+1:Nat):Int)=(l.length:Int)+1 by omega,Int.add_mul,Int.one_mul]
  omega
theorem dt_b{M:Int}(hM:0≤M):∀ {a b:List Int},(∀ x∈a,0≤x∧x≤M)→(∀ x∈b,0≤x∧x≤M)→0≤dt a b∧dt a b≤((a.length:Nat):Int)*(M*M)
 |[],b,_,_=>⟨by simp [dt],by simp [dt]⟩
 |x::a,[],h,_=>by
  refine ⟨by simp [dt],?_⟩
  show (0:Int)≤_
  exact Int.mul_nonneg (by omega) (Int.mul_nonneg hM hM)
 |x::a,y::b,h,h2=>by
  have ih:=dt_b hM (a:=a) (b:=b) (fun z hz=>h z (by simp [hz])) (fun z hz=>h2 z (by simp [hz]))
  have hx:=h x (by simp)
  have hy:=h2 y (by simp)
  have q1:0≤x*y:=Int.mul_nonneg hx.1 hy.1
  have q2:x*y≤M*M:=Int.mul_le_mul hx.2 hy.2 hy.1 hM
  simp only[dt,List.length_cons]
  rw[show ((a.length+1:Nat):Int)=(a.length:Int)+1 by omega,Int.add_mul,Int.one_mul]
  omega
theorem dt_pos{a:List Int}(h:dt a a=0):∀ x∈a,x=0:=by
 induction a with
 |nil=>intro x hx;cases hx
 |cons p a ih=>
  have h1:=dt_sq_nn a
  have h2:0≤p*p:=by
   rcases Int.le_total 0 p with e | e
   ·exact Int.mul_nonneg e e
   ·have:=Int.mul_nonneg (a:=-p) (b:=-p) (by omega) (by omega)
    rwa [Int.neg_mul_neg] at this
  have h3:p*p+dt a a=0:=h
  have hp:p*p=0:=by omega
  intro x hx
  rcases List.mem_cons.1 hx with rfl | hx
  ·rcases Int.mul_eq_zero.1 hp with e | e<;>exact e
  ·exact ih (by omega) x hx
theorem cov_flat{a:List Int}{c:Int}(h:∀ x∈a,x=c):xL a a=0:=by
 have e:=List.eq_replicate_of_mem h
 have key:∀ n:Nat,sm (List.replicate n c)=n*c∧dt (List.replicate n c) (List.replicate n c)=n*(c*c):=by
  intro n
  induction n with
  |zero=>simp [sm,dt]
  |succ n ih=>
   simp only[List.replicate_succ,sm,dt,ih.1,ih.2]
   rw[show ((n+1:Nat):Int)=(n:Int)+1 by omega,Int.add_mul,Int.add_mul]
   omega
 rw[e]
 unfold xL
 rw[List.length_replicate,(key _).1,(key _).2]
 grind
theorem cov_pos{a:List Int}(hn:a≠[])(h:¬ ∀ x∈a,x=a.getD 0 0):0<xL a a:=by
 have hnn:=cov_nn a
 rcases Int.lt_or_eq_of_le hnn with e | e
 ·exact e
 ·have hl:0<a.length:=List.length_pos_iff.2 hn
  have c:=cov_ctr a a rfl
  rw[← e,Int.mul_zero] at c
  have z:=dt_pos c
  have z2:∀ x∈a,((a.length:Nat):Int)*x=sm a:=fun x hx=>by
   have:=z _ (List.mem_map.2 ⟨x,hx,rfl⟩)
   omega
  have hm0:a.getD 0 0∈a:=by
   rw[List.getD_eq_getElem?_getD,List.getElem?_eq_getElem hl];exact List.getElem_mem _
  exact absurd (fun x hx=>Int.eq_of_mul_eq_mul_left (show ((a.length:Nat):Int)≠0 by omega) ((z2 x hx).trans (z2 _ hm0).symm)) h
def scW(p q:List Int):Rat:=if xL q q=0∨xL p p=0 then ((0:Int):Rat) else scQ (xL p q) (xL p p) (xL q q)
theorem scW_le{p q:List Int}(h:p.length=q.length):scW p q≤1:=by
 unfold scW
 split
 ·exact by decide
 ·rename_i hn
  have h1:=cov_nn p
  have h2:=cov_nn q
  exact scQ_le (by omega) (by omega) (cov_cs p q h)
theorem scW_one{p:List Int}(h:0<xL p p):scW p p=1:=by
 unfold scW;rw[if_neg (by omega),scQ_one h]
theorem scW_flat{p:List Int}(q:List Int)(h:xL p p=0):scW p q=((0:Int):Rat):=if_pos (.inr h)
abbrev Pk:=Option (Int × Int × Rat)
def pk1(sc:Int→Int→Rat)(ok:Int→Int→Bool)(y x:Int)(o:Pk):Pk :=
 if ok x y=true then (match o with | none=>some (x,y,sc x y) | some b=>if b.2.2<sc x y then some (x,y,sc x y) else some b) else o
def pkR(sc:Int→Int→Rat)(ok:Int→Int→Bool)(y x0:Int)(o:Pk):Nat→Pk
 |0=>o
 |n+1=>pk1 sc ok y (x0+(n:Int)) (pkR sc ok y x0 o n)
def pkA(sc:Int→Int→Rat)(ok:Int→Int→Bool)(x0 y0:Int)(m:Nat):Nat→Pk
 |0=>none
 |n+1=>pkR sc ok (y0+(n:Int)) x0 (pkA sc ok x0 y0 m n) m
def pkI(sc:Int→Int→Rat)(ok:Int→Int→Bool)(B:Int→Int→Prop):Pk→Prop
 |none=>∀ x y,B x y→ok x y=false
 |some (a,b,q)=>B a b∧ok a b=true∧q=sc a b∧∀ x y,B x y→ok x y=true→sc x y≤q∧((y<b∨y=b∧x<a)→sc x y<q)
section
variable {sc:Int→Int→Rat} {ok:Int→Int→Bool}
theorem pkI_1{B B':Int→Int→Prop}{o:Pk}{x1 y1:Int}(h:pkI sc ok B o)(hB:∀ x y,B' x y↔B x y∨(x=x1∧y=y1))(hb:∀ x y,B x y→y<y1∨y=y1∧x<x1):pkI sc ok B' (pk1 sc ok y1 x1 o):=by
 unfold pk1
 by_cases hok:ok x1 y1=true
 ·rw[if_pos hok]
  match o,h with
  |none,h=>
   refine ⟨(hB _ _).2 (.inr ⟨rfl,rfl⟩),hok,rfl,fun x y hxy hk=>?_⟩
   rcases (hB x y).1 hxy with e | ⟨rfl,rfl⟩
   ·rw[h x y e] at hk;cases hk
   ·exact ⟨Rat.le_refl,fun e=>by omega⟩
  |some (a,b,q),⟨h1,h2,h3,h4⟩=>
   show pkI sc ok B' (if q<sc x1 y1 then _ else _)
   split
   ·rename_i hlt
    refine ⟨(hB _ _).2 (.inr ⟨rfl,rfl⟩),hok,rfl,fun x y hxy hk=>?_⟩
    rcases (hB x y).1 hxy with e | ⟨rfl,rfl⟩
    ·have hl:sc x y<sc x1 y1:=Rat.not_le.1 fun g=>Rat.not_le.2 hlt (Rat.le_trans g (h4 x y e hk).1)
     exact ⟨Rat.le_of_lt hl,fun _=>hl⟩
    ·exact ⟨Rat.le_refl,fun e=>by omega⟩
   ·rename_i hge
    refine ⟨(hB _ _).2 (.inl h1),h2,h3,fun x y hxy hk=>?_⟩
    rcases (hB x y).1 hxy with e | ⟨rfl,rfl⟩
    ·exact h4 x y e hk
    ·refine ⟨Rat.not_lt.1 hge,fun e=>?_⟩
     have:=hb _ _ h1
     omega
 ·rw[if_neg hok]
  have hf:ok x1 y1=false:=by simpa using hok
  match o,h with
  |none,h=>
   intro x y hxy
   rcases (hB x y).1 hxy with e | ⟨rfl,rfl⟩
   ·exact h x y e
   ·exact hf
  |some (a,b,q),⟨h1,h2,h3,h4⟩=>
   refine ⟨(hB _ _).2 (.inl h1),h2,h3,fun x y hxy hk=>?_⟩
   rcases (hB x y).1 hxy with e | ⟨rfl,rfl⟩
   ·exact h4 x y e hk
   ·rw[hf] at hk;cases hk
theorem pkI_eq{B B':Int→Int→Prop}{o:Pk}(hB:∀ x y,B' x y↔B x y)(h:pkI sc ok B o):pkI sc ok B' o:=by
 have:B'=B:=funext fun x=>funext fun y=>propext (hB x y)
 rw[this];exact h
theorem pkI_R{x0 y0 y:Int}{m:Nat}{o:Pk}(h:pkI sc ok (fun a b=>y0≤b∧b<y∧x0≤a∧a<x0+(m:Int)) o):∀ n:Nat,n≤m→pkI sc ok (fun a b=>(y0≤b∧b<y∧x0≤a∧a<x0+(m:Int))∨(b=y∧x0≤a∧a<x0+(n:Int))) (pkR sc ok y x0 o n)
 |0,_=>pkI_eq (fun a b=>by constructor<;>intro e<;>omega) h
 |n+1,hn=>pkI_1 (pkI_R h n (by omega)) (fun a b=>by constructor<;>intro e<;>omega) (fun a b e=>by omega)
theorem pkI_A{x0 y0:Int}{m:Nat}:∀ n:Nat,pkI sc ok (fun a b=>y0≤b∧b<y0+(n:Int)∧x0≤a∧a<x0+(m:Int)) (pkA sc ok x0 y0 m n)
 |0=>fun x y e=>by omega
 |n+1=>pkI_eq (fun a b=>by constructor<;>intro e<;>omega) (pkI_R (pkI_A n) m (Nat.le_refl _))
theorem pk_one{x0 y0 x1 y1:Int}{m n:Nat}(hle:∀ x y,sc x y≤1)(hok:ok x1 y1=true)(h1:sc x1 y1=1)(hin:y0≤y1∧y1<y0+(n:Int)∧x0≤x1∧x1<x0+(m:Int)) :
  ∃ a b,pkA sc ok x0 y0 m n=some (a,b,1)∧ok a b=true∧sc a b=1∧(b<y1∨b=y1∧a≤x1)∧y0≤b∧x0≤a∧a<x0+(m:Int):=by
 have h:=pkI_A (sc:=sc) (ok:=ok) (x0:=x0) (y0:=y0) (m:=m) n
 revert h
 match pkA sc ok x0 y0 m n with
 |none=>intro h;rw[h x1 y1 hin] at hok;cases hok
 |some (a,b,q)=>
  rintro ⟨k1,k2,k3,k4⟩
  obtain ⟨g1,g2⟩:=k4 x1 y1 hin hok
  rw[h1] at g1 g2
  have hq:q=1:=Rat.le_antisymm (k3▸hle a b) g1
  subst hq
  refine ⟨a,b,rfl,k2,k3.symm,?_,k1.1,k1.2.2.1,k1.2.2.2⟩
  by_cases e:y1<b∨y1=b∧x1<a
  ·exact absurd (g2 e) (Rat.lt_irrefl)
  ·omega
end
def cX(w h:Nat)(x y:Int):Bool:=((decide (0≤x)&&decide (0≤y))&&decide (x≤((w:Nat):Int)-3))&&decide (y≤((h:Nat):Int)-3)
theorem mAtB_t{w h:Nat}{x y:Int}(e:cX w h x y=true):0≤x∧0≤y∧x+3≤(w:Int)∧y+3≤(h:Int):=by
 unfold cX at e
 simp only[Bool.and_eq_true,decide_eq_true_eq] at e
 omega
theorem mAtB_y{w h:Nat}{x y:Int}(h1:0≤x)(h2:0≤y)(h3:x+3≤(w:Int))(h4:y+3≤(h:Int)):cX w h x y=true:=by
 unfold cX
 simp only[Bool.and_eq_true,decide_eq_true_eq]
 omega
def scF(p px:List Int)(w:Nat)(x y:Int):Rat:=scW p (kL px w x.toNat y.toNat)
def pkX:Pk→Int | none=>0 | some b=>b.1
def pkY:Pk→Int | none=>0 | some b=>b.2.1
def pkQ:Pk→Rat | none=>0 | some b=>b.2.2
def pkS:Pk→Bool | none=>false | some _=>true
def pkT(o:Pk):Bool:=pkS o
section
variable {sc:Int→Int→Rat} {ok:Int→Int→Bool} {x y:Int} {o:Pk}
theorem pk1_no(h:ok x y=false):pk1 sc ok y x o=o:=by unfold pk1;rw[if_neg (by rw[h];decide)]
theorem pk1_new(h:ok x y=true)(h2:pkS o=false):pk1 sc ok y x o=some (x,y,sc x y):=by
 unfold pk1;rw[if_pos h]
 cases o with
 |none=>rfl
 |some b=>cases h2
theorem pk1_gt(h:ok x y=true)(h2:pkS o=true)(h3:pkQ o<sc x y):pk1 sc ok y x o=some (x,y,sc x y):=by
 unfold pk1;rw[if_pos h]
 cases o with
 |none=>cases h2
 |some b=>exact if_pos h3
theorem pk1_le(h:ok x y=true)(h2:pkS o=true)(h3:¬ pkQ o<sc x y):pk1 sc ok y x o=o:=by
 unfold pk1;rw[if_pos h]
 cases o with
 |none=>cases h2
 |some b=>exact if_neg h3
end
theorem cov_b{a b:List Int}(ha:∀ x∈a,0≤x∧x≤65535)(hb:∀ x∈b,0≤x∧x≤65535)(h1:a.length=9)(h2:b.length=9):-400000000000≤xL a b∧xL a b≤400000000000:=by
 have d:=dt_b (M:=65535) (by decide) ha hb
 have s1:=sm_b (M:=65535) (by decide) ha
 have s2:=sm_b (M:=65535) (by decide) hb
 rw[h1] at d s1
 rw[h2] at s2
 unfold xL
 rw[h1]
 have q1:0≤sm a*sm b:=Int.mul_nonneg s1.1 s2.1
 have q2:sm a*sm b≤589815*589815:=Int.mul_le_mul (by omega) (by omega) s2.1 (by decide)
 omega
theorem PxB.mem{p:List Int}(h:PxB p):∀ x∈p,0≤x∧x≤65535:=fun x hx=>by
 obtain ⟨i,hi,rfl⟩:=List.getElem_of_mem hx
 have:=h i
 rwa [List.getD_eq_getElem?_getD,List.getElem?_eq_getElem hi,Option.getD_some] at this
theorem PxB.win{px:List Int}(h:PxB px)(w x y:Nat):PxB (kL px w x y):=fun i=>by
 by_cases hi:i<9
 ·rw[winL_at hi];exact h _
 ·rw[List.getD_eq_getElem?_getD,List.getElem?_eq_none (by rw[yY];omega)]
  decide
theorem dt_bb{a b:List Int}(ha:PxB a)(hb:PxB b)(h1:a.length=9)(k:Nat):0≤dt (a.take k) (b.take k)∧dt (a.take k) (b.take k)≤38653526025:=by
 have d:=dt_b (M:=65535) (by decide) (a:=a.take k) (b:=b.take k) (fun x hx=>ha.mem x (List.mem_of_mem_take hx)) (fun x hx=>hb.mem x (List.mem_of_mem_take hx))
 have hl:(a.take k).length≤9:=by rw[List.length_take];omega
 have:(((a.take k).length:Nat):Int)*(65535*65535)≤9*(65535*65535):=Int.mul_le_mul_of_nonneg_right (by omega) (by decide)
 omega
theorem sm_bb{a:List Int}(ha:PxB a)(h1:a.length=9)(k:Nat):0≤sm (a.take k)∧sm (a.take k)≤589815:=by
 have d:=sm_b (M:=65535) (by decide) (l:=a.take k) (fun x hx=>ha.mem x (List.mem_of_mem_take hx))
 have hl:(a.take k).length≤9:=by rw[List.length_take];omega
 omega
theorem pl_b{p:List Int}(h1:p.length=9)(hp:PxB p)(k:Nat):(0≤sm (p.take k)∧sm (p.take k)≤589815)∧(0≤dt (p.take k) (p.take k)∧dt (p.take k) (p.take k)≤38653526025):=⟨sm_bb hp h1 k,dt_bb hp hp h1 k⟩
theorem sq_b2{a b:Int}(h1:0≤a∧a≤589815)(h2:0≤b∧b≤589815):0≤a*b∧a*b≤347881734225:=by
 refine ⟨Int.mul_nonneg h1.1 h2.1,?_⟩
 have:=Int.mul_le_mul h1.2 h2.2 h2.1 (show (0:Int)≤589815 by decide)
 omega
theorem dt_b9{a b:List Int}(ha:PxB a)(hb:PxB b)(h1:a.length=9):0≤dt a b∧dt a b≤38653526025:=by
 have d:=dt_b (M:=65535) (by decide) ha.mem hb.mem
 rw[h1] at d
 omega
theorem sm_b9{a:List Int}(ha:PxB a)(h1:a.length=9):0≤sm a∧sm a≤589815:=by
 have d:=sm_b (M:=65535) (by decide) ha.mem
 rw[h1] at d
 omega
theorem px_m{a b:Int}(h1:0≤a∧a≤65535)(h2:0≤b∧b≤65535):0≤a*b∧a*b≤4294836225:=by
 refine ⟨Int.mul_nonneg h1.1 h2.1,?_⟩
 have:=Int.mul_le_mul h1.2 h2.2 h2.1 (show (0:Int)≤65535 by decide)
 omega
theorem sm_idI(l:List Int):sm (l.map gJ)=sm l:=sm_id l
theorem sm_sqI(l:List Int):sm (l.map gQ)=dt l l:=sm_sq l
theorem pkQ_1{P:Rat→Prop}{sc:Int→Int→Rat}{ok:Int→Int→Bool}(hs:∀ x y,P (sc x y)){y x:Int}{o:Pk}(h:P (pkQ o)):P (pkQ (pk1 sc ok y x o)):=by
 unfold pk1
 split
 ·match o,h with
  |none,_=>exact hs x y
  |some b,h=>
   show P (pkQ (if b.2.2<sc x y then _ else _))
   split
   ·exact hs x y
   ·exact h
 ·exact h
theorem pkQ_R{P:Rat→Prop}{sc:Int→Int→Rat}{ok:Int→Int→Bool}(hs:∀ x y,P (sc x y)){y x0:Int}{o:Pk}(h:P (pkQ o)):∀ n,P (pkQ (pkR sc ok y x0 o n))
 |0=>h
 |n+1=>pkQ_1 hs (pkQ_R hs h n)
theorem pkQ_A{P:Rat→Prop}{sc:Int→Int→Rat}{ok:Int→Int→Bool}(h0:P 0)(hs:∀ x y,P (sc x y)){x0 y0:Int}{m:Nat}:∀ n,P (pkQ (pkA sc ok x0 y0 m n))
 |0=>h0
 |n+1=>pkQ_R hs (pkQ_A h0 hs n) m
theorem has_t{w h x y:Nat}(hx:x<w)(hy:y<h):(((decide ((0:Int)≤((x:Nat):Int))&&decide (((x:Nat):Int)<((w:Nat):Int)))&&decide ((0:Int)≤((y:Nat):Int)))&&decide (((y:Nat):Int)<((h:Nat):Int)))=true:=by
 simp only[Bool.and_eq_true,decide_eq_true_eq];omega
def cropL(px:List Int)(w x y n:Nat):List Int:=(List.range n).map fun i=>px.getD ((y+i / 3)*w+x+i % 3) 0
theorem cropL_s(px:List Int)(w x y n:Nat):cropL px w x y (n+1)=cropL px w x y n++[px.getD ((y+n / 3)*w+x+n % 3) 0]:=by
 unfold cropL;rw[List.range_succ,List.map_append];rfl
theorem cropL_len(px:List Int)(w x y n:Nat):(cropL px w x y n).length=n:=by unfold cropL;simp
theorem cropL_c{px:List Int}{w x y i j:Nat}(hj:j<3):cropL px w x y (3*i+(j+1))=cropL px w x y (3*i+j)++[px.getD ((y+i)*w+(x+j)) 0]:=by
 rw[show 3*i+(j+1)=(3*i+j)+1 by omega,cropL_s,show (3*i+j) / 3=i by omega,show (3*i+j) % 3=j by omega,Nat.add_assoc ((y+i)*w) x j]
theorem win_mem{px:List Int}{w h x y:Nat}{mx:Int}(hl:px.length=w*h)(hp:∀ z∈px,0≤z∧z≤mx)(hx:x+3≤w)(hy:y+3≤h):∀ z∈kL px w x y,0≤z∧z≤mx:=by
 intro z hz
 unfold kL at hz
 obtain ⟨i,hi,rfl⟩:=List.mem_map.1 hz
 have hi:=List.mem_range.1 hi
 have:=dK (w:=w) (show y+i / 3<h by omega) (show x+i % 3<w by omega)
 rw[← hl] at this
 rw[List.getD_eq_getElem?_getD,List.getElem?_eq_getElem (show (y+i / 3)*w+x+i % 3<px.length by omega),Option.getD_some]
 exact hp _ (List.getElem_mem _)
end Go.Fid
