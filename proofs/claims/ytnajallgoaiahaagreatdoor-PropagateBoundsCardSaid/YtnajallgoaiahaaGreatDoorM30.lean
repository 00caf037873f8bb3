/- Part 30 of a proof: rules, plain facts, and functions walked. -/
import Derived.Test.YtnajallgoaiahaaGreatDoorM26
import Derived.Test.YtnajallgoaiahaaGreatDoorM29
import Derived.Test.YtnajallgoaiahaaGreatDoorM27
import Derived.Test.YtnajallgoaiahaaGreatDoorM20
set_option linter.all false
set_option maxRecDepth 4000
namespace Go.Proofs.YtnajallgoaiahaaGreatDoor
open Go.Fid
theorem f_div(a:R2)(ha:GL 67108864 a)(b:R2)(hb:GL 67108864 b)(n:Nat)(x:jZ)(fb:Bool)(hz:xH b.1 b.2=true):xA Tryz.prog 204 [(.ref 0 0),(.d (jF (jY a))),(.d (jF (jY b)))] [(0,some [(jS n),(jS 1),(vi (-1)),(.d (x)),(vb fb)])] (.d (jF (jY (gw 0)))) [(0,some [(jS n),(jS 1),(vi (-1)),(.d (x)),(vb true)])]:=by
 refine nA Tryz.func204 rfl cb204 rfl ?_
 refine jB<|kx [(4,(.ref 1 0)),(5,(.ref 2 0)),(6,(.ref 3 0))] [(1,some (bx (jF (jY a)))),(2,some (bx (jF (jY b)))),(3,some (bx (jF (jL.mk kH kH))))] (zN (uU 1)<|zN (uU 2)<|zN (qR 3 qJ qL)<|zZ) ?_
 refine jB<|kx [(7,(.ref 4 0)),(8,(vi 14))] [(4,some (bx (jF (jL.mk kH kH))))] (zR (kJ jP)<|zR (kJ jP)<|zE (jV (i_divideZ a.1 a.2 b.1 b.2 (qG ha.1) (qG ha.2.1) (qG hb.1) (qG hb.2.1) ha.2.2 hb.2.2 hz))<|zM<|zE uX<|zE uX<|zN (qR 4 qJ qL)<|zT (qA jP)<|zM<|zZ) ?_
 refine jB<|jB<|kx [(16,(vb true))] [] (zM<|zE mF<|zZ) ?_
 refine uI ?_
 refine jB<|kx [] [(0,some [(jS n),(jS 1),(vi (-1)),(.d (x)),(vb true)])] (zM<|zE oNc<|zE (kV fo161_4)<|zT (qA iP)<|zZ) ?_
 refine jB<|kx [] [(3,some (bx (jF (jY (gw 0)))))] (zE (jV (j_whole 0 (by omega) (by omega)))<|zT (qA jP)<|zZ) ?_
 refine jE ⟨yG (by kernel_rfl),gJ (by kernel_rfl),.inl ⟨_,(kI (cs:=(bx (jF (jY (gw 0))))) (d:=(jF (jY (gw 0)))) rfl rfl jP rfl rfl .nil),?_⟩⟩
 rfl
theorem f_vD(n:Nat)(x:jZ)(fb:Bool)(bb:Nat)(u:JV)(hu:nZ 1048576 n u)(v:JV)(hv:nZ 1048576 n v)(hz:xH v.v.1 v.v.2=true):xA Tryz.prog 203 [(.ref 1 0),(.ref 2 0),(.ref 3 0)] [(0,some [(jS n),(jS 1),(vi (-1)),(.d (x)),(vb fb)]),(1,some [(.refx 0 0 bb)]),(2,some (bx (jI (qW u)))),(3,some (bx (jI (qW v))))] (.d (jF (jY (gw 0)))) [(0,some [(jS n),(jS 1),(vi (-1)),(.d (x)),(vb true)]),(1,some [(.refx 0 0 bb)]),(2,some (bx (jI (qW u)))),(3,some (bx (jI (qW v))))]:=by
 refine nA Tryz.func203 rfl cb203 rfl ?_
 refine jB<|kx [(3,(.ref 4 0))] [(4,some (bx (jF (jL.mk kH kH))))] (zN (qR 4 qJ qL)<|zZ) ?_
 refine jB<|kf [] [(0,some [(jS n),(jS 1),(vi (-1)),(.d (x)),(vb true)]),(4,some (bx (jF (jY (gw 0)))))] (zR (oLx fE)<|zE (kV zJ)<|zR (kJ jP)<|zE (kV zJ)<|zR (kJ jP)<|zSe (B2:=[(0,some [(jS n),(jS 1),(vi (-1)),(.d (x)),(vb fb)])]) (B2':=[(0,some [(jS n),(jS 1),(vi (-1)),(.d (x)),(vb true)])]) [0] [0] (f_div u.v (kW hu.1) v.v (kW hv.1) n (x) fb hz)<|zT (qA jP)<|zF) ?_
 refine jE ⟨yG (by kernel_rfl),gJ (by kernel_rfl),.inl ⟨_,(kI (cs:=(bx (jF (jY (gw 0))))) (d:=(jF (jY (gw 0)))) rfl rfl jP rfl rfl .nil),?_⟩⟩
 rfl
theorem f_gD(i:Nat)(n:Nat)(x:jZ)(fb:Bool)(bb:Nat)(u:JV)(hu:nZ 1048576 n u)(v:JV)(hv:nZ 1048576 n v)(w:R2)(hw:GL 2097152 w)(y z:jZ)(hz:xH v.v.1 v.v.2=true)(hi:i<n):xA Tryz.prog 205 [(.ref 4 0),(jS i),(.ref 1 0),(.ref 2 0),(.ref 3 0)] [(0,some [(jS n),(jS 1),(vi (-1)),(.d (x)),(vb fb)]),(1,some [(.refx 0 0 bb)]),(2,some (bx (jI (qW u)))),(3,some (bx (jI (qW v)))),(4,some (bx (jF (jY w))++[(.d (y)),(.d (z))]))] (.d (jF (jY (gw 0)))) [(0,some [(jS n),(jS 1),(vi (-1)),(.d (x)),(vb true)]),(1,some [(.refx 0 0 bb)]),(2,some (bx (jI (qW u)))),(3,some (bx (jI (qW v)))),(4,some (bx (jF (jY w))++[(.d (y)),(.d (z))]))]:=by
 have hul:=hu.2.2
 have hvl:=hv.2.2
 refine nA Tryz.func205 rfl cb205 rfl ?_
 refine jB<|kx [(7,(.ref 5 0))] [(5,some (bx (jF (jL.mk kH kH))))] (zN (qR 5 qJ qL)<|zZ) ?_
 refine jB<|kd [] [(0,some [(jS n),(jS 1),(vi (-1)),(.d (x)),(vb true)]),(5,some (bx (jF (jY (gw 0)))))] mo (wR (oLx fE)<|wE (kV xO)<|wR (uE cB)<|wM<|wE (bC uA jY i z2)<|wE (yJ jP)<|wM<|wE oNc<|wE (kV zJ)<|wR (kJ jP)<|wE (kV xO)<|wR (uE cB)<|wM<|wE (bC uA jY i z2)<|wE (yJ jP)<|wE (jV (j_mul w (kW hw) (v.g.getD i z2) (kW (kZ hv.2.1 (by decide) i))))<|wE (jV (j_sub (u.g.getD i z2) (kW (kZ hu.2.1 (by decide) i)) (qP w (v.g.getD i z2)) (kW (xJ (k:=3145728) hw (kZ hv.2.1 (by decide) i)))))<|wE (kV zJ)<|wR (kJ jP)<|wS [0] [] (.d (jF (jY (gw 0)))) [(.ref 0 0),(.d (jF (jY (uR (u.g.getD i z2) (qP w (v.g.getD i z2)))))),(.d (jF (jY v.v)))] [(0,some [(jS n),(jS 1),(vi (-1)),(.d (x)),(vb fb)])] [(0,some [(jS n),(jS 1),(vi (-1)),(.d (x)),(vb true)])] (f_div (uR (u.g.getD i z2) (qP w (v.g.getD i z2))) (kW (aY (k:=4194305) (kZ hu.2.1 (by decide) i) (xJ (k:=3145728) hw (kZ hv.2.1 (by decide) i)))) v.v (kW hv.1) n (x) fb hz) (.cons rfl (by kernel_rfl) .nil) (.cons rfl (by kernel_rfl) .nil) (by repeat first | exact .nil | refine .hid rfl ?_ | refine .none ?_ | refine .dat ?_ | refine .map ?_ | refine .cells (by kernel_rfl) ?_) (by repeat first | exact .nil | refine .dat ?_ | refine .map ?_ | refine .cells (by kernel_rfl) ?_)<|wT (qA jP)<|wZ) ?_
 refine jE ⟨yG (by kernel_rfl),gJ (by kernel_rfl),.inl ⟨_,(kI (cs:=(bx (jF (jY (gw 0))))) (d:=(jF (jY (gw 0)))) rfl rfl jP rfl rfl .nil),?_⟩⟩
 rfl
theorem f_round(n:Nat)(x:jZ)(a:R2)(ha:GL 67108864 a):jO Tryz.prog 243 [(.cptr 1000000 (jZ.cells (mcA n x true)) 0),(jF (jY a))] (jF (jY a)):=by
 refine qY Tryz.func243 ?_
 refine jB<|kx [(3,(.ref 0 0)),(4,(.ref 1 0))] [(0,some (bx (jF (jY a)))),(1,some (bx (jF (jL.mk kH kH))))] (zN (uU 0)<|zN (qR 1 qJ qL)<|zZ) ?_
 refine jB<|jB<|kx [(9,(vb true))] [] (zM<|zE oNd<|zE (oFc fo161_2)<|zE (yV cL)<|zE (uP true xK)<|zZ) ?_
 refine uI ?_
 refine jB<|kx [] [(1,some (bx (jF (jY a))))] (zR (kJ jP)<|zT (qA jP)<|zZ) ?_
 refine jE ⟨_,(kI (cs:=(bx (jF (jY a)))) (d:=(jF (jY a))) rfl rfl jP rfl rfl .nil),?_⟩
 rfl
theorem f_nodeD(n:Nat)(L:List JV)(bb:Nat)(u:JV)(hu:nZ 1048576 n u)(v:JV)(hv:nZ 1048576 n v)(hn:n<=64)(hL:L.length<=1000)(hz:xH v.v.1 v.v.2=true):xA Tryz.prog 184 [(.ref 0 0),(.clo 203 [2,3,4]),(.clo 205 [2,3,4]),(.clo 206 [3,4,2])] [(0,some (xZ n 1 L false)),(1,some (yA L)),(2,some [(.refx 0 0 bb)]),(3,some (bx (jI (qW u)))),(4,some (bx (jI (qW v))))] (.d (.tup [])) [(0,some (xZ n 9 (L++[jk (gw 0) (fun _=>gw 0) n]) true)),(9,some (yA (L++[jk (gw 0) (fun _=>gw 0) n])))]:=by
 refine nA Tryz.func184 rfl cb184 rfl ?_
 refine jB<|kx [(8,(.ref 5 0))] [(0,some (xZ n 1 L true)),(2,some [(.refx 0 0 bb)]),(3,some (bx (jI (qW u)))),(4,some (bx (jI (qW v)))),(5,some (bx (.agg (jZ.cells (jF (jY (gw 0)))++[(.val (.slice none 0 0)),(.val (.slice none 0 0))]))))] (zM<|zM<|zV [0,2,3,4] [] [0] (.d (jF (jY (gw 0)))) [(.ref 2 0),(.ref 3 0),(.ref 4 0)] [(0,some (xZ n 1 L false)),(2,some [(.refx 0 0 bb)]),(3,some (bx (jI (qW u)))),(4,some (bx (jI (qW v))))] [(0,some (xZ n 1 L true)),(2,some [(.refx 0 0 bb)]),(3,some (bx (jI (qW u)))),(4,some (bx (jI (qW v))))] (fun U=>f_vD n (.val (U 0 3)) false bb u hu v hv hz) (fun U=>(.cons rfl (by kernel_rfl) (.cons rfl (by kernel_rfl) (.cons rfl (fV _ _ _ _) (.cons rfl (fV _ _ _ _) .nil))))) (fun U=>(.cons rfl (by kernel_rfl) (.cons rfl (by kernel_rfl) (.cons rfl (fV _ _ _ _) (.cons rfl (fV _ _ _ _) .nil))))) (fun U=>(.cons (k:=0) (q:=1) (o:=0) (b:=bb) (j:=0) (by kernel_rfl) (by kernel_rfl) (by kernel_rfl) .nil)) (.cells (by kernel_rfl) (.cells (by kernel_rfl) (.dat (.dat .nil)))) (by repeat first | exact .nil | refine .hid rfl ?_ | refine .none ?_ | refine .dat ?_ | refine .map ?_ | refine .cells (by kernel_rfl) ?_) (hc:=aT (ex:=[.ref 2 0,.ref 3 0,.ref 4 0]) (by exact rfl) (.clo (kk:=[2,3,4]) (by kernel_rfl) (by kernel_rfl)) (by kernel_rfl))<|zC (oCh [(0,(xZ n 1 L true),(jZ.cells (mcA n (.sl 1000000 10 (List.map jI (List.map qW L))) true))),(1,(yA L),(qI (List.map jI (List.map qW L))))] [(.ref 0 0),(.d (jF (jY (gw 0))))] (f_round n (.sl 1000000 10 (List.map jI (List.map qW L))) (gw 0) (kW (gl_w (z:=0) (by omega) (by omega)))) (.cons (.r (.head _)) (.cons .d .nil)) (.cons (.cons .d (.cons .d (.cons .d (.cons (bS (F:=jI) (L:=(List.map qW L)) (.head _) (fun _=>rfl) rfl) (.cons .d .nil))))) (.cons (.all (by exact rfl)) .nil)) (xY (by decide) _) (ex:=[]))<|zE (eD pl95 mE zn95)<|zH (qR 5 mE cG)<|zT (qA gU)<|zZ) ?_
 refine jB<|jB<|kx [(22,(vb true))] [] (zM<|zE oNc<|zE (kV fo161_1)<|zR (uE cL)<|zE (uP true hH)<|zZ) ?_
 refine uI ?_
 refine jB<|bN 5 8 6 61 8 (cs:=(bx (.agg (jZ.cells (jF (jY (gw 0)))++[(.val (.slice none 0 0)),(.val (.slice none 0 0))])))) (h:=?_)
 refine kU (wk (l:=[(0,(.ref 0 0)),(1,(.clo 203 [2,3,4])),(2,(.clo 205 [2,3,4])),(3,(.clo 206 [3,4,2])),(8,(.ref 5 0)),(22,(vb true))]) (b:=[(0,some (xZ n 1 L true)),(1,some (yA L)),(2,some [(.refx 0 0 bb)]),(3,some (bx (jI (qW u)))),(4,some (bx (jI (qW v)))),(5,some (bx (jF (jY (gw 0)))++[(.own 6 61 8 0),(.d (.val (.slice none 0 0)))])),(6,some (yU jF []))])) ?_
 refine bN 5 9 7 86 1 (cs:=(bx (jF (jY (gw 0)))++[(.own 6 61 8 0),(.d (.val (.slice none 0 0)))])) (h:=?_)
 refine kU (wk (l:=[(0,(.ref 0 0)),(1,(.clo 203 [2,3,4])),(2,(.clo 205 [2,3,4])),(3,(.clo 206 [3,4,2])),(8,(.ref 5 0)),(22,(vb true))]) (b:=[(0,some (xZ n 1 L true)),(1,some (yA L)),(2,some [(.refx 0 0 bb)]),(3,some (bx (jI (qW u)))),(4,some (bx (jI (qW v)))),(5,some (bx (jF (jY (gw 0)))++[(.own 6 61 8 0),(.own 7 86 1 0)])),(6,some (yU jF [])),(7,some (bm uN []))])) ?_
 refine kx [(26,(jS n)),(27,(jS 0))] [] (zM<|zE oNc<|zE (kV fo161_0)<|zR (uE cL)<|zM<|zZ) ?_
 refine jH<|kF (α:=Nat × List jL) (fun (i,gl)=>⟨[(0,(.ref 0 0)),(1,(.clo 203 [2,3,4])),(2,(.clo 205 [2,3,4])),(3,(.clo 206 [3,4,2])),(8,(.ref 5 0)),(26,(jS n)),(27,(jS i))],[(0,some (xZ n 1 L true)),(1,some (yA L)),(2,some [(.refx 0 0 bb)]),(3,some (bx (jI (qW u)))),(4,some (bx (jI (qW v)))),(5,some (bx (jF (jY (gw 0)))++[(.own 6 61 8 gl.length),(.own 7 86 1 0)])),(6,some (yU jF gl)),(7,some (bm uN []))]⟩) (fun (i,gl)=>i<=n/\gl=List.map jY (List.map (fun (_:Nat)=>gw 0) (List.range i))) (fun (i,gl)=>n-i) (0,[]) wk ⟨Nat.zero_le _,rfl⟩ ?_
 rintro ⟨i,gl⟩ ⟨hi,hg⟩
 have hgl:gl.length=i:=jk_len (G:=(fun (_:Nat)=>gw 0)) hg
 refine jB<|kx [(28,(vb (decide (((i:Nat):Int)<((n:Nat):Int)))))] [] (zE xK<|zZ) ?_
 refine jB<|jG rfl (fun h1=>?_) (fun h1=>?_)
 ·replace h1:=uV h1
  refine jC<|jB<|jH<|jB<|kx [(9,(jS i))] [] (zM<|zM<|zZ) ?_
  refine kd [] [(0,some (xZ n 1 L true)),(2,some [(.refx 0 0 bb)]),(3,some (bx (jI (qW u)))),(4,some (bx (jI (qW v)))),(5,some (bx (jF (jY (gw 0)))++[(.own 8 61 8 ((gl++[(jY (gw 0))]).length)),(.own 7 86 1 0)])),(8,some (yU jF (gl++[(jY (gw 0))]))),(6,none)] mo (wE (kV xO)<|wR (uE cB)<|wM<|wM<|wM<|wV [0,2,3,4,5] [] [0] [] (.d (jF (jY (gw 0)))) [(.ref 5 0),(jS i),(.ref 2 0),(.ref 3 0),(.ref 4 0)] [(0,some (xZ n 1 L true)),(2,some [(.refx 0 0 bb)]),(3,some (bx (jI (qW u)))),(4,some (bx (jI (qW v)))),(5,some (bx (jF (jY (gw 0)))++[(.own 6 61 8 gl.length),(.own 7 86 1 0)]))] [(0,some (xZ n 1 L true)),(2,some [(.refx 0 0 bb)]),(3,some (bx (jI (qW u)))),(4,some (bx (jI (qW v)))),(5,some (bx (jF (jY (gw 0)))++[(.own 6 61 8 gl.length),(.own 7 86 1 0)]))] (fun U=>f_gD i n (.val (U 0 3)) true bb u hu v hv (gw 0) (kW (gl_w (z:=0) (by omega) (by omega))) (.val (U 5 8)) (.val (U 5 9)) hz (by omega)) (fun U=>(.cons rfl (by kernel_rfl) (.cons rfl (by kernel_rfl) (.cons rfl (fV _ _ _ _) (.cons rfl (fV _ _ _ _) (.cons rfl (by kernel_rfl) .nil)))))) (fun U=>(.cons rfl (by kernel_rfl) (.cons rfl (by kernel_rfl) (.cons rfl (fV _ _ _ _) (.cons rfl (fV _ _ _ _) (.cons rfl (by kernel_rfl) .nil)))))) (fun U=>(.cons (k:=0) (q:=1) (o:=0) (b:=bb) (j:=0) (by kernel_rfl) (by kernel_rfl) (by kernel_rfl) .nil)) (.cells (by kernel_rfl) (.cells (by kernel_rfl) (.dat (.dat (.cells (by kernel_rfl) .nil))))) (by repeat first | exact .nil | refine .hid rfl ?_ | refine .none ?_ | refine .dat ?_ | refine .map ?_ | refine .cells (by kernel_rfl) ?_) (by repeat first | exact .nil | refine .dat ?_ | refine .map ?_ | refine .cells (by kernel_rfl) ?_) (hc:=aT (ex:=[.ref 2 0,.ref 3 0,.ref 4 0]) (by exact rfl) (.clo (kk:=[2,3,4]) (by kernel_rfl) (by kernel_rfl)) (by kernel_rfl))<|wC (oCh [(0,(xZ n 1 L true),(jZ.cells (mcA n (.sl 1000000 10 (List.map jI (List.map qW L))) true))),(1,(yA L),(qI (List.map jI (List.map qW L))))] [(.ref 0 0),(.d (jF (jY (gw 0))))] (f_round n (.sl 1000000 10 (List.map jI (List.map qW L))) (gw 0) (kW (gl_w (z:=0) (by omega) (by omega)))) (.cons (.r (.head _)) (.cons .d .nil)) (.cons (.cons .d (.cons .d (.cons .d (.cons (bS (F:=jI) (L:=(List.map qW L)) (.head _) (fun _=>rfl) rfl) (.cons .d .nil))))) (.cons (.all (by exact rfl)) .nil)) (xY (by decide) _) (ex:=[]))<|wE (eE uA qJ qL)<|wAS (k:=6) 8 jF gl [(jY (gw 0))] rfl uA qJ by61<|wE (kV xO)<|wT (oSx cB)<|wZ) ?_
  refine kU (wk (l:=[(0,(.ref 0 0)),(1,(.clo 203 [2,3,4])),(2,(.clo 205 [2,3,4])),(3,(.clo 206 [3,4,2])),(8,(.ref 5 0)),(26,(jS n)),(27,(jS i))]) (b:=[(0,some (xZ n 1 L true)),(1,some (yA L)),(2,some [(.refx 0 0 bb)]),(3,some (bx (jI (qW u)))),(4,some (bx (jI (qW v)))),(5,some (bx (jF (jY (gw 0)))++[(.own 8 61 8 ((gl++[(jY (gw 0))]).length)),(.own 7 86 1 0)])),(7,some (bm uN [])),(8,some (yU jF (gl++[(jY (gw 0))])))])) ?_
  refine kU (iY (S':=[(0,(.ref 0 0)),(1,(.clo 203 [2,3,4])),(2,(.clo 205 [2,3,4])),(3,(.clo 206 [3,4,2])),(8,(.ref 5 0)),(26,(jS n)),(27,(jS i))]) (B':=[(0,some (xZ n 1 L true)),(1,some (yA L)),(2,some [(.refx 0 0 bb)]),(3,some (bx (jI (qW u)))),(4,some (bx (jI (qW v)))),(5,some (bx (jF (jY (gw 0)))++[(.own 6 61 8 ((gl++[(jY (gw 0))]).length)),(.own 7 86 1 0)])),(6,some (yU jF (gl++[(jY (gw 0))]))),(7,some (bm uN []))]) 6 8 5) ?_
  refine kx [(27,(jS (i+1)))] [] (zE (vO (i+1))<|zM<|zZ) ?_
  exact ⟨(i+1,gl++[jY (gw 0)]),wk,⟨by omega,jk_push (G:=(fun (_:Nat)=>gw 0)) hg⟩,(by first|omega|(dsimp only;omega))⟩
 ·replace h1:=vB h1
  refine kD<|jB<|jB<|kx [(45,(vb false))] [] (zM<|zE oNc<|zE (kV fo161_1)<|zR (uE cL)<|zE (uP false hH)<|zZ) ?_
  refine kM ?_
  refine jC<|kU (eJ (j:=5) (k:=6) (pre:=(bx (jF (jY (gw 0))))) (post:=[(.own 7 86 1 0)]) (es:=List.map jF gl) rfl (by decide) rfl (gC _ _ (fun _=>rfl)) (uW _ _ rfl) (hZ jF gl (fun _=>rfl) rfl)) ?_
  refine kU (wk (l:=[(0,(.ref 0 0)),(1,(.clo 203 [2,3,4])),(2,(.clo 205 [2,3,4])),(3,(.clo 206 [3,4,2])),(8,(.ref 5 0)),(45,(vb false))]) (b:=[(0,some (xZ n 1 L true)),(1,some (yA L)),(2,some [(.refx 0 0 bb)]),(3,some (bx (jI (qW u)))),(4,some (bx (jI (qW v)))),(5,some (bx (jF (jY (gw 0)))++[(vl 61 8 jF gl),(.own 7 86 1 0)])),(7,some (bm uN []))])) ?_
  refine kU (eJ (j:=5) (k:=7) (pre:=(bx (jF (jY (gw 0)))++[(vl 61 8 jF gl)])) (post:=[]) (es:=List.map uN []) rfl (by decide) rfl (vD _ _ (fun _=>rfl)) (uW _ _ rfl) (xE _ _ (fun _=>rfl) rfl)) ?_
  refine kU (wk (l:=[(0,(.ref 0 0)),(1,(.clo 203 [2,3,4])),(2,(.clo 205 [2,3,4])),(3,(.clo 206 [3,4,2])),(8,(.ref 5 0)),(45,(vb false))]) (b:=[(0,some (xZ n 1 L true)),(1,some (yA L)),(2,some [(.refx 0 0 bb)]),(3,some (bx (jI (qW u)))),(4,some (bx (jI (qW v)))),(5,some (bx (jI (vX.mk (jY (gw 0)) gl []))))])) ?_
  refine kd [] [(0,some [(jS n),(jS 1),(vi (-1)),(.own 9 95 10 (((List.map qW L)++[(vX.mk (jY (gw 0)) gl [])]).length)),(vb true)]),(9,some (yU jI ((List.map qW L)++[(vX.mk (jY (gw 0)) gl [])]))),(1,none)] mo (wM<|wM<|wE oNc<|wE (kV cU)<|wR (uE sh143)<|wR (kJ gU)<|wE (eE dY mE cG)<|wAS (k:=1) 9 jI (List.map qW L) [(vX.mk (jY (gw 0)) gl [])] rfl dY mE by95<|wE oNc<|wE (kV cU)<|wT (oSx sh143)<|wZ) ?_
  have hJ:List.map qW (L++[jk (gw 0) (fun _=>gw 0) n])=List.map qW L++[vX.mk (jY (gw 0)) gl []]:=by rw[List.map_append,hg,show i=n by omega];rfl
  unfold xZ yA
  rw[hJ]
  refine ⟨yG (by kernel_rfl),gJ (by kernel_rfl),.inl ⟨_,.nil,?_⟩⟩
  rfl
theorem run_p{bv:List R2}{t:List qB}(hbx:∀ x∈bv,GL 1048576 x)(ht:zL 1048576 t)(h:JRun bv t):JRunP bv t:=⟨h,fun k hk=>by
 have h0:=tm_0 h.c0
 have hl:=cX bv t k
 exact e_stepN0 _ bv hbx _ (by omega) (by omega) (h.upto (by omega)) (h.nd ht hk)⟩
end Go.Proofs.YtnajallgoaiahaaGreatDoor
namespace Go.Fid
theorem gs0(a:R2):uR (gw 0) a=gneg a:=by
 unfold uR gw gneg
 rw[show ((0:Int):Rat)=0 from rfl,Rat.sub_eq_add_neg,Rat.sub_eq_add_neg,Rat.zero_add,Rat.zero_add]
theorem ga0(a:R2):vJ (gw 0) a=a:=by
 unfold vJ gw
 rw[show ((0:Int):Rat)=0 from rfl,Rat.zero_add,Rat.zero_add]
def bV(s:Nat):Nat:=25*s-1
def bG(s:Nat):Nat:=51*(s*s)
def dN(v:R2)(g:Nat->R2)(s:Nat):Prop:=GL (bV s) v/\∀ i,GL (bG s) (g i)
def BdOk(ss:List Int)(L:List JV):Prop:=∀ j,j<L.length->∃ s:Nat,ss.getD j 0=(s:Int)/\1<=s/\dN (L.getD j jz).v (fun i=>(L.getD j jz).g.getD i z2) s
theorem gl_0:GL 3 (gw 0):=gl_w (z:=0) (by omega) (by omega)
theorem gl_1:GL 3 (gw 1):=gl_w (z:=1) (by omega) (by omega)
theorem gl_2:GL 3 (gw 2):=gl_w (z:=2) (by omega) (by omega)
theorem sq_sum(s r:Nat):(s+r)*(s+r)=s*s+r*r+2*(s*r):=by
 rw[Nat.add_mul,Nat.mul_add,Nat.mul_add,Nat.mul_comm r s];omega
theorem sr_le{s r:Nat}(hs:1<=s)(hr:1<=r):s+r<=2*(s*r):=by
 have h1:s*1<=s*r:=Nat.mul_le_mul (Nat.le_refl _) hr
 have h2:1*r<=s*r:=Nat.mul_le_mul hs (Nat.le_refl _)
 omega
theorem dN.pt{v:R2}{g:Nat->R2}(hv:GL 24 v)(hg:∀ i,GL 3 (g i)):dN v g 1:=⟨hv,fun i=>kW (hg i) (by decide)⟩
theorem dN.add{v w:R2}{g h:Nat->R2}{s r:Nat}(hs:1<=s)(hr:1<=r)(a:dN v g s)(b:dN w h r):dN (vJ v w) (fun i=>vJ (g i) (h i)) (s+r):=by
 have e:=sq_sum s r
 have e2:=sr_le hs hr
 exact ⟨lY a.1 b.1 (by unfold bV;omega),fun i=>lY (a.2 i) (b.2 i) (by unfold bG;omega)⟩
theorem dN.sub{v w:R2}{g h:Nat->R2}{s r:Nat}(hs:1<=s)(hr:1<=r)(a:dN v g s)(b:dN w h r):dN (uR v w) (fun i=>uR (g i) (h i)) (s+r):=by
 have e:=sq_sum s r
 have e2:=sr_le hs hr
 exact ⟨aY a.1 b.1 (by unfold bV;omega),fun i=>aY (a.2 i) (b.2 i) (by unfold bG;omega)⟩
theorem dN.mul{v w:R2}{g h:Nat->R2}{s r:Nat}(hs:1<=s)(hr:1<=r)(a:dN v g s)(b:dN w h r):dN (qP v w) (fun i=>vJ (qP v (h i)) (qP w (g i))) (s+r):=by
 have e:=sq_sum s r
 have e2:=sr_le hs hr
 exact ⟨xJ a.1 b.1 (by unfold bV;omega),fun i=>lY (xJ a.1 (b.2 i) (Nat.le_refl _)) (xJ b.1 (a.2 i) (Nat.le_refl _)) (by unfold bV bG;omega)⟩
theorem dN.div{v w:R2}{g h:Nat->R2}{s r:Nat}(hs:1<=s)(hr:1<=r)(a:dN v g s)(b:dN w h r):dN (mN v w) (fun i=>mN (uR (g i) (qP (mN v w) (h i))) w) (s+r):=by
 have e:=sq_sum s r
 have e2:=sr_le hs hr
 have hq:GL (bV (s+r)) (mN v w):=gl_div a.1 b.1 (by unfold bV;omega)
 exact ⟨hq,fun i=>gl_div (aY (a.2 i) (xJ hq (b.2 i) (Nat.le_refl _)) (Nat.le_refl _)) b.1 (by unfold bV bG;omega)⟩
theorem dN.neg{v:R2}{g:Nat->R2}{s:Nat}(a:dN v g s):dN (uR (gw 0) v) (fun i=>uR (gw 0) (g i)) s :=
 ⟨by rw[gs0];exact gl_neg a.1,fun i=>by show GL _ (uR (gw 0) (g i));rw[gs0];exact gl_neg (a.2 i)⟩
theorem dN.sq{v:R2}{g:Nat->R2}{s:Nat}(hs:1<=s)(a:dN v g s):dN (gsq v) (fun i=>qP (gw 2) (qP v (g i))) (2*s):=by
 have e:=sq_sum s s
 have e2:=sr_le hs hs
 rw[show 2*s=s+s by omega]
 exact ⟨gl_sq a.1 (by unfold bV;omega),fun i=>xJ gl_2 (xJ a.1 (a.2 i) (Nat.le_refl _)) (by unfold bV bG;omega)⟩
theorem nJ_get{bx:List R2}{L:List JV}{x:qB}{s:Nat}(h1:1<=s)(h:dN (nV bx L x) (nG bx L x) s):dN (nJ bx L x).v (fun i=>(nJ bx L x).g.getD i z2) s:=by
 refine ⟨h.1,fun i=>?_⟩
 have h2:s*1<=s*s:=Nat.mul_le_mul (Nat.le_refl _) h1
 show GL _ ((nJ bx L x).g.getD i z2)
 unfold nJ jk
 dsimp only
 rw[List.getD_eq_getElem?_getD,List.getElem?_map]
 rcases Nat.lt_or_ge i bx.length with h3 | h3
 ·rw[List.getElem?_range h3];exact h.2 i
 ·rw[List.getElem?_eq_none (by simpa using h3)]
  exact ⟨qG mX (by unfold bG;omega),qG mX (by unfold bG;omega),Rat.le_refl⟩
theorem bd_at{ss:List Int}{L:List JV}(h:BdOk ss L){a:Int}(h0:0<=a)(h1:a<L.length):∃ s:Nat,ss.getD a.toNat 0=(s:Int)/\1<=s/\dN (jA L a).v (fun i=>(jA L a).g.getD i z2) s:=h a.toNat (by omega)
theorem bd_node{z:Int}{ss:List Int}{L:List JV}{bx:List R2}{x:qB}(hk:ndC z ss x=0)(hl:ss.length=L.length)(hq:hP x.n (qS x.n) 8)(hb:∀ y∈bx,GL 24 y)(h:BdOk ss L) :
  ∃ s:Nat,szN ss x=(s:Int)/\1<=s/\dN (nV bx L x) (nG bx L x) s:=by
 obtain ⟨h1,h2,h3,_⟩:=nd_0 hk
 unfold fZ at h1
 unfold bA at h2
 rcases fH x.op with ⟨e,f⟩ | ⟨e,f⟩ | ⟨e,f⟩ | ⟨e,f⟩
 ·refine ⟨1,by unfold szN;rw[if_pos e];rfl,Nat.le_refl _,?_⟩
  rcases f with f | f
  ·refine .pt ?_ fun i=>?_
   ·unfold nV;rw[if_pos f];exact kW (fQ hq.ql) (by decide)
   ·unfold nG;rw[if_pos f];exact gl_0
  ·refine .pt ?_ fun i=>?_
   ·unfold nV;rw[if_neg (by omega),if_pos f];exact kZ hb (by decide) _
   ·unfold nG;rw[if_neg (by omega),if_pos f];split
    ·exact gl_1
    ·exact gl_0
 ·obtain ⟨s,e1,e2,e3⟩:=bd_at h (a:=x.a) (by omega) (by omega)
  rcases f with f | f
  ·refine ⟨s,by unfold szN;rw[if_neg (by omega),if_pos f];exact e1,e2,?_⟩
   have e4:=e3.neg
   unfold nV nG;simp only[f];exact e4
  ·refine ⟨2*s,by unfold szN;rw[if_neg (by omega),if_neg (by omega),if_pos f,e1];omega,by omega,?_⟩
   have e4:=e3.sq e2
   unfold nV nG;simp only[f];exact e4
 ·obtain ⟨s,e1,e2,e3⟩:=bd_at h (a:=x.a) (by omega) (by omega)
  obtain ⟨r,g1,g2,g3⟩:=bd_at h (a:=x.b) (by omega) (by omega)
  refine ⟨s+r,by unfold szN;rw[if_neg (by omega),if_neg (by omega),if_neg (by omega),e1,g1];omega,by omega,?_⟩
  rcases f with f | f | f | f
  ·have e4:=e3.add e2 g2 g3
   unfold nV nG;simp only[f];exact e4
  ·have e4:=e3.sub e2 g2 g3
   unfold nV nG;simp only[f];exact e4
  ·have e4:=e3.mul e2 g2 g3
   unfold nV nG;simp only[f];exact e4
  ·have e4:=e3.div e2 g2 g3
   unfold nG;unfold nV;simp only[f];exact e4
 ·omega
theorem getD_snoc{α:Type}{l:List α}{x d:α}{j:Nat}:(l++[x]).getD j d=if j<l.length then l.getD j d else if j=l.length then x else d:=by
 rw[List.getD_eq_getElem?_getD,List.getD_eq_getElem?_getD]
 split
 ·rename_i h;rw[List.getElem?_append_left h]
 ·rename_i h
  rw[List.getElem?_append_right (by omega)]
  split
  ·rename_i e;subst e;rw[Nat.sub_self];rfl
  ·rename_i e;rw[List.getElem?_eq_none (by simp;omega)];rfl
structure mR (bx:List R2) (t:List qB):Prop where
 c0:gK ((bx.length:Nat):Int) t=0
 q:∀ x∈t,hP x.n (qS x.n) 8
 b:∀ y∈bx,GL 24 y
 s:∀ k,k<t.length->szN (cW t k) (t.getD k tz)<=140
theorem vA{α:Type}{l:List α}{d:α}{k:Nat}(h:k<l.length):l.getD k d∈l:=by
 rw[List.getD_eq_getElem?_getD,List.getElem?_eq_getElem h];exact List.getElem_mem _
theorem mR.bd{bx:List R2}{t:List qB}(h:mR bx t):∀ {k:Nat},k<=t.length->BdOk (cW t k) (jU bx t k)
 |0,_=>fun j hj=>by simp [jU] at hj
 |k+1,hk=>fun j hj=>by
  have ih:=h.bd (k:=k) (by omega)
  have l1:=gY t k
  have l2:=cX bx t k
  rw[cX] at hj
  have g1:(cW t (k+1)).getD j 0=_:=getD_snoc
  have g2:(jU bx t (k+1)).getD j jz=_:=getD_snoc
  rcases Nat.lt_or_ge j k with hjk | hjk
  ·rw[if_pos (by omega)] at g1 g2
   rw[g1,g2];exact ih j (by omega)
  ·rw[if_neg (by omega),if_pos (by omega)] at g1 g2
   rw[g1,g2]
   obtain ⟨s,e1,e2,e3⟩:=bd_node ((tm_0 h.c0).2.2.2.2 k (by omega)) (l1.trans l2.symm) (h.q _ (vA (by omega))) h.b ih
   exact ⟨s,e1,e2,nJ_get e2 e3⟩
theorem bd_200{s:Nat}(h:s<=140):bV s<=1048576/\bG s<=1048576:=by
 have h2:s*s<=140*140:=Nat.mul_le_mul h h
 unfold bV bG;omega
theorem mR.jok{bx:List R2}{t:List qB}(h:mR bx t){k:Nat}(hk:k<t.length):nZ 1048576 bx.length (nJ bx (jU bx t k) (t.getD k tz)):=by
 obtain ⟨s,e1,e2,e3⟩:=bd_node ((tm_0 h.c0).2.2.2.2 k hk) ((gY t k).trans (cX bx t k).symm) (h.q _ (vA hk)) h.b (h.bd (Nat.le_of_lt hk))
 have e4:=h.s k hk
 obtain ⟨e5,e6⟩:=bd_200 (s:=s) (by omega)
 exact jk_ok (kW e3.1 e5) fun i _=>kW (e3.2 i) e6
theorem mR.upto{bx:List R2}{t:List qB}(h:mR bx t):∀ {k},k<=t.length->∀ y∈jU bx t k,nZ 1048576 bx.length y
 |0,_,y,hy=>by simp [jU] at hy
 |k+1,hk,y,hy=>by
  rw[jU,List.mem_append] at hy
  rcases hy with hy | hy
  ·exact h.upto (by omega) y hy
  ·rw[List.mem_singleton] at hy;subst hy
   exact h.jok (by omega)
def dzB(bx:List R2)(t:List qB)(k:Nat):Bool:=decide ((t.getD k tz).op=5)&&xH (jA (jU bx t k) (t.getD k tz).b).v.1 (jA (jU bx t k) (t.getD k tz).b).v.2
def dzT(bx:List R2)(t:List qB):Bool:=(List.range t.length).any (dzB bx t)
structure FstDz (bx:List R2) (t:List qB) (k:Nat):Prop where
 lt:k<t.length
 no:∀ j,j<k->dzB bx t j=false
 yes:dzB bx t k=true
theorem fst_any{p:Nat->Bool}:∀ {n:Nat},(List.range n).any p=true->∃ k,k<n/\(∀ j,j<k->p j=false)/\p k=true
 |0,h=>by simp at h
 |n+1,h=>by
  cases hn:(List.range n).any p with
  |true=>
   obtain ⟨k,h1,h2,h3⟩:=fst_any hn
   exact ⟨k,by omega,h2,h3⟩
  |false=>
   rw[List.range_succ,List.any_append,hn] at h
   refine ⟨n,by omega,fun j hj=>?_,by simpa using h⟩
   cases hp:p j with
   |false=>rfl
   |true=>rw[List.any_eq_true.2 ⟨j,List.mem_range.2 hj,hp⟩] at hn;cases hn
theorem dz_fst{bx:List R2}{t:List qB}(h:dzT bx t=true):∃ k,FstDz bx t k:=by
 obtain ⟨k,h1,h2,h3⟩:=fst_any h
 exact ⟨k,h1,h2,h3⟩
theorem dz_no{bx:List R2}{t:List qB}(h:dzT bx t=false){k:Nat}(hk:k<t.length):dzB bx t k=false:=by
 cases hp:dzB bx t k with
 |false=>rfl
 |true=>unfold dzT at h;rw[List.any_eq_true.2 ⟨k,List.mem_range.2 hk,hp⟩] at h;cases h
theorem dz_at{bx:List R2}{t:List qB}{k:Nat}(h:dzB bx t k=false)(ho:(t.getD k tz).op=5):xH (jA (jU bx t k) (t.getD k tz).b).v.1 (jA (jU bx t k) (t.getD k tz).b).v.2=false:=by
 unfold dzB at h;rw[decide_eq_true ho,Bool.true_and] at h;exact h
theorem mR.run{bx:List R2}{t:List qB}(h:mR bx t)(hd:dzT bx t=false):JRun bx t:=⟨h.c0,fun k hk=>h.jok hk,fun k hk ho=>dz_at (dz_no hd hk) ho⟩
theorem mR.up{bx:List R2}{t:List qB}(h:mR bx t):∀ x∈t,hP x.n (qS x.n) 1048576:=fun x hx=>jM (h.q x hx) (by decide)
theorem mR.nd{bx:List R2}{t:List qB}(h:mR bx t){k:Nat}(hk:k<t.length)(hd:dzB bx t k=false):aA bx.length (jU bx t k) (t.getD k tz) :=
 nd_ok ((tm_0 h.c0).2.2.2.2 k hk) (gY t k) (h.up _ (vA hk)) (dz_at hd)
def DzOk(L:List JV)(x:qB):Prop:=∃ a b:Nat,x=⟨5,(a:Int),(b:Int),zr⟩/\a<L.length/\b<L.length/\xH (L.getD b jz).v.1 (L.getD b jz).v.2=true
theorem mR.dz{bx:List R2}{t:List qB}(h:mR bx t){k:Nat}(hk:k<t.length)(hd:dzB bx t k=true):DzOk (jU bx t k) (t.getD k tz):=by
 have hc:=(tm_0 h.c0).2.2.2.2 k hk
 obtain ⟨h1,h2,h3,_⟩:=nd_0 hc
 rw[gY] at h2
 have hl:=cX bx t k
 unfold dzB at hd
 rw[Bool.and_eq_true,decide_eq_true_eq] at hd
 generalize t.getD k tz=x at *
 generalize jU bx t k=L at *
 obtain ⟨op,a,b,n⟩:=x
 unfold fZ at h1
 unfold bA at h2
 dsimp only at *
 obtain ⟨e,hz⟩:=hd
 subst e
 have e5:xG 5=2:=rfl
 rw[e5] at h2
 have hu:n=zr:=uns_eq (by
  cases hh:unsB n with
  |true=>rfl
  |false=>exact absurd (Or.inr (Or.inr (Or.inr ⟨by decide,hh⟩))) h1)
 obtain ⟨m,hm⟩:=nat_of (a:=a) (by omega)
 subst hm
 obtain ⟨l,hl'⟩:=nat_of (a:=b) (by omega)
 subst hl'
 subst hu
 refine ⟨m,l,rfl,by omega,by omega,?_⟩
 unfold jA at hz
 rwa [Int.toNat_natCast] at hz
theorem nd_mono{z w:Int}(hw:z<=w){ss:List Int}{x:qB}(h:ndC z ss x=0):ndC w ss x=0:=by
 obtain ⟨h1,h2,h3,h4⟩:=nd_0 h
 exact nd_y h1 h2 (fun h=>h3 (by unfold rngN at *;omega)) (by omega)
theorem tm_mono{z w:Int}(hw:z<=w)(h6:w<=64){t:List qB}(h:gK z t=0):gK w t=0:=by
 obtain ⟨h1,h2,h3,h4,h5⟩:=tm_0 h
 exact (tm_yes (by omega) h3 (by omega) fun i hi=>nd_mono hw (h5 i hi)).1
theorem szU_mem{t:List qB}:∀ {n k:Nat},k<n->szN (cW t k) (t.getD k tz)∈cW t n
 |0,k,h=>by omega
 |n+1,k,h=>by
  rw[cW,List.mem_append]
  rcases Nat.lt_or_ge k n with h1 | h1
  ·exact .inl (szU_mem h1)
  ·obtain rfl:k=n:=by omega
   exact .inr (List.mem_singleton.2 rfl)
def dJ(bx:List R2)(t:List qB)(k:Nat):vX:=if k=t.length then qW (kA bx t) else ⟨⟨zr,zr⟩,[],[]⟩
def dC(t:List qB)(k:Nat):Nat:=if k=t.length then 0 else 14
theorem dJ_y(bx:List R2)(t:List qB):dJ bx t t.length=qW (kA bx t):=if_pos rfl
theorem dC_y(t:List qB):dC t t.length=0:=if_pos rfl
theorem dJ_n{bx:List R2}{t:List qB}{k:Nat}(h:k<t.length):dJ bx t k=⟨⟨zr,zr⟩,[],[]⟩:=if_neg (by omega)
theorem dC_n{t:List qB}{k:Nat}(h:k<t.length):dC t k=14:=if_neg (by omega)
def StOk(n:Nat)(L:List JV)(x:qB):Prop:=aA n L x\/DzOk L x
theorem StOk.kd{n:Nat}{L:List JV}{x:qB}(h:StOk n L x):xG x.op=0\/xG x.op=1\/xG x.op=2:=by
 rcases h with h | ⟨a,b,rfl,_⟩
 ·cases h<;>first | exact .inl rfl | exact .inr (.inl rfl) | exact .inr (.inr rfl)
 ·exact .inr (.inr rfl)
theorem StOk.a{n:Nat}{L:List JV}{x:qB}(h:StOk n L x)(h1:1<=xG x.op):0<=x.a/\x.a.toNat<L.length:=by
 rcases h with h | ⟨a,b,rfl,ha,_⟩
 ·cases h with
  |c hp=>exact absurd h1 (by show ¬ (1:Int)<=xG 0;decide)
  |v ha=>exact absurd h1 (by show ¬ (1:Int)<=xG 1;decide)
  |add ha hb=>exact ⟨by show 0<=((_:Nat):Int);omega,by show (((_:Nat):Int)).toNat<_;rwa [Int.toNat_natCast]⟩
  |sub ha hb=>exact ⟨by show 0<=((_:Nat):Int);omega,by show (((_:Nat):Int)).toNat<_;rwa [Int.toNat_natCast]⟩
  |mul ha hb=>exact ⟨by show 0<=((_:Nat):Int);omega,by show (((_:Nat):Int)).toNat<_;rwa [Int.toNat_natCast]⟩
  |div ha hb hz=>exact ⟨by show 0<=((_:Nat):Int);omega,by show (((_:Nat):Int)).toNat<_;rwa [Int.toNat_natCast]⟩
  |neg ha=>exact ⟨by show 0<=((_:Nat):Int);omega,by show (((_:Nat):Int)).toNat<_;rwa [Int.toNat_natCast]⟩
  |sq ha=>exact ⟨by show 0<=((_:Nat):Int);omega,by show (((_:Nat):Int)).toNat<_;rwa [Int.toNat_natCast]⟩
 ·exact ⟨by show 0<=((_:Nat):Int);omega,by show (((_:Nat):Int)).toNat<_;rwa [Int.toNat_natCast]⟩
theorem StOk.b{n:Nat}{L:List JV}{x:qB}(h:StOk n L x)(h2:xG x.op=2):0<=x.b/\x.b.toNat<L.length:=by
 rcases h with h | ⟨a,b,rfl,_,hb,_⟩
 ·cases h with
  |c hp=>exact absurd h2 (by show ¬ xG 0=2;decide)
  |v ha=>exact absurd h2 (by show ¬ xG 1=2;decide)
  |add ha hb=>exact ⟨by show 0<=((_:Nat):Int);omega,by show (((_:Nat):Int)).toNat<_;rwa [Int.toNat_natCast]⟩
  |sub ha hb=>exact ⟨by show 0<=((_:Nat):Int);omega,by show (((_:Nat):Int)).toNat<_;rwa [Int.toNat_natCast]⟩
  |mul ha hb=>exact ⟨by show 0<=((_:Nat):Int);omega,by show (((_:Nat):Int)).toNat<_;rwa [Int.toNat_natCast]⟩
  |div ha hb hz=>exact ⟨by show 0<=((_:Nat):Int);omega,by show (((_:Nat):Int)).toNat<_;rwa [Int.toNat_natCast]⟩
  |neg ha=>exact absurd h2 (by show ¬ xG 6=2;decide)
  |sq ha=>exact absurd h2 (by show ¬ xG 7=2;decide)
 ·exact ⟨by show 0<=((_:Nat):Int);omega,by show (((_:Nat):Int)).toNat<_;rwa [Int.toNat_natCast]⟩
theorem aA.op{n:Nat}{L:List JV}{x:qB}(h:aA n L x):x.op=0\/x.op=1\/x.op=2\/x.op=3\/x.op=4\/x.op=5\/x.op=6\/x.op=7:=by
 cases h<;>simp
theorem aA.con{n:Nat}{L:List JV}{x:qB}(h:aA n L x)(e:x.op=0):x.n=jN (qS x.n)/\QL (qS x.n) 1048576:=by
 cases h with
 |c hp=>exact ⟨by rw[yY],by rw[yY];exact hp⟩
 |_=>simp at e
theorem aA.var{n:Nat}{L:List JV}{x:qB}(h:aA n L x)(e:x.op=1):0<=x.a/\x.a.toNat<n:=by
 cases h with
 |v ha=>exact ⟨by show 0<=((_:Nat):Int);omega,by show (((_:Nat):Int)).toNat<_;rwa [Int.toNat_natCast]⟩
 |_=>simp at e
theorem aA.zf{n:Nat}{L:List JV}{x:qB}(h:aA n L x)(e:x.op=5):xH (jA L x.b).v.1 (jA L x.b).v.2=false:=by
 cases h with
 |div ha hb hz=>unfold jA;rw[Int.toNat_natCast];exact hz
 |_=>simp at e
theorem nV_0{bx:List R2}{L:List JV}{x:qB}(h:x.op=0):nV bx L x=yX (qS x.n):=by unfold nV;simp only[h];rfl
theorem nV_1{bx:List R2}{L:List JV}{x:qB}(h:x.op=1):nV bx L x=bx.getD x.a.toNat z2:=by unfold nV;simp only[h];rfl
theorem nV_2{bx:List R2}{L:List JV}{x:qB}(h:x.op=2):nV bx L x=vJ (jA L x.a).v (jA L x.b).v:=by unfold nV;simp only[h];rfl
theorem nV_3{bx:List R2}{L:List JV}{x:qB}(h:x.op=3):nV bx L x=uR (jA L x.a).v (jA L x.b).v:=by unfold nV;simp only[h];rfl
theorem nV_4{bx:List R2}{L:List JV}{x:qB}(h:x.op=4):nV bx L x=qP (jA L x.a).v (jA L x.b).v:=by unfold nV;simp only[h];rfl
theorem nV_5{bx:List R2}{L:List JV}{x:qB}(h:x.op=5):nV bx L x=mN (jA L x.a).v (jA L x.b).v:=by unfold nV;simp only[h];rfl
theorem nV_6{bx:List R2}{L:List JV}{x:qB}(h:x.op=6):nV bx L x=gneg (jA L x.a).v:=by rw[<- gs0];unfold nV;simp only[h];rfl
theorem nV_7{bx:List R2}{L:List JV}{x:qB}(h:x.op=7):nV bx L x=gsq (jA L x.a).v:=by unfold nV;simp only[h];rfl
theorem nG_0{bx:List R2}{L:List JV}{x:qB}{i:Nat}(h:x.op=0):nG bx L x i=gw 0:=by unfold nG;simp only[h];rfl
theorem nG_1{bx:List R2}{L:List JV}{x:qB}{i:Nat}(h:x.op=1):nG bx L x i=if (i:Int)=x.a then gw 1 else gw 0:=by unfold nG;simp only[h];rfl
theorem nG_2{bx:List R2}{L:List JV}{x:qB}{i:Nat}(h:x.op=2):nG bx L x i=vJ ((jA L x.a).g.getD i z2) ((jA L x.b).g.getD i z2):=by unfold nG;simp only[h];rfl
theorem nG_3{bx:List R2}{L:List JV}{x:qB}{i:Nat}(h:x.op=3):nG bx L x i=uR ((jA L x.a).g.getD i z2) ((jA L x.b).g.getD i z2):=by unfold nG;simp only[h];rfl
theorem nG_4{bx:List R2}{L:List JV}{x:qB}{i:Nat}(h:x.op=4):nG bx L x i=vJ (qP (jA L x.a).v ((jA L x.b).g.getD i z2)) (qP (jA L x.b).v ((jA L x.a).g.getD i z2)):=by unfold nG;simp only[h];rfl
theorem nG_5{bx:List R2}{L:List JV}{x:qB}{i:Nat}(h:x.op=5):nG bx L x i=mN (uR ((jA L x.a).g.getD i z2) (qP (nV bx L x) ((jA L x.b).g.getD i z2))) (jA L x.b).v:=by unfold nG;simp only[h];rfl
theorem nG_6{bx:List R2}{L:List JV}{x:qB}{i:Nat}(h:x.op=6):nG bx L x i=gneg ((jA L x.a).g.getD i z2):=by rw[<- gs0];unfold nG;simp only[h];rfl
theorem nG_7{bx:List R2}{L:List JV}{x:qB}{i:Nat}(h:x.op=7):nG bx L x i=qP (gw 2) (qP (jA L x.a).v ((jA L x.a).g.getD i z2)):=by unfold nG;simp only[h];rfl
theorem DzOk.kd{L:List JV}{x:qB}(h:DzOk L x):xG x.op=2:=by
 obtain ⟨a,b,rfl,_⟩:=h
 rfl
structure DEnd (bx:List R2) (t:List qB) (k0:Nat):Prop where
 c0:gK ((bx.length:Nat):Int) t=0
 le:k0<=t.length
 nd:∀ j,j<k0->aA bx.length (jU bx t j) (t.getD j tz)
 ok:∀ j,j<=k0->∀ y∈jU bx t j,nZ 1048576 bx.length y
 nv:∀ j,j<k0->nZ 1048576 bx.length (nJ bx (jU bx t j) (t.getD j tz))
 dz:k0<t.length->DzOk (jU bx t k0) (t.getD k0 tz)
theorem DEnd.st{bx:List R2}{t:List qB}{k0 k:Nat}(h:DEnd bx t k0)(hk:k<=k0)(hl:k<t.length):StOk bx.length (jU bx t k) (t.getD k tz):=by
 rcases Nat.lt_or_ge k k0 with h1 | h1
 ·exact .inl (h.nd k h1)
 ·obtain rfl:k=k0:=by omega
  exact .inr (h.dz hl)
theorem DEnd.dzk{bx:List R2}{t:List qB}{k0 k:Nat}(h:DEnd bx t k0)(hk:k<=k0)(hl:k<t.length)(h1:¬ k<k0):DzOk (jU bx t k) (t.getD k tz):=by
 obtain rfl:k=k0:=by omega
 exact h.dz hl
theorem DEnd.last{bx:List R2}{t:List qB}(h:DEnd bx t t.length):nZ 1048576 bx.length (kA bx t):=by
 have h0:=tm_0 h.c0
 have hl:=cX bx t t.length
 refine h.ok t.length (Nat.le_refl _) _ ?_
 unfold kA
 exact vA (by omega)
theorem mR.dend{bx:List R2}{t:List qB}(h:mR bx t)(hd:dzT bx t=false):DEnd bx t t.length :=
 ⟨h.c0,Nat.le_refl _,fun j hj=>h.nd hj (dz_no hd hj),fun j hj=>h.upto hj,fun j hj=>h.jok hj,fun h1=>absurd h1 (Nat.lt_irrefl _)⟩
theorem mR.dfail{bx:List R2}{t:List qB}(h:mR bx t){k:Nat}(hk:FstDz bx t k):DEnd bx t k :=
 have hl:=hk.lt
 ⟨h.c0,Nat.le_of_lt hl,fun j hj=>h.nd (by omega) (hk.no j hj),fun j hj=>h.upto (by omega),fun j hj=>h.jok (by omega),fun _=>h.dz hl hk.yes⟩
theorem jU_nx{bx:List R2}{t:List qB}{k i:Nat}{o:List vX}{gl:List jL}(ho:o=List.map qW (jU bx t k))(hg:gl=List.map jY (List.map (nG bx (jU bx t k) (t.getD k tz)) (List.range i)))(hi:i=bx.length) :
  o++[vX.mk (jY (nV bx (jU bx t k) (t.getD k tz))) gl []]=List.map qW (jU bx t (k+1)):=by
 subst hi
 rw[ho,hg,jU,List.map_append];rfl
theorem nG_gl{bx:List R2}{L:List JV}{x:qB}{N i:Nat}(h:nZ N bx.length (nJ bx L x))(hi:i<bx.length):GL N (nG bx L x i) :=
 h.2.1 _ (List.mem_map.2 ⟨i,List.mem_range.2 hi,rfl⟩)
end Go.Fid
namespace Go.Proofs.YtnajallgoaiahaaGreatDoor
open Go.Fid
end Go.Proofs.YtnajallgoaiahaaGreatDoor
namespace Go.Proofs.YtnajallgoaiahaaGreatDoor
open Go.Fid
theorem f_stepD(a:Nat)(b:Nat)(bv:List jL)(n:Nat)(L:List JV)(hn:n<=64)(hL:L.length<=1000)(hLk:∀ x∈L,nZ 1048576 n x)(ha:a<L.length)(hb:b<L.length)(hz:xH (L.getD b jz).v.1 (L.getD b jz).v.2=true):xA Tryz.prog 126 [(.ref 0 0),(.d (kS (qB.mk 5 ((a:Nat):Int) ((b:Nat):Int) kH))),(vl 61 8 jF bv)] [(0,some (xZ n 1 L false)),(1,some (yA L))] (.d (.tup [])) [(0,some (xZ n 12 (L++[(jk (gw 0) (fun _=>gw 0) n)]) true)),(12,some (yA (L++[(jk (gw 0) (fun _=>gw 0) n)])))]:=by
 have hu:nZ 1048576 n (L.getD a jz):=cY hLk ha
 have hv:nZ 1048576 n (L.getD b jz):=cY hLk hb
 let y2:=(kS (qB.mk 5 ((a:Nat):Int) ((b:Nat):Int) kH))
 let y1:=(jL.mk kH kH)
 refine nA Tryz.func126 rfl cb126 rfl ?_
 refine jB<|kx [(3,(.ref 2 0)),(4,(.ref 3 0)),(5,(.ref 4 0))] [(2,some [(.ref 0 0)]),(3,some (bx y2)),(4,some (bx (.sl 61 8 (List.map jF bv))))] (zH (oBy 2)<|zH (uU 3)<|zH (uU 4)<|zZ) ?_
 refine jB<|pwp_fix 2 (k:=0) (o:=0) (h:=fun b0=>?_)
 refine kU (wk (l:=[(0,(.ref 0 0)),(3,(.ref 2 0)),(4,(.ref 3 0)),(5,(.ref 4 0))]) (b:=[(0,some (xZ n 1 L false)),(1,some (yA L)),(2,some [(.refx 0 0 b0)]),(3,some (bx y2)),(4,some (bx (.sl 61 8 (List.map jF bv))))])) ?_
 refine kx [(6,(.ref 5 0))] [(5,some (bx (jF (jY (gw 0)))))] (zE (jV (j_whole ((0:Nat):Int) (by omega) (by omega)))<|zH (qR 5 qJ qL)<|zT (qA jP)<|zZ) ?_
 refine jB<|kx [(7,(.clo 181 [5]))] [] (zE (oMf [5])<|zM<|zZ) ?_
 refine jB<|kx [(8,(.ref 6 0)),(9,(.ref 7 0))] [(6,some (bx (jI (vX.mk y1 [] [])))),(7,some (bx (jI (vX.mk y1 [] []))))] (zH (qR 6 mE cG)<|zH (qR 7 mE cG)<|zZ) ?_
 refine jB<|kx [(10,(jS 2))] [] (zE (kV gB)<|zR (uE fM)<|zE (oQd (.val (.int .i64 ((xG 5)))) (.val (.int .i64 (((2:Nat):Int)))) (jV (j_kids 5)) (by exact rfl))<|zM<|zZ) ?_
 refine jB<|jB<|kx [(19,(vb true))] [] (zM<|zE (uP true hH)<|zZ) ?_
 refine uI ?_
 refine kd [] [(6,some (bx (jI (qW (L.getD a jz)))))] mo (wR (oLx fE)<|wE oNc<|wE (kV cU)<|wR (uE sh143)<|wE (kV gS)<|wR (uE cL)<|wE (oXO dY a (hj:=by first | omega | rfl | (simp only[List.length_map];omega) | (dsimp only;omega)) (h1:=by first | omega | rfl | (simp only[List.length_map];omega) | (dsimp only;omega)))<|wR (oQr (jI ((List.map qW L).getD a (vX.mk y1 [] []))) (jI (qW (L.getD a jz))) (oLA gU a (vX.mk y1 [] []) (h1:=by first | omega | rfl | (simp only[List.length_map];omega) | (dsimp only;omega))) (by exact (congrArg jI (cP qW L jz _ (by omega)))))<|wT (qA gU)<|wZ) ?_
 refine jB<|jB<|kx [(29,(vb true))] [] (zM<|zE (uP true hH)<|zZ) ?_
 refine uI ?_
 refine kd [] [(7,some (bx (jI (qW (L.getD b jz)))))] mo (wR (oLx fE)<|wE oNc<|wE (kV cU)<|wR (uE sh143)<|wE (kV mT)<|wR (uE cL)<|wE (oXO dY b (hj:=by first | omega | rfl | (simp only[List.length_map];omega) | (dsimp only;omega)) (h1:=by first | omega | rfl | (simp only[List.length_map];omega) | (dsimp only;omega)))<|wR (oQr (jI ((List.map qW L).getD b (vX.mk y1 [] []))) (jI (qW (L.getD b jz))) (oLA gU b (vX.mk y1 [] []) (h1:=by first | omega | rfl | (simp only[List.length_map];omega) | (dsimp only;omega))) (by exact (congrArg jI (cP qW L jz _ (by omega)))))<|wT (qA gU)<|wZ) ?_
 refine jB<|kx [(11,(.clo 183 [2,6,7]))] [] (zE (oMf [2,6,7])<|zM<|zZ) ?_
 refine jB<|kx [(40,(vi 5))] [] (zE (kV gB)<|zR (uE fM)<|zZ) ?_
 refine jH<|jB<|kx [(46,(vb false))] [] (zE (uP false xR)<|zM<|zZ) ?_
 refine kM ?_
 refine jB<|kx [(53,(vb false))] [] (zE (uP false xR)<|zM<|zZ) ?_
 refine kM ?_
 refine jB<|kx [(60,(vb false))] [] (zE (uP false xR)<|zM<|zZ) ?_
 refine kM ?_
 refine jB<|kx [(64,(vb false))] [] (zE (uP false xR)<|zM<|zZ) ?_
 refine kM ?_
 refine jB<|kU (wk (l:=[(0,(.ref 0 0)),(3,(.ref 2 0)),(6,(.ref 5 0)),(8,(.ref 6 0)),(9,(.ref 7 0)),(11,(.clo 183 [2,6,7])),(40,(vi 5)),(64,(vb false))]) (b:=[(0,some (xZ n 1 L false)),(1,some (yA L)),(2,some [(.refx 0 0 b0)]),(5,some (bx (jF (jY (gw 0))))),(6,some (bx (jI (qW (L.getD a jz))))),(7,some (bx (jI (qW (L.getD b jz)))))])) ?_
 refine kx [(68,(vb false))] [] (zE (uP false xR)<|zM<|zZ) ?_
 refine kM ?_
 refine jB<|kx [(74,(vb false))] [] (zE (uP false xR)<|zM<|zZ) ?_
 refine kM ?_
 refine jB<|kx [(81,(vb false))] [] (zE (uP false xR)<|zM<|zZ) ?_
 refine kM ?_
 refine kf [] [(0,some (xZ n 12 (L++[jk (gw 0) (fun _=>gw 0) n]) true)),(12,some (yA (L++[jk (gw 0) (fun _=>gw 0) n]))),(1,none),(10,none),(11,none),(2,none),(6,none),(7,none),(8,none),(9,none)] (zR (oLx fE)<|zE (oMf [2,6,7])<|zE (oMf [2,6,7])<|zE (oMf [6,7,2])<|zSe (B2:=[(0,some (xZ n 1 L false)),(1,some (yA L)),(2,some [(.refx 0 0 b0)]),(6,some (bx (jI (qW (L.getD a jz))))),(7,some (bx (jI (qW (L.getD b jz)))))]) (B2':=[(0,some (xZ n 12 (L++[jk (gw 0) (fun _=>gw 0) n]) true)),(12,some (yA (L++[jk (gw 0) (fun _=>gw 0) n])))]) [0,1,2,6,7,8,9,10,11,12] [0,2,6,7] (f_nodeD n L b0 (L.getD a jz) hu (L.getD b jz) hv hn hL hz)<|zF) ?_
 refine ⟨yG (by kernel_rfl),gJ (by kernel_rfl),.inl ⟨_,.nil,?_⟩⟩
 rfl
theorem hF12(n:Nat)(L:List JV):([(0,some [(jS n),(jS 1),(vi (-1)),(.own 18 95 10 ((List.map qW (L)).length)),(vb true)]),(18,some (yU jI (List.map qW (L))))]:BS).map (fun e=>(e.1,e.2.map fun c=>c.map (SV.ren (xn 12 18))))=([(0,some [(jS n),(jS 1),(vi (-1)),(.own 12 95 10 ((List.map qW (L)).length)),(vb true)]),(12,some (yU jI (List.map qW (L))))]:BS).map (fun e=>(xn 12 18 e.1,e.2)):=by
 simp only[List.map_cons,List.map_nil,Option.map_some,yU,ren_dat]
 rfl
def StepFail(bv:List R2)(L:List JV)(x:qB):Prop:=xA Tryz.prog 126 [(.ref 0 0),(.d (kS x)),(vl 61 8 jF (List.map jY bv))] [(0,some (xZ bv.length 1 (L) false)),(1,some (yA (L)))] (.d (.tup [])) [(0,some (xZ bv.length 18 (L++[(jk (gw 0) (fun _=>gw 0) bv.length)]) true)),(18,some (yA (L++[(jk (gw 0) (fun _=>gw 0) bv.length)])))]
theorem f_step(x:qB)(bv:List R2)(hbx:∀ x∈bv,GL 1048576 x)(L:List JV)(hst:StepFail bv L x):xA Tryz.prog 126 [(.ref 0 0),(.d (kS x)),(vl 61 8 jF (List.map jY bv))] [(0,some (xZ bv.length 1 (L) false)),(1,some (yA (L)))] (.d (.tup [])) [(0,some (xZ bv.length 18 (L++[(jk (gw 0) (fun _=>gw 0) bv.length)]) true)),(18,some (yA (L++[(jk (gw 0) (fun _=>gw 0) bv.length)])))]:=hst
structure JFailP (bv:List R2) (t:List qB) (k:Nat):Prop where
 c0:gK ((bv.length:Nat):Int) t=0
 lt:k<t.length
 st:∀ j,j<k->StepAt bv (jU bv t j) (t.getD j tz)
 fl:StepFail bv (jU bv t k) (t.getD k tz)
theorem e_stepF0(x:qB)(bv:List R2)(L:List JV)(hn:bv.length<=64)(hL:L.length<=1000)(hLk:∀ y∈L,nZ 1048576 bv.length y)(hx:DzOk L x):StepFail bv L x:=by
 obtain ⟨a,b,rfl,ha,hb,hz⟩:=hx
 exact takesS_ren 12 18 (f_stepD _ _ (List.map jY bv) bv.length L hn hL hLk ha hb hz) (hF12 _ _) rfl (by kernel_rfl)
theorem fail_p{bv:List R2}{t:List qB}{k:Nat}(h:mR bv t)(hk:FstDz bv t k):JFailP bv t k:=by
 have h0:=tm_0 h.c0
 have hbx:∀ y∈bv,GL 1048576 y:=fun y hy=>kW (h.b y hy) (by decide)
 have hk1:=hk.lt
 refine ⟨h.c0,hk.lt,fun j hj=>?_,?_⟩
 ·have hl:=cX bv t j
  exact e_stepN0 _ bv hbx _ (by omega) (by omega) (h.upto (by omega)) (h.nd (by omega) (hk.no j hj))
 ·have hl:=cX bv t k
  exact e_stepF0 _ bv _ (by omega) (by omega) (h.upto (by omega)) (h.dz hk.lt hk.yes)
theorem xW{bv:List R2}{t:List qB}(h:mR bv t)(hd:dzT bv t=false):JRunP bv t:=run_p (fun y hy=>kW (h.b y hy) (by decide)) h.up (h.run hd)
end Go.Proofs.YtnajallgoaiahaaGreatDoor
