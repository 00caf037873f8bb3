/- Part 30 of a proof: rules, plain facts, and functions walked. -/
import Derived.Test.YtnajallgoaiahaaGreatDoorM27
import Derived.Test.YtnajallgoaiahaaGreatDoorM29
import Derived.Test.YtnajallgoaiahaaGreatDoorM28
import Derived.Test.YtnajallgoaiahaaGreatDoorM19
set_option linter.unusedVariables false
set_option linter.unusedSimpArgs false
set_option maxRecDepth 4000
namespace Go.Proofs.YtnajallgoaiahaaGreatDoor
open Go.Fid
theorem f_div(a:R2)(ha:GL 67108864 a)(b:R2)(hb:GL 67108864 b)(n:Nat)(x:jZ)(fb:Bool)(hz:yS b.1 b.2=true):vS Tryz.prog 204 [(.ref 0 0),(.d (jD (jP a))),(.d (jD (jP b)))] [(0,some [(jK n),(jK 1),(vi (-1)),(.d (x)),(vb fb)])] (.d (jD (jP (gw 0)))) [(0,some [(jK n),(jK 1),(vi (-1)),(.d (x)),(vb true)])]:=by
 refine vG Tryz.func204 rfl cb204 rfl ?_
 show qM _ _ _ _ ⟨[(0,(.ref 0 0)),(1,(.d (jD (jP a)))),(2,(.d (jD (jP b))))],[(0,some [(jK n),(jK 1),(vi (-1)),(.d (x)),(vb fb)])]⟩
 refine jB<|kx [(4,(.ref 1 0)),(5,(.ref 2 0)),(6,(.ref 3 0))] [(1,some (bx (jD (jP a)))),(2,some (bx (jD (jP b)))),(3,some (bx (jD (jO.mk kR kR))))] (zN (uY 1)<|zN (uY 2)<|zN (qW 3 qL qR)<|zZ) ?_
 refine jB<|kx [(7,(.ref 4 0)),(8,(vi 14))] [(4,some (bx (jD (jO.mk kR kR))))] (zR (kP jY)<|zR (kP jY)<|zE (kA (i_divideZ a.1 a.2 b.1 b.2 (qu ha.1) (qu ha.2.1) (qu hb.1) (qu hb.2.1) ha.2.2 hb.2.2 hz))<|zM<|zE vI<|zE vI<|zN (qW 4 qL qR)<|zT (qF jY)<|zM<|zZ) ?_
 refine jB<|jB<|kx [(16,(vb true))] [] (zM<|zE cR<|zZ) ?_
 refine uD ?_
 refine jB<|kx [] [(0,some [(jK n),(jK 1),(vi (-1)),(.d (x)),(vb true)])] (zM<|zE mY<|zE (qA fo161_4)<|zT (qF bJ)<|zZ) ?_
 refine jB<|kx [] [(3,some (bx (jD (jP (gw 0)))))] (zE (kA (cF 0 (by omega) (by omega)))<|zT (qF jY)<|zZ) ?_
 refine jG ⟨xK (by kernel_rfl),zJ (by kernel_rfl),.inl ⟨_,(kJ (cs:=(bx (jD (jP (gw 0))))) (d:=(jD (jP (gw 0)))) rfl rfl jY rfl rfl .nil),?_⟩⟩
 rfl
theorem f_vD(n:Nat)(x:jZ)(fb:Bool)(bb:Nat)(u:JV)(hu:nF 1048576 n u)(v:JV)(hv:nF 1048576 n v)(hz:yS v.v.1 v.v.2=true):vS Tryz.prog 203 [(.ref 1 0),(.ref 2 0),(.ref 3 0)] [(0,some [(jK n),(jK 1),(vi (-1)),(.d (x)),(vb fb)]),(1,some [(.refx 0 0 bb)]),(2,some (bx (jC (jN u)))),(3,some (bx (jC (jN v))))] (.d (jD (jP (gw 0)))) [(0,some [(jK n),(jK 1),(vi (-1)),(.d (x)),(vb true)]),(1,some [(.refx 0 0 bb)]),(2,some (bx (jC (jN u)))),(3,some (bx (jC (jN v))))]:=by
 refine vG Tryz.func203 rfl cb203 rfl ?_
 show qM _ _ _ _ ⟨[(0,(.ref 1 0)),(1,(.ref 2 0)),(2,(.ref 3 0))],[(0,some [(jK n),(jK 1),(vi (-1)),(.d (x)),(vb fb)]),(1,some [(.refx 0 0 bb)]),(2,some (bx (jC (jN u)))),(3,some (bx (jC (jN v))))]⟩
 refine jB<|kx [(3,(.ref 4 0))] [(4,some (bx (jD (jO.mk kR kR))))] (zN (qW 4 qL qR)<|zZ) ?_
 refine jB<|kf [] [(0,some [(jK n),(jK 1),(vi (-1)),(.d (x)),(vb true)]),(4,some (bx (jD (jP (gw 0)))))] (zR (oLx mA)<|zE (qA yC)<|zR (kP jY)<|zE (qA yC)<|zR (kP jY)<|zS (B2:=[(0,some [(jK n),(jK 1),(vi (-1)),(.d (x)),(vb fb)])]) (B2':=[(0,some [(jK n),(jK 1),(vi (-1)),(.d (x)),(vb true)])]) (M:=1000000) [0] [0] (f_div u.v (qI hu.1 (by decide)) v.v (qI hv.1 (by decide)) n (x) fb hz) (.cons (by exact rfl) (by kernel_rfl) .nil) (.cons (by exact rfl) (by kernel_rfl) .nil) (by repeat first | exact .nil | refine .hid rfl ?_ | refine .map rfl ?_ | refine .dat rfl ?_ | refine .none rfl ?_ | refine .cells rfl rfl ?_)<|zT (qF jY)<|zF) ?_
 refine jG ⟨xK (by kernel_rfl),zJ (by kernel_rfl),.inl ⟨_,(kJ (cs:=(bx (jD (jP (gw 0))))) (d:=(jD (jP (gw 0)))) rfl rfl jY rfl rfl .nil),?_⟩⟩
 rfl
theorem f_gD(i:Nat)(n:Nat)(x:jZ)(fb:Bool)(bb:Nat)(u:JV)(hu:nF 1048576 n u)(v:JV)(hv:nF 1048576 n v)(w:R2)(hw:GL 2097152 w)(y z:jZ)(hz:yS v.v.1 v.v.2=true)(hi:i<n):vS Tryz.prog 205 [(.ref 4 0),(jK i),(.ref 1 0),(.ref 2 0),(.ref 3 0)] [(0,some [(jK n),(jK 1),(vi (-1)),(.d (x)),(vb fb)]),(1,some [(.refx 0 0 bb)]),(2,some (bx (jC (jN u)))),(3,some (bx (jC (jN v)))),(4,some (bx (jD (jP w))++[(.d (y)),(.d (z))]))] (.d (jD (jP (gw 0)))) [(0,some [(jK n),(jK 1),(vi (-1)),(.d (x)),(vb true)]),(1,some [(.refx 0 0 bb)]),(2,some (bx (jC (jN u)))),(3,some (bx (jC (jN v)))),(4,some (bx (jD (jP w))++[(.d (y)),(.d (z))]))]:=by
 have hul:=hu.2.2
 have hvl:=hv.2.2
 refine vG Tryz.func205 rfl cb205 rfl ?_
 show qM _ _ _ _ ⟨[(0,(.ref 4 0)),(1,(jK i)),(2,(.ref 1 0)),(3,(.ref 2 0)),(4,(.ref 3 0))],[(0,some [(jK n),(jK 1),(vi (-1)),(.d (x)),(vb fb)]),(1,some [(.refx 0 0 bb)]),(2,some (bx (jC (jN u)))),(3,some (bx (jC (jN v)))),(4,some (bx (jD (jP w))++[(.d (y)),(.d (z))]))]⟩
 refine jB<|kx [(7,(.ref 5 0))] [(5,some (bx (jD (jO.mk kR kR))))] (zN (qW 5 qL qR)<|zZ) ?_
 refine jB<|kd [] [(0,some [(jK n),(jK 1),(vi (-1)),(.d (x)),(vb true)]),(5,some (bx (jD (jP (gw 0)))))] mo (wR (oLx mA)<|wE (qA uX)<|wR (qX gS)<|wM<|wE (oXm uW jP i z2)<|wE (gN jY)<|wM<|wE mY<|wE (qA yC)<|wR (kP jY)<|wE (qA uX)<|wR (qX gS)<|wM<|wE (oXm uW jP i z2)<|wE (gN jY)<|wE (kA (j_mul w (qI hw (by decide)) (v.g.getD i z2) (qI (uT hv.2.1 (by decide) i) (by decide))))<|wE (kA (j_sub (u.g.getD i z2) (qI (uT hu.2.1 (by decide) i) (by decide)) (kO w (v.g.getD i z2)) (qI (yX (k:=3145728) hw (uT hv.2.1 (by decide) i) (by decide)) (by decide))))<|wE (qA yC)<|wR (kP jY)<|wS [0] [] (.d (jD (jP (gw 0)))) [(.ref 0 0),(.d (jD (jP (kZ (u.g.getD i z2) (kO w (v.g.getD i z2)))))),(.d (jD (jP v.v)))] [(0,some [(jK n),(jK 1),(vi (-1)),(.d (x)),(vb fb)])] [(0,some [(jK n),(jK 1),(vi (-1)),(.d (x)),(vb true)])] (f_div (kZ (u.g.getD i z2) (kO w (v.g.getD i z2))) (qI (fJ (k:=4194305) (uT hu.2.1 (by decide) i) (yX (k:=3145728) hw (uT hv.2.1 (by decide) i) (by decide)) (by decide)) (by decide)) v.v (qI hv.1 (by decide)) n (x) fb hz) (.cons rfl (by kernel_rfl) .nil) (.cons rfl (by kernel_rfl) .nil) (by repeat first | exact .nil | refine .hid rfl ?_ | refine .none ?_ | refine .dat ?_ | refine .map ?_ | refine .cells (by kernel_rfl) ?_) (by repeat first | exact .nil | refine .dat ?_ | refine .map ?_ | refine .cells (by kernel_rfl) ?_)<|wT (qF jY)<|wZ) ?_
 refine jG ⟨xK (by kernel_rfl),zJ (by kernel_rfl),.inl ⟨_,(kJ (cs:=(bx (jD (jP (gw 0))))) (d:=(jD (jP (gw 0)))) rfl rfl jY rfl rfl .nil),?_⟩⟩
 rfl
theorem f_round(n:Nat)(x:jZ)(a:R2)(ha:GL 67108864 a):jS Tryz.prog 243 [(.cptr 1000000 (jZ.cells (.agg [(.val (.int .i64 (((n:Nat):Int)))),(.val (.int .i64 (((1:Nat):Int)))),(.val (.int .i64 (-1))),(x),(.val (.bool (true)))])) 0),(jD (jP a))] (jD (jP a)):=by
 refine jJ Tryz.func243 rfl cb243 rfl ?_
 show qM _ _ _ _ ⟨[(0,(.d (.cptr 1000000 (jZ.cells (.agg [(.val (.int .i64 (((n:Nat):Int)))),(.val (.int .i64 (((1:Nat):Int)))),(.val (.int .i64 (-1))),(x),(.val (.bool (true)))])) 0))),(1,(.d (jD (jP a))))],[]⟩
 refine jB<|kx [(3,(.ref 0 0)),(4,(.ref 1 0))] [(0,some (bx (jD (jP a)))),(1,some (bx (jD (jO.mk kR kR))))] (zN (uY 0)<|zN (qW 1 qL qR)<|zZ) ?_
 refine jB<|jB<|kx [(9,(vb true))] [] (zM<|zE oNd<|zE (oFc fo161_2)<|zE (nC gI)<|zE (uR true xY)<|zZ) ?_
 refine uD ?_
 refine jB<|kx [] [(1,some (bx (jD (jP a))))] (zR (kP jY)<|zT (qF jY)<|zZ) ?_
 refine jG ⟨_,(kJ (cs:=(bx (jD (jP a)))) (d:=(jD (jP a))) rfl rfl jY rfl rfl .nil),?_⟩
 rfl
theorem f_nodeD(n:Nat)(L:List JV)(bb:Nat)(u:JV)(hu:nF 1048576 n u)(v:JV)(hv:nF 1048576 n v)(hn:n≤64)(hL:L.length≤1000)(hz:yS v.v.1 v.v.2=true):vS Tryz.prog 184 [(.ref 0 0),(.clo 203 [2,3,4]),(.clo 205 [2,3,4]),(.clo 206 [3,4,2])] [(0,some [(jK n),(jK 1),(vi (-1)),(.own 1 95 10 ((List.map jN L).length)),(vb false)]),(1,some (qB jC (List.map jN L))),(2,some [(.refx 0 0 bb)]),(3,some (bx (jC (jN u)))),(4,some (bx (jC (jN v))))] (.d (.tup [])) [(0,some [(jK n),(jK 1),(vi (-1)),(.own 9 95 10 ((List.map jN (L++[jk (gw 0) (fun _=>gw 0) n])).length)),(vb true)]),(9,some (qB jC (List.map jN (L++[jk (gw 0) (fun _=>gw 0) n]))))]:=by
 refine vG Tryz.func184 rfl cb184 rfl ?_
 show qM _ _ _ _ ⟨[(0,(.ref 0 0)),(1,(.clo 203 [2,3,4])),(2,(.clo 205 [2,3,4])),(3,(.clo 206 [3,4,2]))],[(0,some [(jK n),(jK 1),(vi (-1)),(.own 1 95 10 ((List.map jN L).length)),(vb false)]),(1,some (qB jC (List.map jN L))),(2,some [(.refx 0 0 bb)]),(3,some (bx (jC (jN u)))),(4,some (bx (jC (jN v))))]⟩
 refine jB<|kx [(8,(.ref 5 0))] [(0,some [(jK n),(jK 1),(vi (-1)),(.own 1 95 10 ((List.map jN L).length)),(vb true)]),(2,some [(.refx 0 0 bb)]),(3,some (bx (jC (jN u)))),(4,some (bx (jC (jN v)))),(5,some (bx (.agg (jZ.cells (jD (jP (gw 0)))++[(.val (.slice none 0 0)),(.val (.slice none 0 0))]))))] (zM<|zM<|zV [0,2,3,4] [] [0] (.d (jD (jP (gw 0)))) [(.ref 2 0),(.ref 3 0),(.ref 4 0)] [(0,some [(jK n),(jK 1),(vi (-1)),(.own 1 95 10 ((List.map jN L).length)),(vb false)]),(2,some [(.refx 0 0 bb)]),(3,some (bx (jC (jN u)))),(4,some (bx (jC (jN v))))] [(0,some [(jK n),(jK 1),(vi (-1)),(.own 1 95 10 ((List.map jN L).length)),(vb true)]),(2,some [(.refx 0 0 bb)]),(3,some (bx (jC (jN u)))),(4,some (bx (jC (jN v))))] (fun U=>f_vD n (.val (U 0 3)) false bb u hu v hv hz) (fun U=>(.cons rfl (by kernel_rfl) (.cons rfl (by kernel_rfl) (.cons rfl (eW _ _ _ _) (.cons rfl (eW _ _ _ _) .nil))))) (fun U=>(.cons rfl (by kernel_rfl) (.cons rfl (by kernel_rfl) (.cons rfl (eW _ _ _ _) (.cons rfl (eW _ _ _ _) .nil))))) (fun U=>(.cons (k:=0) (q:=1) (o:=0) (b:=bb) (j:=0) (by kernel_rfl) (by kernel_rfl) (by kernel_rfl) .nil)) (.cells (by kernel_rfl) (.cells (by kernel_rfl) (.dat (.dat .nil)))) (by repeat first | exact .nil | refine .hid rfl ?_ | refine .none ?_ | refine .dat ?_ | refine .map ?_ | refine .cells (by kernel_rfl) ?_) (hc:=callV_fn (ex:=[.ref 2 0,.ref 3 0,.ref 4 0]) (by exact rfl) (.clo (kk:=[2,3,4]) (by kernel_rfl) (by kernel_rfl)) (by kernel_rfl))<|zC (oCh [(0,[(jK n),(jK 1),(vi (-1)),(.own 1 95 10 ((List.map jN L).length)),(vb true)],(jZ.cells (.agg [(.val (.int .i64 (((n:Nat):Int)))),(.val (.int .i64 (((1:Nat):Int)))),(.val (.int .i64 (-1))),(.sl 1000000 10 (List.map jC (List.map jN L))),(.val (.bool (true)))]))),(1,(qB jC (List.map jN L)),(qJ (List.map jC (List.map jN L))))] [(.ref 0 0),(.d (jD (jP (gw 0))))] (f_round n (.sl 1000000 10 (List.map jC (List.map jN L))) (gw 0) (qI (gl_w (z:=0) (by omega) (by omega)) (by decide))) (.cons (.r (.head _)) (.cons .d .nil)) (.cons (.cons .d (.cons .d (.cons .d (.cons (uV (F:=jC) (L:=(List.map jN L)) (.head _) (fun _=>rfl) rfl) (.cons .d .nil))))) (.cons (.all (by exact rfl)) .nil)) (uK (by decide) _) (ex:=[]))<|zE (cS pl95 vL zn95)<|zH (qW 5 vL zL)<|zT (qF vP)<|zZ) ?_
 refine jB<|jB<|kx [(22,(vb true))] [] (zM<|zE mY<|zE (qA gO)<|zR (qX gI)<|zE (uR true gD)<|zZ) ?_
 refine uD ?_
 refine jB<|yG 5 8 6 61 8 (cs:=(bx (.agg (jZ.cells (jD (jP (gw 0)))++[(.val (.slice none 0 0)),(.val (.slice none 0 0))])))) (h:=?_)
 refine jV (wk (l:=[(0,(.ref 0 0)),(1,(.clo 203 [2,3,4])),(2,(.clo 205 [2,3,4])),(3,(.clo 206 [3,4,2])),(8,(.ref 5 0)),(22,(vb true))]) (b:=[(0,some [(jK n),(jK 1),(vi (-1)),(.own 1 95 10 ((List.map jN L).length)),(vb true)]),(1,some (qB jC (List.map jN L))),(2,some [(.refx 0 0 bb)]),(3,some (bx (jC (jN u)))),(4,some (bx (jC (jN v)))),(5,some (bx (jD (jP (gw 0)))++[(.own 6 61 8 0),(.d (.val (.slice none 0 0)))])),(6,some (qB jD []))])) ?_
 refine yG 5 9 7 86 1 (cs:=(bx (jD (jP (gw 0)))++[(.own 6 61 8 0),(.d (.val (.slice none 0 0)))])) (h:=?_)
 refine jV (wk (l:=[(0,(.ref 0 0)),(1,(.clo 203 [2,3,4])),(2,(.clo 205 [2,3,4])),(3,(.clo 206 [3,4,2])),(8,(.ref 5 0)),(22,(vb true))]) (b:=[(0,some [(jK n),(jK 1),(vi (-1)),(.own 1 95 10 ((List.map jN L).length)),(vb true)]),(1,some (qB jC (List.map jN L))),(2,some [(.refx 0 0 bb)]),(3,some (bx (jC (jN u)))),(4,some (bx (jC (jN v)))),(5,some (bx (jD (jP (gw 0)))++[(.own 6 61 8 0),(.own 7 86 1 0)])),(6,some (qB jD [])),(7,some (bm jX []))])) ?_
 refine kx [(26,(jK n)),(27,(jK 0))] [] (zM<|zE mY<|zE (qA eX)<|zR (qX gI)<|zM<|zZ) ?_
 refine jI<|kM (α:=Nat × List jO) (fun (i,gl)=>⟨[(0,(.ref 0 0)),(1,(.clo 203 [2,3,4])),(2,(.clo 205 [2,3,4])),(3,(.clo 206 [3,4,2])),(8,(.ref 5 0)),(26,(jK n)),(27,(jK i))],[(0,some [(jK n),(jK 1),(vi (-1)),(.own 1 95 10 ((List.map jN L).length)),(vb true)]),(1,some (qB jC (List.map jN L))),(2,some [(.refx 0 0 bb)]),(3,some (bx (jC (jN u)))),(4,some (bx (jC (jN v)))),(5,some (bx (jD (jP (gw 0)))++[(.own 6 61 8 gl.length),(.own 7 86 1 0)])),(6,some (qB jD gl)),(7,some (bm jX []))]⟩) (fun (i,gl)=>i≤n∧gl=List.map jP (List.map (fun (_:Nat)=>gw 0) (List.range i))) (fun (i,gl)=>n-i) (0,[]) wk ⟨Nat.zero_le _,rfl⟩ ?_
 rintro ⟨i,gl⟩ ⟨hi,hg⟩
 have hgl:gl.length=i:=aO (G:=(fun (_:Nat)=>gw 0)) hg
 refine jB<|kx [(28,(vb (decide (((i:Nat):Int)<((n:Nat):Int)))))] [] (zE xY<|zZ) ?_
 refine jB<|jH rfl (fun h1=>?_) (fun h1=>?_)
 ·replace h1:=vJ h1
  refine jF<|jB<|jI<|jB<|kx [(9,(jK i))] [] (zM<|zM<|zZ) ?_
  refine kd [] [(0,some [(jK n),(jK 1),(vi (-1)),(.own 1 95 10 ((List.map jN L).length)),(vb true)]),(2,some [(.refx 0 0 bb)]),(3,some (bx (jC (jN u)))),(4,some (bx (jC (jN v)))),(5,some (bx (jD (jP (gw 0)))++[(.own 8 61 8 ((gl++[(jP (gw 0))]).length)),(.own 7 86 1 0)])),(8,some (qB jD (gl++[(jP (gw 0))]))),(6,none)] mo (wE (qA uX)<|wR (qX gS)<|wM<|wM<|wM<|wV [0,2,3,4,5] [] [0] [] (.d (jD (jP (gw 0)))) [(.ref 5 0),(jK i),(.ref 2 0),(.ref 3 0),(.ref 4 0)] [(0,some [(jK n),(jK 1),(vi (-1)),(.own 1 95 10 ((List.map jN L).length)),(vb true)]),(2,some [(.refx 0 0 bb)]),(3,some (bx (jC (jN u)))),(4,some (bx (jC (jN v)))),(5,some (bx (jD (jP (gw 0)))++[(.own 6 61 8 gl.length),(.own 7 86 1 0)]))] [(0,some [(jK n),(jK 1),(vi (-1)),(.own 1 95 10 ((List.map jN L).length)),(vb true)]),(2,some [(.refx 0 0 bb)]),(3,some (bx (jC (jN u)))),(4,some (bx (jC (jN v)))),(5,some (bx (jD (jP (gw 0)))++[(.own 6 61 8 gl.length),(.own 7 86 1 0)]))] (fun U=>f_gD i n (.val (U 0 3)) true bb u hu v hv (gw 0) (qI (gl_w (z:=0) (by omega) (by omega)) (by decide)) (.val (U 5 8)) (.val (U 5 9)) hz (by omega)) (fun U=>(.cons rfl (by kernel_rfl) (.cons rfl (by kernel_rfl) (.cons rfl (eW _ _ _ _) (.cons rfl (eW _ _ _ _) (.cons rfl (by kernel_rfl) .nil)))))) (fun U=>(.cons rfl (by kernel_rfl) (.cons rfl (by kernel_rfl) (.cons rfl (eW _ _ _ _) (.cons rfl (eW _ _ _ _) (.cons rfl (by kernel_rfl) .nil)))))) (fun U=>(.cons (k:=0) (q:=1) (o:=0) (b:=bb) (j:=0) (by kernel_rfl) (by kernel_rfl) (by kernel_rfl) .nil)) (.cells (by kernel_rfl) (.cells (by kernel_rfl) (.dat (.dat (.cells (by kernel_rfl) .nil))))) (by repeat first | exact .nil | refine .hid rfl ?_ | refine .none ?_ | refine .dat ?_ | refine .map ?_ | refine .cells (by kernel_rfl) ?_) (by repeat first | exact .nil | refine .dat ?_ | refine .map ?_ | refine .cells (by kernel_rfl) ?_) (hc:=callV_fn (ex:=[.ref 2 0,.ref 3 0,.ref 4 0]) (by exact rfl) (.clo (kk:=[2,3,4]) (by kernel_rfl) (by kernel_rfl)) (by kernel_rfl))<|wC (oCh [(0,[(jK n),(jK 1),(vi (-1)),(.own 1 95 10 ((List.map jN L).length)),(vb true)],(jZ.cells (.agg [(.val (.int .i64 (((n:Nat):Int)))),(.val (.int .i64 (((1:Nat):Int)))),(.val (.int .i64 (-1))),(.sl 1000000 10 (List.map jC (List.map jN L))),(.val (.bool (true)))]))),(1,(qB jC (List.map jN L)),(qJ (List.map jC (List.map jN L))))] [(.ref 0 0),(.d (jD (jP (gw 0))))] (f_round n (.sl 1000000 10 (List.map jC (List.map jN L))) (gw 0) (qI (gl_w (z:=0) (by omega) (by omega)) (by decide))) (.cons (.r (.head _)) (.cons .d .nil)) (.cons (.cons .d (.cons .d (.cons .d (.cons (uV (F:=jC) (L:=(List.map jN L)) (.head _) (fun _=>rfl) rfl) (.cons .d .nil))))) (.cons (.all (by exact rfl)) .nil)) (uK (by decide) _) (ex:=[]))<|wE (mC uW qL qR)<|wAS (k:=6) 8 jD gl [(jP (gw 0))] rfl uW qL by61<|wE (qA uX)<|wT (oSx gS)<|wZ) ?_
  refine jV (wk (l:=[(0,(.ref 0 0)),(1,(.clo 203 [2,3,4])),(2,(.clo 205 [2,3,4])),(3,(.clo 206 [3,4,2])),(8,(.ref 5 0)),(26,(jK n)),(27,(jK i))]) (b:=[(0,some [(jK n),(jK 1),(vi (-1)),(.own 1 95 10 ((List.map jN L).length)),(vb true)]),(1,some (qB jC (List.map jN L))),(2,some [(.refx 0 0 bb)]),(3,some (bx (jC (jN u)))),(4,some (bx (jC (jN v)))),(5,some (bx (jD (jP (gw 0)))++[(.own 8 61 8 ((gl++[(jP (gw 0))]).length)),(.own 7 86 1 0)])),(7,some (bm jX [])),(8,some (qB jD (gl++[(jP (gw 0))])))])) ?_
  refine jV (nP (S':=[(0,(.ref 0 0)),(1,(.clo 203 [2,3,4])),(2,(.clo 205 [2,3,4])),(3,(.clo 206 [3,4,2])),(8,(.ref 5 0)),(26,(jK n)),(27,(jK i))]) (B':=[(0,some [(jK n),(jK 1),(vi (-1)),(.own 1 95 10 ((List.map jN L).length)),(vb true)]),(1,some (qB jC (List.map jN L))),(2,some [(.refx 0 0 bb)]),(3,some (bx (jC (jN u)))),(4,some (bx (jC (jN v)))),(5,some (bx (jD (jP (gw 0)))++[(.own 6 61 8 ((gl++[(jP (gw 0))]).length)),(.own 7 86 1 0)])),(6,some (qB jD (gl++[(jP (gw 0))]))),(7,some (bm jX []))]) 6 8 5) ?_
  refine kx [(27,(jK (i+1)))] [] (zE (xE (i+1))<|zM<|zZ) ?_
  exact ⟨(i+1,gl++[jP (gw 0)]),wk,⟨by omega,eJ (G:=(fun (_:Nat)=>gw 0)) hg⟩,(by first|omega|(dsimp only;omega))⟩
 ·replace h1:=vM h1
  refine kL<|jB<|jB<|kx [(45,(vb false))] [] (zM<|zE mY<|zE (qA gO)<|zR (qX gI)<|zE (uR false gD)<|zZ) ?_
  refine kI ?_
  refine jF<|jV (xO (j:=5) (k:=6) (pre:=(bx (jD (jP (gw 0))))) (post:=[(.own 7 86 1 0)]) (es:=List.map jD gl) rfl (by decide) rfl (vD _ _ (fun _=>rfl)) (qY _ _ rfl) (xB jD gl (fun _=>rfl) rfl)) ?_
  refine jV (wk (l:=[(0,(.ref 0 0)),(1,(.clo 203 [2,3,4])),(2,(.clo 205 [2,3,4])),(3,(.clo 206 [3,4,2])),(8,(.ref 5 0)),(45,(vb false))]) (b:=[(0,some [(jK n),(jK 1),(vi (-1)),(.own 1 95 10 ((List.map jN L).length)),(vb true)]),(1,some (qB jC (List.map jN L))),(2,some [(.refx 0 0 bb)]),(3,some (bx (jC (jN u)))),(4,some (bx (jC (jN v)))),(5,some (bx (jD (jP (gw 0)))++[(vl 61 8 jD gl),(.own 7 86 1 0)])),(7,some (bm jX []))])) ?_
  refine jV (xO (j:=5) (k:=7) (pre:=(bx (jD (jP (gw 0)))++[(vl 61 8 jD gl)])) (post:=[]) (es:=List.map jX []) rfl (by decide) rfl (uI _ _ (fun _=>rfl)) (qY _ _ rfl) (uU _ _ (fun _=>rfl) rfl)) ?_
  refine jV (wk (l:=[(0,(.ref 0 0)),(1,(.clo 203 [2,3,4])),(2,(.clo 205 [2,3,4])),(3,(.clo 206 [3,4,2])),(8,(.ref 5 0)),(45,(vb false))]) (b:=[(0,some [(jK n),(jK 1),(vi (-1)),(.own 1 95 10 ((List.map jN L).length)),(vb true)]),(1,some (qB jC (List.map jN L))),(2,some [(.refx 0 0 bb)]),(3,some (bx (jC (jN u)))),(4,some (bx (jC (jN v)))),(5,some (bx (jC (qK.mk (jP (gw 0)) gl []))))])) ?_
  refine kd [] [(0,some [(jK n),(jK 1),(vi (-1)),(.own 9 95 10 (((List.map jN L)++[(qK.mk (jP (gw 0)) gl [])]).length)),(vb true)]),(9,some (qB jC ((List.map jN L)++[(qK.mk (jP (gw 0)) gl [])]))),(1,none)] mo (wM<|wM<|wE mY<|wE (qA vH)<|wR (qX yQ)<|wR (kP vP)<|wE (mC zG vL zL)<|wAS (k:=1) 9 jC (List.map jN L) [(qK.mk (jP (gw 0)) gl [])] rfl zG vL by95<|wE mY<|wE (qA vH)<|wT (oSx yQ)<|wZ) ?_
  have hJ:List.map jN (L++[jk (gw 0) (fun _=>gw 0) n])=List.map jN L++[qK.mk (jP (gw 0)) gl []]:=by rw[List.map_append,hg,show i=n by omega];rfl
  rw[hJ]
  refine ⟨xK (by kernel_rfl),zJ (by kernel_rfl),.inl ⟨_,.nil,?_⟩⟩
  rfl
theorem e_stepN0(x:qC)(bv:List R2)(hbx:∀ x∈bv,GL 1048576 x)(L:List JV)(hn:bv.length≤64)(hL:L.length≤1000)(hLk:∀ y∈L,nF 1048576 bv.length y)(hx:eV bv.length L x):StepAt bv L x:=by
 cases hx with
 |c hp=>exact yZ 12 18 (e_stepC _ hp (List.map jP bv) bv.length L hn hL) (hB12 _ _ _ (congrArg (L++[·]) (show _=_ from (by unfold nJ nV nG;rw[hH];rfl)))) rfl (by kernel_rfl)
 |v ha=>exact yZ 12 18 (e_stepV _ bv hbx bv.length L hn hL ha (by omega)) (hB12 _ _ _ (congrArg (L++[·]) (show _=_ from rfl))) rfl (by kernel_rfl)
 |add ha hb=>exact yZ 13 18 (e_stepA _ _ (List.map jP bv) bv.length L hn hL hLk ha hb) (hB13 _ _ _ (congrArg (L++[·]) (show _=_ from rfl))) rfl (by kernel_rfl)
 |sub ha hb=>exact yZ 13 18 (e_stepS _ _ (List.map jP bv) bv.length L hn hL hLk ha hb) (hB13 _ _ _ (congrArg (L++[·]) (show _=_ from rfl))) rfl (by kernel_rfl)
 |mul ha hb=>exact yZ 12 18 (e_stepM _ _ (List.map jP bv) bv.length L hn hL hLk ha hb) (hB12 _ _ _ (congrArg (L++[·]) (show _=_ from rfl))) rfl (by kernel_rfl)
 |div ha hb hz=>exact yZ 12 18 (e_stepD _ _ (List.map jP bv) bv.length L hn hL hLk ha hb hz) (hB12 _ _ _ (congrArg (L++[·]) (show _=_ from rfl))) rfl (by kernel_rfl)
 |neg ha=>exact yZ 17 18 (e_stepN _ (List.map jP bv) bv.length L hn hL hLk ha) (hB17 _ _ _ (congrArg (L++[·]) (show _=_ from rfl))) rfl (by kernel_rfl)
 |sq ha=>exact yZ 13 18 (e_stepQ _ (List.map jP bv) bv.length L hn hL hLk ha) (hB13 _ _ _ (congrArg (L++[·]) (show _=_ from rfl))) rfl (by kernel_rfl)
theorem run_p{bv:List R2}{t:List qC}(hbx:∀ x∈bv,GL 1048576 x)(ht:yI 1048576 t)(h:JRun bv t):JRunP bv t:=⟨h,fun k hk=>by
 have h0:=tm_0 h.c0
 have hl:=dH bv t k
 exact e_stepN0 _ bv hbx _ (by omega) (by omega) (h.upto (by omega)) (h.nd ht hk)⟩
end Go.Proofs.YtnajallgoaiahaaGreatDoor
namespace Go.Fid
theorem gs0(a:R2):kZ (gw 0) a=gneg a:=by
 unfold kZ gw gneg
 rw[show ((0:Int):Rat)=0 from rfl,Rat.sub_eq_add_neg,Rat.sub_eq_add_neg,Rat.zero_add,Rat.zero_add]
theorem ga0(a:R2):qU (gw 0) a=a:=by
 unfold qU gw
 rw[show ((0:Int):Rat)=0 from rfl,Rat.zero_add,Rat.zero_add]
def bV(s:Nat):Nat:=9*s-1
def bG(s:Nat):Nat:=19*(s*s)
def dD(v:R2)(g:Nat→R2)(s:Nat):Prop:=GL (bV s) v∧∀ i,GL (bG s) (g i)
def BdOk(ss:List Int)(L:List JV):Prop:=∀ j,j<L.length→∃ s:Nat,ss.getD j 0=(s:Int)∧1≤s∧dD (L.getD j jz).v (fun i=>(L.getD j jz).g.getD i z2) s
theorem gl_0:GL 3 (gw 0):=gl_w (z:=0) (by omega) (by omega)
theorem gl_1:GL 3 (gw 1):=gl_w (z:=1) (by omega) (by omega)
theorem gl_2:GL 3 (gw 2):=gl_w (z:=2) (by omega) (by omega)
theorem sq_sum(s r:Nat):(s+r)*(s+r)=s*s+r*r+2*(s*r):=by
 rw[Nat.add_mul,Nat.mul_add,Nat.mul_add,Nat.mul_comm r s];omega
theorem sr_le{s r:Nat}(hs:1≤s)(hr:1≤r):s+r≤2*(s*r):=by
 have h1:s*1≤s*r:=Nat.mul_le_mul (Nat.le_refl _) hr
 have h2:1*r≤s*r:=Nat.mul_le_mul hs (Nat.le_refl _)
 omega
theorem dD.pt{v:R2}{g:Nat→R2}(hv:GL 8 v)(hg:∀ i,GL 3 (g i)):dD v g 1:=⟨hv,fun i=>qI (hg i) (by decide)⟩
theorem dD.add{v w:R2}{g h:Nat→R2}{s r:Nat}(hs:1≤s)(hr:1≤r)(a:dD v g s)(b:dD w h r):dD (qU v w) (fun i=>qU (g i) (h i)) (s+r):=by
 have e:=sq_sum s r
 have e2:=sr_le hs hr
 exact ⟨gl_add a.1 b.1 (by unfold bV;omega),fun i=>gl_add (a.2 i) (b.2 i) (by unfold bG;omega)⟩
theorem dD.sub{v w:R2}{g h:Nat→R2}{s r:Nat}(hs:1≤s)(hr:1≤r)(a:dD v g s)(b:dD w h r):dD (kZ v w) (fun i=>kZ (g i) (h i)) (s+r):=by
 have e:=sq_sum s r
 have e2:=sr_le hs hr
 exact ⟨fJ a.1 b.1 (by unfold bV;omega),fun i=>fJ (a.2 i) (b.2 i) (by unfold bG;omega)⟩
theorem dD.mul{v w:R2}{g h:Nat→R2}{s r:Nat}(hs:1≤s)(hr:1≤r)(a:dD v g s)(b:dD w h r):dD (kO v w) (fun i=>qU (kO v (h i)) (kO w (g i))) (s+r):=by
 have e:=sq_sum s r
 have e2:=sr_le hs hr
 exact ⟨yX a.1 b.1 (by unfold bV;omega),fun i=>gl_add (yX a.1 (b.2 i) (Nat.le_refl _)) (yX b.1 (a.2 i) (Nat.le_refl _)) (by unfold bV bG;omega)⟩
theorem dD.div{v w:R2}{g h:Nat→R2}{s r:Nat}(hs:1≤s)(hr:1≤r)(a:dD v g s)(b:dD w h r):dD (uP v w) (fun i=>uP (kZ (g i) (kO (uP v w) (h i))) w) (s+r):=by
 have e:=sq_sum s r
 have e2:=sr_le hs hr
 have hq:GL (bV (s+r)) (uP v w):=gl_div a.1 b.1 (by unfold bV;omega)
 exact ⟨hq,fun i=>gl_div (fJ (a.2 i) (yX hq (b.2 i) (Nat.le_refl _)) (Nat.le_refl _)) b.1 (by unfold bV bG;omega)⟩
theorem dD.neg{v:R2}{g:Nat→R2}{s:Nat}(a:dD v g s):dD (kZ (gw 0) v) (fun i=>kZ (gw 0) (g i)) s :=
 ⟨by rw[gs0];exact gl_neg a.1,fun i=>by show GL _ (kZ (gw 0) (g i));rw[gs0];exact gl_neg (a.2 i)⟩
theorem dD.sq{v:R2}{g:Nat→R2}{s:Nat}(hs:1≤s)(a:dD v g s):dD (aJ v) (fun i=>kO (gw 2) (kO v (g i))) (2*s):=by
 have e:=sq_sum s s
 have e2:=sr_le hs hs
 rw[show 2*s=s+s by omega]
 exact ⟨gl_sq a.1 (by unfold bV;omega),fun i=>yX gl_2 (yX a.1 (a.2 i) (Nat.le_refl _)) (by unfold bV bG;omega)⟩
theorem nJ_get{bx:List R2}{L:List JV}{x:qC}{s:Nat}(h1:1≤s)(h:dD (nV bx L x) (nG bx L x) s):dD (nJ bx L x).v (fun i=>(nJ bx L x).g.getD i z2) s:=by
 refine ⟨h.1,fun i=>?_⟩
 have h2:s*1≤s*s:=Nat.mul_le_mul (Nat.le_refl _) h1
 show GL _ ((nJ bx L x).g.getD i z2)
 unfold nJ jk
 dsimp only
 rw[List.getD_eq_getElem?_getD,List.getElem?_map]
 rcases Nat.lt_or_ge i bx.length with h3 | h3
 ·rw[List.getElem?_range h3];exact h.2 i
 ·rw[List.getElem?_eq_none (by simpa using h3)]
  exact ⟨xW dK (by unfold bG;omega),xW dK (by unfold bG;omega),Rat.le_refl⟩
theorem bd_at{ss:List Int}{L:List JV}(h:BdOk ss L){a:Int}(h0:0≤a)(h1:a<L.length):∃ s:Nat,ss.getD a.toNat 0=(s:Int)∧1≤s∧dD (jA L a).v (fun i=>(jA L a).g.getD i z2) s:=h a.toNat (by omega)
theorem bd_node{z:Int}{ss:List Int}{L:List JV}{bx:List R2}{x:qC}(hk:ndC z ss x=0)(hl:ss.length=L.length)(hq:gX x.n (qN x.n) 8)(hb:∀ y∈bx,GL 8 y)(h:BdOk ss L) :
  ∃ s:Nat,szN ss x=(s:Int)∧1≤s∧dD (nV bx L x) (nG bx L x) s:=by
 obtain ⟨h1,h2,h3,_⟩:=nd_0 hk
 unfold eN at h1
 unfold bN at h2
 rcases fK x.op with ⟨e,f⟩ | ⟨e,f⟩ | ⟨e,f⟩ | ⟨e,f⟩
 ·refine ⟨1,by unfold szN;rw[if_pos e];rfl,Nat.le_refl _,?_⟩
  rcases f with f | f
  ·refine .pt ?_ fun i=>?_
   ·unfold nV;rw[if_pos f];exact gl_pt hq.ql
   ·unfold nG;rw[if_pos f];exact gl_0
  ·refine .pt ?_ fun i=>?_
   ·unfold nV;rw[if_neg (by omega),if_pos f];exact uT hb (by decide) _
   ·unfold nG;rw[if_neg (by omega),if_pos f];split
    ·exact gl_1
    ·exact gl_0
 ·obtain ⟨s,e1,e2,e3⟩:=bd_at h (a:=x.a) (by omega) (by omega)
  rcases f with f | f
  ·refine ⟨s,by unfold szN;rw[if_neg (by omega),if_pos f];exact e1,e2,?_⟩
   have e4:=e3.neg
   unfold nV nG;simp only[f];exact e4
  ·refine ⟨2*s,by unfold szN;rw[if_neg (by omega),if_neg (by omega),if_pos f,e1];omega,by omega,?_⟩
   have e4:=e3.sq e2
   unfold nV nG;simp only[f];exact e4
 ·obtain ⟨s,e1,e2,e3⟩:=bd_at h (a:=x.a) (by omega) (by omega)
  obtain ⟨r,g1,g2,g3⟩:=bd_at h (a:=x.b) (by omega) (by omega)
  refine ⟨s+r,by unfold szN;rw[if_neg (by omega),if_neg (by omega),if_neg (by omega),e1,g1];omega,by omega,?_⟩
  rcases f with f | f | f | f
  ·have e4:=e3.add e2 g2 g3
   unfold nV nG;simp only[f];exact e4
  ·have e4:=e3.sub e2 g2 g3
   unfold nV nG;simp only[f];exact e4
  ·have e4:=e3.mul e2 g2 g3
   unfold nV nG;simp only[f];exact e4
  ·have e4:=e3.div e2 g2 g3
   unfold nG;unfold nV;simp only[f];exact e4
 ·omega
theorem getD_snoc{α:Type}{l:List α}{x d:α}{j:Nat}:(l++[x]).getD j d=if j<l.length then l.getD j d else if j=l.length then x else d:=by
 rw[List.getD_eq_getElem?_getD,List.getD_eq_getElem?_getD]
 split
 ·rename_i h;rw[List.getElem?_append_left h]
 ·rename_i h
  rw[List.getElem?_append_right (by omega)]
  split
  ·rename_i e;subst e;rw[Nat.sub_self];rfl
  ·rename_i e;rw[List.getElem?_eq_none (by simp;omega)];rfl
structure cJ (bx:List R2) (t:List qC):Prop where
 c0:gQ ((bx.length:Nat):Int) t=0
 q:∀ x∈t,gX x.n (qN x.n) 8
 b:∀ y∈bx,GL 8 y
 s:∀ k,k<t.length→szN (mZ t k) (t.getD k tz)≤200
theorem xL{α:Type}{l:List α}{d:α}{k:Nat}(h:k<l.length):l.getD k d∈l:=by
 rw[List.getD_eq_getElem?_getD,List.getElem?_eq_getElem h];exact List.getElem_mem _
theorem cJ.bd{bx:List R2}{t:List qC}(h:cJ bx t):∀ {k:Nat},k≤t.length→BdOk (mZ t k) (jU bx t k)
 |0,_=>fun j hj=>by simp [jU] at hj
 |k+1,hk=>fun j hj=>by
  have ih:=h.bd (k:=k) (by omega)
  have l1:=nH t k
  have l2:=dH bx t k
  rw[dH] at hj
  have g1:(mZ t (k+1)).getD j 0=_:=getD_snoc
  have g2:(jU bx t (k+1)).getD j jz=_:=getD_snoc
  rcases Nat.lt_or_ge j k with hjk | hjk
  ·rw[if_pos (by omega)] at g1 g2
   rw[g1,g2];exact ih j (by omega)
  ·rw[if_neg (by omega),if_pos (by omega)] at g1 g2
   rw[g1,g2]
   obtain ⟨s,e1,e2,e3⟩:=bd_node ((tm_0 h.c0).2.2.2.2 k (by omega)) (l1.trans l2.symm) (h.q _ (xL (by omega))) h.b ih
   exact ⟨s,e1,e2,nJ_get e2 e3⟩
theorem bd_200{s:Nat}(h:s≤200):bV s≤1048576∧bG s≤1048576:=by
 have h2:s*s≤200*200:=Nat.mul_le_mul h h
 unfold bV bG;omega
theorem cJ.jok{bx:List R2}{t:List qC}(h:cJ bx t){k:Nat}(hk:k<t.length):nF 1048576 bx.length (nJ bx (jU bx t k) (t.getD k tz)):=by
 obtain ⟨s,e1,e2,e3⟩:=bd_node ((tm_0 h.c0).2.2.2.2 k hk) ((nH t k).trans (dH bx t k).symm) (h.q _ (xL hk)) h.b (h.bd (Nat.le_of_lt hk))
 have e4:=h.s k hk
 obtain ⟨e5,e6⟩:=bd_200 (s:=s) (by omega)
 exact jk_ok (qI e3.1 e5) fun i _=>qI (e3.2 i) e6
theorem cJ.upto{bx:List R2}{t:List qC}(h:cJ bx t):∀ {k},k≤t.length→∀ y∈jU bx t k,nF 1048576 bx.length y
 |0,_,y,hy=>by simp [jU] at hy
 |k+1,hk,y,hy=>by
  rw[jU,List.mem_append] at hy
  rcases hy with hy | hy
  ·exact h.upto (by omega) y hy
  ·rw[List.mem_singleton] at hy;subst hy
   exact h.jok (by omega)
def dzB(bx:List R2)(t:List qC)(k:Nat):Bool:=decide ((t.getD k tz).op=5)&&yS (jA (jU bx t k) (t.getD k tz).b).v.1 (jA (jU bx t k) (t.getD k tz).b).v.2
def dzT(bx:List R2)(t:List qC):Bool:=(List.range t.length).any (dzB bx t)
structure FstDz (bx:List R2) (t:List qC) (k:Nat):Prop where
 lt:k<t.length
 no:∀ j,j<k→dzB bx t j=false
 yes:dzB bx t k=true
theorem fst_any{p:Nat→Bool}:∀ {n:Nat},(List.range n).any p=true→∃ k,k<n∧(∀ j,j<k→p j=false)∧p k=true
 |0,h=>by simp at h
 |n+1,h=>by
  cases hn:(List.range n).any p with
  |true=>
   obtain ⟨k,h1,h2,h3⟩:=fst_any hn
   exact ⟨k,by omega,h2,h3⟩
  |false=>
   rw[List.range_succ,List.any_append,hn] at h
   refine ⟨n,by omega,fun j hj=>?_,by simpa using h⟩
   cases hp:p j with
   |false=>rfl
   |true=>rw[List.any_eq_true.2 ⟨j,List.mem_range.2 hj,hp⟩] at hn;cases hn
theorem dz_fst{bx:List R2}{t:List qC}(h:dzT bx t=true):∃ k,FstDz bx t k:=by
 obtain ⟨k,h1,h2,h3⟩:=fst_any h
 exact ⟨k,h1,h2,h3⟩
theorem dz_no{bx:List R2}{t:List qC}(h:dzT bx t=false){k:Nat}(hk:k<t.length):dzB bx t k=false:=by
 cases hp:dzB bx t k with
 |false=>rfl
 |true=>unfold dzT at h;rw[List.any_eq_true.2 ⟨k,List.mem_range.2 hk,hp⟩] at h;cases h
theorem dz_at{bx:List R2}{t:List qC}{k:Nat}(h:dzB bx t k=false)(ho:(t.getD k tz).op=5):yS (jA (jU bx t k) (t.getD k tz).b).v.1 (jA (jU bx t k) (t.getD k tz).b).v.2=false:=by
 unfold dzB at h;rw[decide_eq_true ho,Bool.true_and] at h;exact h
theorem cJ.run{bx:List R2}{t:List qC}(h:cJ bx t)(hd:dzT bx t=false):JRun bx t:=⟨h.c0,fun k hk=>h.jok hk,fun k hk ho=>dz_at (dz_no hd hk) ho⟩
theorem cJ.up{bx:List R2}{t:List qC}(h:cJ bx t):∀ x∈t,gX x.n (qN x.n) 1048576:=fun x hx=>jQ (h.q x hx) (by decide)
theorem cJ.nd{bx:List R2}{t:List qC}(h:cJ bx t){k:Nat}(hk:k<t.length)(hd:dzB bx t k=false):eV bx.length (jU bx t k) (t.getD k tz) :=
 nd_ok ((tm_0 h.c0).2.2.2.2 k hk) (nH t k) (h.up _ (xL hk)) (dz_at hd)
def DzOk(L:List JV)(x:qC):Prop:=∃ a b:Nat,x=⟨5,(a:Int),(b:Int),zr⟩∧a<L.length∧b<L.length∧yS (L.getD b jz).v.1 (L.getD b jz).v.2=true
theorem cJ.dz{bx:List R2}{t:List qC}(h:cJ bx t){k:Nat}(hk:k<t.length)(hd:dzB bx t k=true):DzOk (jU bx t k) (t.getD k tz):=by
 have hc:=(tm_0 h.c0).2.2.2.2 k hk
 obtain ⟨h1,h2,h3,_⟩:=nd_0 hc
 rw[nH] at h2
 have hl:=dH bx t k
 unfold dzB at hd
 rw[Bool.and_eq_true,decide_eq_true_eq] at hd
 generalize t.getD k tz=x at *
 generalize jU bx t k=L at *
 obtain ⟨op,a,b,n⟩:=x
 unfold eN at h1
 unfold bN at h2
 dsimp only at *
 obtain ⟨e,hz⟩:=hd
 subst e
 have e5:xP 5=2:=rfl
 rw[e5] at h2
 have hu:n=zr:=uns_eq (by
  cases hh:unsB n with
  |true=>rfl
  |false=>exact absurd (Or.inr (Or.inr (Or.inr ⟨by decide,hh⟩))) h1)
 obtain ⟨m,hm⟩:=nat_of (a:=a) (by omega)
 subst hm
 obtain ⟨l,hl'⟩:=nat_of (a:=b) (by omega)
 subst hl'
 subst hu
 refine ⟨m,l,rfl,by omega,by omega,?_⟩
 unfold jA at hz
 rwa [Int.toNat_natCast] at hz
theorem nd_mono{z w:Int}(hw:z≤w){ss:List Int}{x:qC}(h:ndC z ss x=0):ndC w ss x=0:=by
 obtain ⟨h1,h2,h3,h4⟩:=nd_0 h
 exact nd_y h1 h2 (fun h=>h3 (by unfold rngN at *;omega)) (by omega)
theorem tm_mono{z w:Int}(hw:z≤w)(h6:w≤64){t:List qC}(h:gQ z t=0):gQ w t=0:=by
 obtain ⟨h1,h2,h3,h4,h5⟩:=tm_0 h
 exact (tm_yes (by omega) h3 (by omega) fun i hi=>nd_mono hw (h5 i hi)).1
theorem szU_mem{t:List qC}:∀ {n k:Nat},k<n→szN (mZ t k) (t.getD k tz)∈mZ t n
 |0,k,h=>by omega
 |n+1,k,h=>by
  rw[mZ,List.mem_append]
  rcases Nat.lt_or_ge k n with h1 | h1
  ·exact .inl (szU_mem h1)
  ·obtain rfl:k=n:=by omega
   exact .inr (List.mem_singleton.2 rfl)
def dJ(bx:List R2)(t:List qC)(k:Nat):qK:=if k=t.length then jN (xJ bx t) else ⟨⟨zr,zr⟩,[],[]⟩
def dC(t:List qC)(k:Nat):Nat:=if k=t.length then 0 else 14
theorem dJ_y(bx:List R2)(t:List qC):dJ bx t t.length=jN (xJ bx t):=if_pos rfl
theorem dC_y(t:List qC):dC t t.length=0:=if_pos rfl
theorem dJ_n{bx:List R2}{t:List qC}{k:Nat}(h:k<t.length):dJ bx t k=⟨⟨zr,zr⟩,[],[]⟩:=if_neg (by omega)
theorem dC_n{t:List qC}{k:Nat}(h:k<t.length):dC t k=14:=if_neg (by omega)
def StOk(n:Nat)(L:List JV)(x:qC):Prop:=eV n L x∨DzOk L x
theorem StOk.kd{n:Nat}{L:List JV}{x:qC}(h:StOk n L x):xP x.op=0∨xP x.op=1∨xP x.op=2:=by
 rcases h with h | ⟨a,b,rfl,_⟩
 ·cases h<;>first | exact .inl rfl | exact .inr (.inl rfl) | exact .inr (.inr rfl)
 ·exact .inr (.inr rfl)
theorem StOk.a{n:Nat}{L:List JV}{x:qC}(h:StOk n L x)(h1:1≤xP x.op):0≤x.a∧x.a.toNat<L.length:=by
 rcases h with h | ⟨a,b,rfl,ha,_⟩
 ·cases h with
  |c hp=>exact absurd h1 (by show ¬ (1:Int)≤xP 0;decide)
  |v ha=>exact absurd h1 (by show ¬ (1:Int)≤xP 1;decide)
  |add ha hb=>exact ⟨by show 0≤((_:Nat):Int);omega,by show (((_:Nat):Int)).toNat<_;rwa [Int.toNat_natCast]⟩
  |sub ha hb=>exact ⟨by show 0≤((_:Nat):Int);omega,by show (((_:Nat):Int)).toNat<_;rwa [Int.toNat_natCast]⟩
  |mul ha hb=>exact ⟨by show 0≤((_:Nat):Int);omega,by show (((_:Nat):Int)).toNat<_;rwa [Int.toNat_natCast]⟩
  |div ha hb hz=>exact ⟨by show 0≤((_:Nat):Int);omega,by show (((_:Nat):Int)).toNat<_;rwa [Int.toNat_natCast]⟩
  |neg ha=>exact ⟨by show 0≤((_:Nat):Int);omega,by show (((_:Nat):Int)).toNat<_;rwa [Int.toNat_natCast]⟩
  |sq ha=>exact ⟨by show 0≤((_:Nat):Int);omega,by show (((_:Nat):Int)).toNat<_;rwa [Int.toNat_natCast]⟩
 ·exact ⟨by show 0≤((_:Nat):Int);omega,by show (((_:Nat):Int)).toNat<_;rwa [Int.toNat_natCast]⟩
theorem StOk.b{n:Nat}{L:List JV}{x:qC}(h:StOk n L x)(h2:xP x.op=2):0≤x.b∧x.b.toNat<L.length:=by
 rcases h with h | ⟨a,b,rfl,_,hb,_⟩
 ·cases h with
  |c hp=>exact absurd h2 (by show ¬ xP 0=2;decide)
  |v ha=>exact absurd h2 (by show ¬ xP 1=2;decide)
  |add ha hb=>exact ⟨by show 0≤((_:Nat):Int);omega,by show (((_:Nat):Int)).toNat<_;rwa [Int.toNat_natCast]⟩
  |sub ha hb=>exact ⟨by show 0≤((_:Nat):Int);omega,by show (((_:Nat):Int)).toNat<_;rwa [Int.toNat_natCast]⟩
  |mul ha hb=>exact ⟨by show 0≤((_:Nat):Int);omega,by show (((_:Nat):Int)).toNat<_;rwa [Int.toNat_natCast]⟩
  |div ha hb hz=>exact ⟨by show 0≤((_:Nat):Int);omega,by show (((_:Nat):Int)).toNat<_;rwa [Int.toNat_natCast]⟩
  |neg ha=>exact absurd h2 (by show ¬ xP 6=2;decide)
  |sq ha=>exact absurd h2 (by show ¬ xP 7=2;decide)
 ·exact ⟨by show 0≤((_:Nat):Int);omega,by show (((_:Nat):Int)).toNat<_;rwa [Int.toNat_natCast]⟩
theorem eV.op{n:Nat}{L:List JV}{x:qC}(h:eV n L x):x.op=0∨x.op=1∨x.op=2∨x.op=3∨x.op=4∨x.op=5∨x.op=6∨x.op=7:=by
 cases h<;>simp
theorem eV.con{n:Nat}{L:List JV}{x:qC}(h:eV n L x)(e:x.op=0):x.n=jM (qN x.n)∧QL (qN x.n) 1048576:=by
 cases h with
 |c hp=>exact ⟨by rw[hH],by rw[hH];exact hp⟩
 |_=>simp at e
theorem eV.var{n:Nat}{L:List JV}{x:qC}(h:eV n L x)(e:x.op=1):0≤x.a∧x.a.toNat<n:=by
 cases h with
 |v ha=>exact ⟨by show 0≤((_:Nat):Int);omega,by show (((_:Nat):Int)).toNat<_;rwa [Int.toNat_natCast]⟩
 |_=>simp at e
theorem eV.zf{n:Nat}{L:List JV}{x:qC}(h:eV n L x)(e:x.op=5):yS (jA L x.b).v.1 (jA L x.b).v.2=false:=by
 cases h with
 |div ha hb hz=>unfold jA;rw[Int.toNat_natCast];exact hz
 |_=>simp at e
theorem nV_0{bx:List R2}{L:List JV}{x:qC}(h:x.op=0):nV bx L x=xV (qN x.n):=by unfold nV;simp only[h];rfl
theorem nV_1{bx:List R2}{L:List JV}{x:qC}(h:x.op=1):nV bx L x=bx.getD x.a.toNat z2:=by unfold nV;simp only[h];rfl
theorem nV_2{bx:List R2}{L:List JV}{x:qC}(h:x.op=2):nV bx L x=qU (jA L x.a).v (jA L x.b).v:=by unfold nV;simp only[h];rfl
theorem nV_3{bx:List R2}{L:List JV}{x:qC}(h:x.op=3):nV bx L x=kZ (jA L x.a).v (jA L x.b).v:=by unfold nV;simp only[h];rfl
theorem nV_4{bx:List R2}{L:List JV}{x:qC}(h:x.op=4):nV bx L x=kO (jA L x.a).v (jA L x.b).v:=by unfold nV;simp only[h];rfl
theorem nV_5{bx:List R2}{L:List JV}{x:qC}(h:x.op=5):nV bx L x=uP (jA L x.a).v (jA L x.b).v:=by unfold nV;simp only[h];rfl
theorem nV_6{bx:List R2}{L:List JV}{x:qC}(h:x.op=6):nV bx L x=gneg (jA L x.a).v:=by rw[← gs0];unfold nV;simp only[h];rfl
theorem nV_7{bx:List R2}{L:List JV}{x:qC}(h:x.op=7):nV bx L x=aJ (jA L x.a).v:=by unfold nV;simp only[h];rfl
theorem nG_0{bx:List R2}{L:List JV}{x:qC}{i:Nat}(h:x.op=0):nG bx L x i=gw 0:=by unfold nG;simp only[h];rfl
theorem nG_1{bx:List R2}{L:List JV}{x:qC}{i:Nat}(h:x.op=1):nG bx L x i=if (i:Int)=x.a then gw 1 else gw 0:=by unfold nG;simp only[h];rfl
theorem nG_2{bx:List R2}{L:List JV}{x:qC}{i:Nat}(h:x.op=2):nG bx L x i=qU ((jA L x.a).g.getD i z2) ((jA L x.b).g.getD i z2):=by unfold nG;simp only[h];rfl
theorem nG_3{bx:List R2}{L:List JV}{x:qC}{i:Nat}(h:x.op=3):nG bx L x i=kZ ((jA L x.a).g.getD i z2) ((jA L x.b).g.getD i z2):=by unfold nG;simp only[h];rfl
theorem nG_4{bx:List R2}{L:List JV}{x:qC}{i:Nat}(h:x.op=4):nG bx L x i=qU (kO (jA L x.a).v ((jA L x.b).g.getD i z2)) (kO (jA L x.b).v ((jA L x.a).g.getD i z2)):=by unfold nG;simp only[h];rfl
theorem nG_5{bx:List R2}{L:List JV}{x:qC}{i:Nat}(h:x.op=5):nG bx L x i=uP (kZ ((jA L x.a).g.getD i z2) (kO (nV bx L x) ((jA L x.b).g.getD i z2))) (jA L x.b).v:=by unfold nG;simp only[h];rfl
theorem nG_6{bx:List R2}{L:List JV}{x:qC}{i:Nat}(h:x.op=6):nG bx L x i=gneg ((jA L x.a).g.getD i z2):=by rw[← gs0];unfold nG;simp only[h];rfl
theorem nG_7{bx:List R2}{L:List JV}{x:qC}{i:Nat}(h:x.op=7):nG bx L x i=kO (gw 2) (kO (jA L x.a).v ((jA L x.a).g.getD i z2)):=by unfold nG;simp only[h];rfl
theorem DzOk.kd{L:List JV}{x:qC}(h:DzOk L x):xP x.op=2:=by
 obtain ⟨a,b,rfl,_⟩:=h
 rfl
structure DEnd (bx:List R2) (t:List qC) (k0:Nat):Prop where
 c0:gQ ((bx.length:Nat):Int) t=0
 le:k0≤t.length
 nd:∀ j,j<k0→eV bx.length (jU bx t j) (t.getD j tz)
 ok:∀ j,j≤k0→∀ y∈jU bx t j,nF 1048576 bx.length y
 nv:∀ j,j<k0→nF 1048576 bx.length (nJ bx (jU bx t j) (t.getD j tz))
 dz:k0<t.length→DzOk (jU bx t k0) (t.getD k0 tz)
theorem DEnd.st{bx:List R2}{t:List qC}{k0 k:Nat}(h:DEnd bx t k0)(hk:k≤k0)(hl:k<t.length):StOk bx.length (jU bx t k) (t.getD k tz):=by
 rcases Nat.lt_or_ge k k0 with h1 | h1
 ·exact .inl (h.nd k h1)
 ·obtain rfl:k=k0:=by omega
  exact .inr (h.dz hl)
theorem DEnd.dzk{bx:List R2}{t:List qC}{k0 k:Nat}(h:DEnd bx t k0)(hk:k≤k0)(hl:k<t.length)(h1:¬ k<k0):DzOk (jU bx t k) (t.getD k tz):=by
 obtain rfl:k=k0:=by omega
 exact h.dz hl
theorem DEnd.last{bx:List R2}{t:List qC}(h:DEnd bx t t.length):nF 1048576 bx.length (xJ bx t):=by
 have h0:=tm_0 h.c0
 have hl:=dH bx t t.length
 refine h.ok t.length (Nat.le_refl _) _ ?_
 unfold xJ
 exact xL (by omega)
theorem cJ.dend{bx:List R2}{t:List qC}(h:cJ bx t)(hd:dzT bx t=false):DEnd bx t t.length :=
 ⟨h.c0,Nat.le_refl _,fun j hj=>h.nd hj (dz_no hd hj),fun j hj=>h.upto hj,fun j hj=>h.jok hj,fun h1=>absurd h1 (Nat.lt_irrefl _)⟩
theorem cJ.dfail{bx:List R2}{t:List qC}(h:cJ bx t){k:Nat}(hk:FstDz bx t k):DEnd bx t k :=
 have hl:=hk.lt
 ⟨h.c0,Nat.le_of_lt hl,fun j hj=>h.nd (by omega) (hk.no j hj),fun j hj=>h.upto (by omega),fun j hj=>h.jok (by omega),fun _=>h.dz hl hk.yes⟩
theorem jU_nx{bx:List R2}{t:List qC}{k i:Nat}{o:List qK}{gl:List jO}(ho:o=List.map jN (jU bx t k))(hg:gl=List.map jP (List.map (nG bx (jU bx t k) (t.getD k tz)) (List.range i)))(hi:i=bx.length) :
  o++[qK.mk (jP (nV bx (jU bx t k) (t.getD k tz))) gl []]=List.map jN (jU bx t (k+1)):=by
 subst hi
 rw[ho,hg,jU,List.map_append];rfl
theorem nG_gl{bx:List R2}{L:List JV}{x:qC}{N i:Nat}(h:nF N bx.length (nJ bx L x))(hi:i<bx.length):GL N (nG bx L x i) :=
 h.2.1 _ (List.mem_map.2 ⟨i,List.mem_range.2 hi,rfl⟩)
end Go.Fid
namespace Go.Proofs.YtnajallgoaiahaaGreatDoor
open Go.Fid
theorem ptr_ok{l:List kF}{n:Nat}(h:zU n l):∀ a∈List.map (fun x=>jO.mk x x) l,GOk n a:=fun a ha=>by
 obtain ⟨x,hx,rfl⟩:=List.mem_map.1 ha
 exact ⟨h.1 x hx,h.1 x hx⟩
theorem validG_pp(x:kF):vA ⟨x,x⟩=kW x:=by
 unfold vA
 rw[decide_eq_true Rat.le_refl,Bool.and_true,Bool.and_self]
theorem ptr_all(l:List kF):(List.map (fun x=>jO.mk x x) l).all vA=cQ l:=by
 unfold cQ
 induction l with
 |nil=>rfl
 |cons x l ih=>rw[List.map_cons,List.all_cons,List.all_cons,ih,validG_pp]
theorem ptr_bad{l:List kF}(h:cQ l=false):(List.map (fun x=>jO.mk x x) l).all vA=false:=by rw[ptr_all,h]
end Go.Proofs.YtnajallgoaiahaaGreatDoor
