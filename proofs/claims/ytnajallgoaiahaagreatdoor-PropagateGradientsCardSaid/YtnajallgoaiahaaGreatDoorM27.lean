/- Part 27 of a proof: rules, plain facts, and functions walked. -/
import Derived.Test.YtnajallgoaiahaaGreatDoorM26
set_option linter.unusedVariables false
set_option linter.unusedSimpArgs false
set_option maxRecDepth 4000
namespace Go.Proofs.YtnajallgoaiahaaGreatDoor
open Go.Fid
theorem cb203:callB Tryz.prog 203=true:=by kernel_rfl
theorem cb204:callB Tryz.prog 204=true:=by kernel_rfl
theorem cb205:callB Tryz.prog 205=true:=by kernel_rfl
theorem j_div(n:Nat)(x:jZ)(a:R2)(ha:GL 67108864 a)(b:R2)(hb:GL 67108864 b)(hz:yS b.1 b.2=false):jS Tryz.prog 204 [(.cptr 1000000 (jZ.cells (.agg [(.val (.int .i64 (((n:Nat):Int)))),(.val (.int .i64 (((1:Nat):Int)))),(.val (.int .i64 (-1))),(x),(.val (.bool (false)))])) 0),(jD (jP a)),(jD (jP b))] (jD (jP (uP a b))):=by
 refine jJ Tryz.func204 rfl cb204 rfl ?_
 show qM _ _ _ _ ⟨[(0,(.d (.cptr 1000000 (jZ.cells (.agg [(.val (.int .i64 (((n:Nat):Int)))),(.val (.int .i64 (((1:Nat):Int)))),(.val (.int .i64 (-1))),(x),(.val (.bool (false)))])) 0))),(1,(.d (jD (jP a)))),(2,(.d (jD (jP b))))],[]⟩
 refine jB<|kx [(4,(.ref 0 0)),(5,(.ref 1 0)),(6,(.ref 2 0))] [(0,some (bx (jD (jP a)))),(1,some (bx (jD (jP b)))),(2,some (bx (jD (jO.mk kR kR))))] (zN (uY 0)<|zN (uY 1)<|zN (qW 2 qL qR)<|zZ) ?_
 refine jB<|kx [(7,(.ref 3 0)),(8,(vi 0))] [(3,some (bx (jD (jO.mk (jM (yV (a.1 / b.1) [(a.1 / b.2),(a.2 / b.1),(a.2 / b.2)])) (jM (gJ (a.1 / b.1) [(a.1 / b.2),(a.2 / b.1),(a.2 / b.2)]))))))] (zR (kP jY)<|zR (kP jY)<|zE (kA (i_divide a.1 a.2 b.1 b.2 (qu ha.1) (qu ha.2.1) (qu hb.1) (qu hb.2.1) ha.2.2 hb.2.2 hz))<|zM<|zE vI<|zE vI<|zN (qW 3 qL qR)<|zT (qF jY)<|zM<|zZ) ?_
 refine jB<|jB<|kx [(16,(vb false))] [] (zM<|zE cR<|zZ) ?_
 refine kI ?_
 refine jF<|jB<|kx [] [(2,some (bx (jD (jO.mk (jM (yV (a.1 / b.1) [(a.1 / b.2),(a.2 / b.1),(a.2 / b.2)])) (jM (gJ (a.1 / b.1) [(a.1 / b.2),(a.2 / b.1),(a.2 / b.2)]))))))] (zR (kP jY)<|zT (qF jY)<|zZ) ?_
 refine jG ⟨_,(kJ (cs:=(bx (jD (jO.mk (jM (yV (a.1 / b.1) [(a.1 / b.2),(a.2 / b.1),(a.2 / b.2)])) (jM (gJ (a.1 / b.1) [(a.1 / b.2),(a.2 / b.1),(a.2 / b.2)])))))) (d:=(jD (jO.mk (jM (yV (a.1 / b.1) [(a.1 / b.2),(a.2 / b.1),(a.2 / b.2)])) (jM (gJ (a.1 / b.1) [(a.1 / b.2),(a.2 / b.1),(a.2 / b.2)]))))) rfl rfl jY rfl rfl .nil),?_⟩
 rfl
theorem j_vD(n:Nat)(x:jZ)(u:JV)(hu:nF 1048576 n u)(v:JV)(hv:nF 1048576 n v)(hz:yS v.v.1 v.v.2=false):jS Tryz.prog 203 [(.cptr 1000000 (jZ.cells (.cptr 1000000 (jZ.cells (.agg [(.val (.int .i64 (((n:Nat):Int)))),(.val (.int .i64 (((1:Nat):Int)))),(.val (.int .i64 (-1))),(x),(.val (.bool (false)))])) 0)) 0),(.cptr 1000000 (jZ.cells (jC (jN u))) 0),(.cptr 1000000 (jZ.cells (jC (jN v))) 0)] (jD (jP (uP u.v v.v))):=by
 refine jJ Tryz.func203 rfl cb203 rfl ?_
 show qM _ _ _ _ ⟨[(0,(.d (.cptr 1000000 (jZ.cells (.cptr 1000000 (jZ.cells (.agg [(.val (.int .i64 (((n:Nat):Int)))),(.val (.int .i64 (((1:Nat):Int)))),(.val (.int .i64 (-1))),(x),(.val (.bool (false)))])) 0)) 0))),(1,(.d (.cptr 1000000 (jZ.cells (jC (jN u))) 0))),(2,(.d (.cptr 1000000 (jZ.cells (jC (jN v))) 0)))],[]⟩
 refine jB<|kx [(3,(.ref 0 0))] [(0,some (bx (jD (jO.mk kR kR))))] (zN (qW 0 qL qR)<|zZ) ?_
 refine jB<|kx [] [(0,some (bx (jD (jP (uP u.v v.v)))))] (zE (nC mA)<|zE (oFc yC)<|zE (gN jY)<|zE (oFc yC)<|zE (gN jY)<|zE (kA (j_div n (x) u.v (qI hu.1 (by decide)) v.v (qI hv.1 (by decide)) hz))<|zT (qF jY)<|zZ) ?_
 refine jG ⟨_,(kJ (cs:=(bx (jD (jP (uP u.v v.v))))) (d:=(jD (jP (uP u.v v.v)))) rfl rfl jY rfl rfl .nil),?_⟩
 rfl
theorem j_gD(w:R2)(hw:GL 2097152 w)(y z:jZ)(i:Nat)(n:Nat)(x:jZ)(u:JV)(hu:nF 1048576 n u)(v:JV)(hv:nF 1048576 n v)(hz:yS v.v.1 v.v.2=false)(hi:i<n):jS Tryz.prog 205 [(.cptr 1000000 (jZ.cells (.agg (jZ.cells (jD (jP w))++[(y),(z)]))) 0),(.val (.int .i64 (((i:Nat):Int)))),(.cptr 1000000 (jZ.cells (.cptr 1000000 (jZ.cells (.agg [(.val (.int .i64 (((n:Nat):Int)))),(.val (.int .i64 (((1:Nat):Int)))),(.val (.int .i64 (-1))),(x),(.val (.bool (false)))])) 0)) 0),(.cptr 1000000 (jZ.cells (jC (jN u))) 0),(.cptr 1000000 (jZ.cells (jC (jN v))) 0)] (jD (jP (uP (kZ (u.g.getD i z2) (kO w (v.g.getD i z2))) v.v))):=by
 have hul:=hu.2.2
 have hvl:=hv.2.2
 refine jJ Tryz.func205 rfl cb205 rfl ?_
 show qM _ _ _ _ ⟨[(0,(.d (.cptr 1000000 (jZ.cells (.agg (jZ.cells (jD (jP w))++[(y),(z)]))) 0))),(1,(jK i)),(2,(.d (.cptr 1000000 (jZ.cells (.cptr 1000000 (jZ.cells (.agg [(.val (.int .i64 (((n:Nat):Int)))),(.val (.int .i64 (((1:Nat):Int)))),(.val (.int .i64 (-1))),(x),(.val (.bool (false)))])) 0)) 0))),(3,(.d (.cptr 1000000 (jZ.cells (jC (jN u))) 0))),(4,(.d (.cptr 1000000 (jZ.cells (jC (jN v))) 0)))],[]⟩
 refine jB<|kx [(7,(.ref 0 0))] [(0,some (bx (jD (jO.mk kR kR))))] (zN (qW 0 qL qR)<|zZ) ?_
 refine jB<|kd [] [(0,some (bx (jD (jP (uP (kZ (u.g.getD i z2) (kO w (v.g.getD i z2))) v.v)))))] mo (wE (nC mA)<|wE (oFc uX)<|wE (nC gS)<|wM<|wE (oXm uW jP i z2)<|wE (gN jY)<|wM<|wE oNd<|wE (oFc yC)<|wE (gN jY)<|wE (oFc uX)<|wE (nC gS)<|wM<|wE (oXm uW jP i z2)<|wE (gN jY)<|wE (kA (j_mul w (qI hw (by decide)) (v.g.getD i z2) (qI (uT hv.2.1 (by decide) i) (by decide))))<|wE (kA (j_sub (u.g.getD i z2) (qI (uT hu.2.1 (by decide) i) (by decide)) (kO w (v.g.getD i z2)) (qI (yX (k:=3145728) hw (uT hv.2.1 (by decide) i) (by decide)) (by decide))))<|wE (oFc yC)<|wE (gN jY)<|wE (kA (j_div n (x) (kZ (u.g.getD i z2) (kO w (v.g.getD i z2))) (qI (fJ (k:=4194305) (uT hu.2.1 (by decide) i) (yX (k:=3145728) hw (uT hv.2.1 (by decide) i) (by decide)) (by decide)) (by decide)) v.v (qI hv.1 (by decide)) hz))<|wT (qF jY)<|wZ) ?_
 refine jG ⟨_,(kJ (cs:=(bx (jD (jP (uP (kZ (u.g.getD i z2) (kO w (v.g.getD i z2))) v.v))))) (d:=(jD (jP (uP (kZ (u.g.getD i z2) (kO w (v.g.getD i z2))) v.v)))) rfl rfl jY rfl rfl .nil),?_⟩
 rfl
theorem e_nodeD(n:Nat)(L:List JV)(bb:Nat)(u:JV)(hu:nF 1048576 n u)(v:JV)(hv:nF 1048576 n v)(hn:n≤64)(hL:L.length≤1000)(hz:yS v.v.1 v.v.2=false):vS Tryz.prog 184 [(.ref 0 0),(.clo 203 [2,3,4]),(.clo 205 [2,3,4]),(.clo 206 [3,4,2])] [(0,some [(jK n),(jK 1),(vi (-1)),(.own 1 95 10 ((List.map jN L).length)),(vb false)]),(1,some (qB jC (List.map jN L))),(2,some [(.refx 0 0 bb)]),(3,some (bx (jC (jN u)))),(4,some (bx (jC (jN v))))] (.d (.tup [])) [(0,some [(jK n),(jK 1),(vi (-1)),(.own 9 95 10 ((List.map jN (L++[(jk (uP u.v v.v) (fun i=>(uP (kZ (u.g.getD i z2) (kO (uP u.v v.v) (v.g.getD i z2))) v.v)) n)])).length)),(vb false)]),(9,some (qB jC (List.map jN (L++[(jk (uP u.v v.v) (fun i=>(uP (kZ (u.g.getD i z2) (kO (uP u.v v.v) (v.g.getD i z2))) v.v)) n)]))))]:=by
 refine vG Tryz.func184 rfl cb184 rfl ?_
 show qM _ _ _ _ ⟨[(0,(.ref 0 0)),(1,(.clo 203 [2,3,4])),(2,(.clo 205 [2,3,4])),(3,(.clo 206 [3,4,2]))],[(0,some [(jK n),(jK 1),(vi (-1)),(.own 1 95 10 ((List.map jN L).length)),(vb false)]),(1,some (qB jC (List.map jN L))),(2,some [(.refx 0 0 bb)]),(3,some (bx (jC (jN u)))),(4,some (bx (jC (jN v))))]⟩
 refine jB<|kx [(8,(.ref 5 0))] [(5,some (bx (.agg (jZ.cells (jD (jP (uP u.v v.v)))++[(.val (.slice none 0 0)),(.val (.slice none 0 0))]))))] (zM<|zM<|zC (oCh [(4,(bx (jC (jN v))),(jZ.cells (jC (jN v)))),(3,(bx (jC (jN u))),(jZ.cells (jC (jN u)))),(2,[(.refx 0 0 bb)],[(.cptr 1000000 (jZ.cells (.agg [(.val (.int .i64 (((n:Nat):Int)))),(.val (.int .i64 (((1:Nat):Int)))),(.val (.int .i64 (-1))),(.sl 1000000 10 (List.map jC (List.map jN L))),(.val (.bool (false)))])) 0)]),(0,[(jK n),(jK 1),(vi (-1)),(.own 1 95 10 ((List.map jN L).length)),(vb false)],(jZ.cells (.agg [(.val (.int .i64 (((n:Nat):Int)))),(.val (.int .i64 (((1:Nat):Int)))),(.val (.int .i64 (-1))),(.sl 1000000 10 (List.map jC (List.map jN L))),(.val (.bool (false)))]))),(1,(qB jC (List.map jN L)),(qJ (List.map jC (List.map jN L))))] [.ref 2 0,.ref 3 0,.ref 4 0] (j_vD n (.sl 1000000 10 (List.map jC (List.map jN L))) u hu v hv hz) (.cons (.r (.tail _ (.tail _ (.head _)))) (.cons (.r (.tail _ (.head _))) (.cons (.r (.head _)) .nil))) (.cons (.all rfl) (.cons (.all rfl) (.cons (.cons (.x (.head _)) .nil) (.cons (.cons .d (.cons .d (.cons .d (.cons (uV (F:=jC) (L:=(List.map jN L)) (.head _) (fun _=>rfl) rfl) (.cons .d .nil))))) (.cons (.all (by exact rfl)) .nil))))) (uK (by decide) _) (ex:=[.ref 2 0,.ref 3 0,.ref 4 0]) (hy:=.clo (kk:=[2,3,4]) (by kernel_rfl) (by kernel_rfl)))<|zC (oCh [(0,[(jK n),(jK 1),(vi (-1)),(.own 1 95 10 ((List.map jN L).length)),(vb false)],(jZ.cells (.agg [(.val (.int .i64 (((n:Nat):Int)))),(.val (.int .i64 (((1:Nat):Int)))),(.val (.int .i64 (-1))),(.sl 1000000 10 (List.map jC (List.map jN L))),(.val (.bool (false)))]))),(1,(qB jC (List.map jN L)),(qJ (List.map jC (List.map jN L))))] [(.ref 0 0),(.d (jD (jP (uP u.v v.v))))] (nK n (.sl 1000000 10 (List.map jC (List.map jN L))) (uP u.v v.v) (qI (gl_div (k:=2097152) hu.1 hv.1 (by decide)) (by decide))) (.cons (.r (.head _)) (.cons .d .nil)) (.cons (.cons .d (.cons .d (.cons .d (.cons (uV (F:=jC) (L:=(List.map jN L)) (.head _) (fun _=>rfl) rfl) (.cons .d .nil))))) (.cons (.all (by exact rfl)) .nil)) (uK (by decide) _) (ex:=[]))<|zE (cS pl95 vL zn95)<|zH (qW 5 vL zL)<|zT (qF vP)<|zZ) ?_
 refine jB<|jB<|kx [(22,(vb true))] [] (zM<|zE mY<|zE (qA gO)<|zR (qX gI)<|zE (uR true gD)<|zZ) ?_
 refine uD ?_
 refine jB<|yG 5 8 6 61 8 (cs:=(bx (.agg (jZ.cells (jD (jP (uP u.v v.v)))++[(.val (.slice none 0 0)),(.val (.slice none 0 0))])))) (h:=?_)
 refine jV (wk (l:=[(0,(.ref 0 0)),(1,(.clo 203 [2,3,4])),(2,(.clo 205 [2,3,4])),(3,(.clo 206 [3,4,2])),(8,(.ref 5 0)),(22,(vb true))]) (b:=[(0,some [(jK n),(jK 1),(vi (-1)),(.own 1 95 10 ((List.map jN L).length)),(vb false)]),(1,some (qB jC (List.map jN L))),(2,some [(.refx 0 0 bb)]),(3,some (bx (jC (jN u)))),(4,some (bx (jC (jN v)))),(5,some (bx (jD (jP (uP u.v v.v)))++[(.own 6 61 8 0),(.d (.val (.slice none 0 0)))])),(6,some (qB jD []))])) ?_
 refine yG 5 9 7 86 1 (cs:=(bx (jD (jP (uP u.v v.v)))++[(.own 6 61 8 0),(.d (.val (.slice none 0 0)))])) (h:=?_)
 refine jV (wk (l:=[(0,(.ref 0 0)),(1,(.clo 203 [2,3,4])),(2,(.clo 205 [2,3,4])),(3,(.clo 206 [3,4,2])),(8,(.ref 5 0)),(22,(vb true))]) (b:=[(0,some [(jK n),(jK 1),(vi (-1)),(.own 1 95 10 ((List.map jN L).length)),(vb false)]),(1,some (qB jC (List.map jN L))),(2,some [(.refx 0 0 bb)]),(3,some (bx (jC (jN u)))),(4,some (bx (jC (jN v)))),(5,some (bx (jD (jP (uP u.v v.v)))++[(.own 6 61 8 0),(.own 7 86 1 0)])),(6,some (qB jD [])),(7,some (bm jX []))])) ?_
 refine kx [(26,(jK n)),(27,(jK 0))] [] (zM<|zE mY<|zE (qA eX)<|zR (qX gI)<|zM<|zZ) ?_
 refine jI<|kM (α:=Nat × List jO) (fun (i,gl)=>⟨[(0,(.ref 0 0)),(1,(.clo 203 [2,3,4])),(2,(.clo 205 [2,3,4])),(3,(.clo 206 [3,4,2])),(8,(.ref 5 0)),(26,(jK n)),(27,(jK i))],[(0,some [(jK n),(jK 1),(vi (-1)),(.own 1 95 10 ((List.map jN L).length)),(vb false)]),(1,some (qB jC (List.map jN L))),(2,some [(.refx 0 0 bb)]),(3,some (bx (jC (jN u)))),(4,some (bx (jC (jN v)))),(5,some (bx (jD (jP (uP u.v v.v)))++[(.own 6 61 8 gl.length),(.own 7 86 1 0)])),(6,some (qB jD gl)),(7,some (bm jX []))]⟩) (fun (i,gl)=>i≤n∧gl=List.map jP (List.map (fun (i:Nat)=>(uP (kZ (u.g.getD i z2) (kO (uP u.v v.v) (v.g.getD i z2))) v.v)) (List.range i))) (fun (i,gl)=>n-i) (0,[]) wk ⟨Nat.zero_le _,rfl⟩ ?_
 rintro ⟨i,gl⟩ ⟨hi,hg⟩
 have hgl:gl.length=i:=aO (G:=(fun (i:Nat)=>(uP (kZ (u.g.getD i z2) (kO (uP u.v v.v) (v.g.getD i z2))) v.v))) hg
 refine jB<|kx [(28,(vb (decide (((i:Nat):Int)<((n:Nat):Int)))))] [] (zE xY<|zZ) ?_
 refine jB<|jH rfl (fun h1=>?_) (fun h1=>?_)
 ·replace h1:=vJ h1
  refine jF<|jB<|jI<|jB<|kx [(9,(jK i))] [] (zM<|zM<|zZ) ?_
  refine kd [] [(5,some (bx (jD (jP (uP u.v v.v)))++[(.own 8 61 8 ((gl++[(jP (uP (kZ (u.g.getD i z2) (kO (uP u.v v.v) (v.g.getD i z2))) v.v))]).length)),(.own 7 86 1 0)])),(8,some (qB jD (gl++[(jP (uP (kZ (u.g.getD i z2) (kO (uP u.v v.v) (v.g.getD i z2))) v.v))]))),(6,none)] mo (wE (qA uX)<|wR (qX gS)<|wM<|wM<|wM<|wC (oCh [(4,(bx (jC (jN v))),(jZ.cells (jC (jN v)))),(3,(bx (jC (jN u))),(jZ.cells (jC (jN u)))),(2,[(.refx 0 0 bb)],[(.cptr 1000000 (jZ.cells (.agg [(.val (.int .i64 (((n:Nat):Int)))),(.val (.int .i64 (((1:Nat):Int)))),(.val (.int .i64 (-1))),(.sl 1000000 10 (List.map jC (List.map jN L))),(.val (.bool (false)))])) 0)]),(0,[(jK n),(jK 1),(vi (-1)),(.own 1 95 10 ((List.map jN L).length)),(vb false)],(jZ.cells (.agg [(.val (.int .i64 (((n:Nat):Int)))),(.val (.int .i64 (((1:Nat):Int)))),(.val (.int .i64 (-1))),(.sl 1000000 10 (List.map jC (List.map jN L))),(.val (.bool (false)))]))),(1,(qB jC (List.map jN L)),(qJ (List.map jC (List.map jN L)))),(5,(bx (jD (jP (uP u.v v.v)))++[(.own 6 61 8 gl.length),(.own 7 86 1 0)]),(jZ.cells (.agg (jZ.cells (jD (jP (uP u.v v.v)))++[(.sl 1000000 8 (List.map jD gl)),(.sl 1000000 1 (List.map jX []))])))),(7,(bm jX []),(qJ (List.map jX []))),(6,(qB jD gl),(qJ (List.map jD gl)))] [(.ref 5 0),(jK i),.ref 2 0,.ref 3 0,.ref 4 0] (j_gD (uP u.v v.v) (gl_div (k:=2097152) hu.1 hv.1 (by decide)) (.sl 1000000 8 (List.map jD gl)) (.sl 1000000 1 (List.map jX [])) i n (.sl 1000000 10 (List.map jC (List.map jN L))) u hu v hv hz (by omega)) (.cons (.r (.tail _ (.tail _ (.tail _ (.tail _ (.tail _ (.head _))))))) (.cons .d (.cons (.r (.tail _ (.tail _ (.head _)))) (.cons (.r (.tail _ (.head _))) (.cons (.r (.head _)) .nil))))) (.cons (.all rfl) (.cons (.all rfl) (.cons (.cons (.x (.head _)) .nil) (.cons (.cons .d (.cons .d (.cons .d (.cons (uV (F:=jC) (L:=(List.map jN L)) (.head _) (fun _=>rfl) rfl) (.cons .d .nil))))) (.cons (.all (by exact rfl)) (.cons (.cons .d (.cons .d (.cons .d (.cons .d (.cons .d (.cons .d (.cons .d (.cons .d (.cons (uV (F:=jD) (L:=gl) (.tail _ (.head _)) (fun _=>rfl) rfl) (.cons (uV (F:=jX) (L:=[]) (.head _) (fun _=>rfl) rfl) .nil)))))))))) (.cons (aC (fun _=>rfl)) (.cons (.all (by exact rfl)) .nil)))))))) (uK (by decide) _) (ex:=[.ref 2 0,.ref 3 0,.ref 4 0]) (hy:=.clo (kk:=[2,3,4]) (by kernel_rfl) (by kernel_rfl)))<|wC (oCh [(0,[(jK n),(jK 1),(vi (-1)),(.own 1 95 10 ((List.map jN L).length)),(vb false)],(jZ.cells (.agg [(.val (.int .i64 (((n:Nat):Int)))),(.val (.int .i64 (((1:Nat):Int)))),(.val (.int .i64 (-1))),(.sl 1000000 10 (List.map jC (List.map jN L))),(.val (.bool (false)))]))),(1,(qB jC (List.map jN L)),(qJ (List.map jC (List.map jN L))))] [(.ref 0 0),(.d (jD (jP (uP (kZ (u.g.getD i z2) (kO (uP u.v v.v) (v.g.getD i z2))) v.v))))] (nK n (.sl 1000000 10 (List.map jC (List.map jN L))) (uP (kZ (u.g.getD i z2) (kO (uP u.v v.v) (v.g.getD i z2))) v.v) (qI (gl_div (k:=5242881) (fJ (k:=4194305) (uT hu.2.1 (by decide) i) (yX (k:=3145728) (gl_div (k:=2097152) hu.1 hv.1 (by decide)) (uT hv.2.1 (by decide) i) (by decide)) (by decide)) hv.1 (by decide)) (by decide))) (.cons (.r (.head _)) (.cons .d .nil)) (.cons (.cons .d (.cons .d (.cons .d (.cons (uV (F:=jC) (L:=(List.map jN L)) (.head _) (fun _=>rfl) rfl) (.cons .d .nil))))) (.cons (.all (by exact rfl)) .nil)) (uK (by decide) _) (ex:=[]))<|wE (mC uW qL qR)<|wAS (k:=6) 8 jD gl [(jP (uP (kZ (u.g.getD i z2) (kO (uP u.v v.v) (v.g.getD i z2))) v.v))] rfl uW qL by61<|wE (qA uX)<|wT (oSx gS)<|wZ) ?_
  refine jV (wk (l:=[(0,(.ref 0 0)),(1,(.clo 203 [2,3,4])),(2,(.clo 205 [2,3,4])),(3,(.clo 206 [3,4,2])),(8,(.ref 5 0)),(26,(jK n)),(27,(jK i))]) (b:=[(0,some [(jK n),(jK 1),(vi (-1)),(.own 1 95 10 ((List.map jN L).length)),(vb false)]),(1,some (qB jC (List.map jN L))),(2,some [(.refx 0 0 bb)]),(3,some (bx (jC (jN u)))),(4,some (bx (jC (jN v)))),(5,some (bx (jD (jP (uP u.v v.v)))++[(.own 8 61 8 ((gl++[(jP (uP (kZ (u.g.getD i z2) (kO (uP u.v v.v) (v.g.getD i z2))) v.v))]).length)),(.own 7 86 1 0)])),(7,some (bm jX [])),(8,some (qB jD (gl++[(jP (uP (kZ (u.g.getD i z2) (kO (uP u.v v.v) (v.g.getD i z2))) v.v))])))])) ?_
  refine jV (nP (S':=[(0,(.ref 0 0)),(1,(.clo 203 [2,3,4])),(2,(.clo 205 [2,3,4])),(3,(.clo 206 [3,4,2])),(8,(.ref 5 0)),(26,(jK n)),(27,(jK i))]) (B':=[(0,some [(jK n),(jK 1),(vi (-1)),(.own 1 95 10 ((List.map jN L).length)),(vb false)]),(1,some (qB jC (List.map jN L))),(2,some [(.refx 0 0 bb)]),(3,some (bx (jC (jN u)))),(4,some (bx (jC (jN v)))),(5,some (bx (jD (jP (uP u.v v.v)))++[(.own 6 61 8 ((gl++[(jP (uP (kZ (u.g.getD i z2) (kO (uP u.v v.v) (v.g.getD i z2))) v.v))]).length)),(.own 7 86 1 0)])),(6,some (qB jD (gl++[(jP (uP (kZ (u.g.getD i z2) (kO (uP u.v v.v) (v.g.getD i z2))) v.v))]))),(7,some (bm jX []))]) 6 8 5) ?_
  refine kx [(27,(jK (i+1)))] [] (zE (xE (i+1))<|zM<|zZ) ?_
  exact ⟨(i+1,gl++[jP (uP (kZ (u.g.getD i z2) (kO (uP u.v v.v) (v.g.getD i z2))) v.v)]),wk,⟨by omega,eJ (G:=(fun (i:Nat)=>(uP (kZ (u.g.getD i z2) (kO (uP u.v v.v) (v.g.getD i z2))) v.v))) hg⟩,(by first|omega|(dsimp only;omega))⟩
 ·replace h1:=vM h1
  refine kL<|jB<|jB<|kx [(45,(vb false))] [] (zM<|zE mY<|zE (qA gO)<|zR (qX gI)<|zE (uR false gD)<|zZ) ?_
  refine kI ?_
  refine jF<|jV (xO (j:=5) (k:=6) (pre:=(bx (jD (jP (uP u.v v.v))))) (post:=[(.own 7 86 1 0)]) (es:=List.map jD gl) rfl (by decide) rfl (vD _ _ (fun _=>rfl)) (qY _ _ rfl) (xB jD gl (fun _=>rfl) rfl)) ?_
  refine jV (wk (l:=[(0,(.ref 0 0)),(1,(.clo 203 [2,3,4])),(2,(.clo 205 [2,3,4])),(3,(.clo 206 [3,4,2])),(8,(.ref 5 0)),(45,(vb false))]) (b:=[(0,some [(jK n),(jK 1),(vi (-1)),(.own 1 95 10 ((List.map jN L).length)),(vb false)]),(1,some (qB jC (List.map jN L))),(2,some [(.refx 0 0 bb)]),(3,some (bx (jC (jN u)))),(4,some (bx (jC (jN v)))),(5,some (bx (jD (jP (uP u.v v.v)))++[(vl 61 8 jD gl),(.own 7 86 1 0)])),(7,some (bm jX []))])) ?_
  refine jV (xO (j:=5) (k:=7) (pre:=(bx (jD (jP (uP u.v v.v)))++[(vl 61 8 jD gl)])) (post:=[]) (es:=List.map jX []) rfl (by decide) rfl (uI _ _ (fun _=>rfl)) (qY _ _ rfl) (uU _ _ (fun _=>rfl) rfl)) ?_
  refine jV (wk (l:=[(0,(.ref 0 0)),(1,(.clo 203 [2,3,4])),(2,(.clo 205 [2,3,4])),(3,(.clo 206 [3,4,2])),(8,(.ref 5 0)),(45,(vb false))]) (b:=[(0,some [(jK n),(jK 1),(vi (-1)),(.own 1 95 10 ((List.map jN L).length)),(vb false)]),(1,some (qB jC (List.map jN L))),(2,some [(.refx 0 0 bb)]),(3,some (bx (jC (jN u)))),(4,some (bx (jC (jN v)))),(5,some (bx (jC (qK.mk (jP (uP u.v v.v)) gl []))))])) ?_
  refine kd [] [(0,some [(jK n),(jK 1),(vi (-1)),(.own 9 95 10 (((List.map jN L)++[(qK.mk (jP (uP u.v v.v)) gl [])]).length)),(vb false)]),(9,some (qB jC ((List.map jN L)++[(qK.mk (jP (uP u.v v.v)) gl [])]))),(1,none)] mo (wM<|wM<|wE mY<|wE (qA vH)<|wR (qX yQ)<|wR (kP vP)<|wE (mC zG vL zL)<|wAS (k:=1) 9 jC (List.map jN L) [(qK.mk (jP (uP u.v v.v)) gl [])] rfl zG vL by95<|wE mY<|wE (qA vH)<|wT (oSx yQ)<|wZ) ?_
  have hJ:List.map jN (L++[(jk (uP u.v v.v) (fun i=>(uP (kZ (u.g.getD i z2) (kO (uP u.v v.v) (v.g.getD i z2))) v.v)) n)])=List.map jN L++[qK.mk (jP (uP u.v v.v)) gl []]:=by rw[List.map_append,hg,show i=n by omega];rfl
  rw[hJ]
  refine ⟨xK (by kernel_rfl),zJ (by kernel_rfl),.inl ⟨_,.nil,?_⟩⟩
  rfl
theorem e_stepD(a:Nat)(b:Nat)(bv:List jO)(n:Nat)(L:List JV)(hn:n≤64)(hL:L.length≤1000)(hLk:∀ x∈L,nF 1048576 n x)(ha:a<L.length)(hb:b<L.length)(hz:yS (L.getD b jz).v.1 (L.getD b jz).v.2=false):vS Tryz.prog 126 [(.ref 0 0),(.d (kG (qC.mk 5 ((a:Nat):Int) ((b:Nat):Int) kR))),(vl 61 8 jD bv)] [(0,some [(jK n),(jK 1),(vi (-1)),(.own 1 95 10 ((List.map jN L).length)),(vb false)]),(1,some (qB jC (List.map jN L)))] (.d (.tup [])) [(0,some [(jK n),(jK 1),(vi (-1)),(.own 12 95 10 ((List.map jN (L++[(jk (uP ((L.getD a jz).v) ((L.getD b jz).v)) (fun i=>(uP (kZ (((L.getD a jz).g).getD i z2) (kO (uP ((L.getD a jz).v) ((L.getD b jz).v)) (((L.getD b jz).g).getD i z2))) ((L.getD b jz).v))) n)])).length)),(vb false)]),(12,some (qB jC (List.map jN (L++[(jk (uP ((L.getD a jz).v) ((L.getD b jz).v)) (fun i=>(uP (kZ (((L.getD a jz).g).getD i z2) (kO (uP ((L.getD a jz).v) ((L.getD b jz).v)) (((L.getD b jz).g).getD i z2))) ((L.getD b jz).v))) n)]))))]:=by
 have hu:nF 1048576 n (L.getD a jz):=dA hLk ha
 have hv:nF 1048576 n (L.getD b jz):=dA hLk hb
 let y2:=(kG (qC.mk 5 ((a:Nat):Int) ((b:Nat):Int) kR))
 let y1:=(jO.mk kR kR)
 refine vG Tryz.func126 rfl cb126 rfl ?_
 show qM _ _ _ _ ⟨[(0,(.ref 0 0)),(1,(.d y2)),(2,(vl 61 8 jD bv))],[(0,some [(jK n),(jK 1),(vi (-1)),(.own 1 95 10 ((List.map jN L).length)),(vb false)]),(1,some (qB jC (List.map jN L)))]⟩
 refine jB<|kx [(3,(.ref 2 0)),(4,(.ref 3 0)),(5,(.ref 4 0))] [(2,some [(.ref 0 0)]),(3,some (bx y2)),(4,some (bx (.sl 61 8 (List.map jD bv))))] (zH (oBy 2)<|zH (uY 3)<|zH (uY 4)<|zZ) ?_
 refine jB<|pwp_fix 2 (k:=0) (o:=0) (h:=fun b0=>?_)
 refine jV (wk (l:=[(0,(.ref 0 0)),(3,(.ref 2 0)),(4,(.ref 3 0)),(5,(.ref 4 0))]) (b:=[(0,some [(jK n),(jK 1),(vi (-1)),(.own 1 95 10 ((List.map jN L).length)),(vb false)]),(1,some (qB jC (List.map jN L))),(2,some [(.refx 0 0 b0)]),(3,some (bx y2)),(4,some (bx (.sl 61 8 (List.map jD bv))))])) ?_
 refine kx [(6,(.ref 5 0))] [(5,some (bx (jD (jP (gw 0)))))] (zE (kA (cF ((0:Nat):Int) (by omega) (by omega)))<|zH (qW 5 qL qR)<|zT (qF jY)<|zZ) ?_
 refine jB<|kx [(7,(.clo 181 [5]))] [] (zE (fS [5])<|zM<|zZ) ?_
 refine jB<|kx [(8,(.ref 6 0)),(9,(.ref 7 0))] [(6,some (bx (jC (qK.mk y1 [] [])))),(7,some (bx (jC (qK.mk y1 [] []))))] (zH (qW 6 vL zL)<|zH (qW 7 vL zL)<|zZ) ?_
 refine jB<|kx [(10,(jK 2))] [] (zE (qA vK)<|zR (qX nQ)<|zE (oQd (.val (.int .i64 ((xP 5)))) (.val (.int .i64 (((2:Nat):Int)))) (kA (aS 5)) (by exact rfl))<|zM<|zZ) ?_
 refine jB<|jB<|kx [(19,(vb true))] [] (zM<|zE (uR true gD)<|zZ) ?_
 refine uD ?_
 refine kd [] [(6,some (bx (jC (jN (L.getD a jz)))))] mo (wR (oLx mA)<|wE mY<|wE (qA vH)<|wR (qX yQ)<|wE (qA yD)<|wR (qX gI)<|wE (oXO zG a (hj:=by first | omega | rfl | (simp only[List.length_map];omega) | (dsimp only;omega)) (h1:=by first | omega | rfl | (simp only[List.length_map];omega) | (dsimp only;omega)))<|wR (aT (jC ((List.map jN L).getD a (qK.mk y1 [] []))) (jC (jN (L.getD a jz))) (oLA vP a (qK.mk y1 [] []) (h1:=by first | omega | rfl | (simp only[List.length_map];omega) | (dsimp only;omega))) (by exact (congrArg jC (gY jN L jz _ (by omega)))))<|wT (qF vP)<|wZ) ?_
 refine jB<|jB<|kx [(29,(vb true))] [] (zM<|zE (uR true gD)<|zZ) ?_
 refine uD ?_
 refine kd [] [(7,some (bx (jC (jN (L.getD b jz)))))] mo (wR (oLx mA)<|wE mY<|wE (qA vH)<|wR (qX yQ)<|wE (qA nM)<|wR (qX gI)<|wE (oXO zG b (hj:=by first | omega | rfl | (simp only[List.length_map];omega) | (dsimp only;omega)) (h1:=by first | omega | rfl | (simp only[List.length_map];omega) | (dsimp only;omega)))<|wR (aT (jC ((List.map jN L).getD b (qK.mk y1 [] []))) (jC (jN (L.getD b jz))) (oLA vP b (qK.mk y1 [] []) (h1:=by first | omega | rfl | (simp only[List.length_map];omega) | (dsimp only;omega))) (by exact (congrArg jC (gY jN L jz _ (by omega)))))<|wT (qF vP)<|wZ) ?_
 refine jB<|kx [(11,(.clo 183 [2,6,7]))] [] (zE (fS [2,6,7])<|zM<|zZ) ?_
 refine jB<|kx [(40,(vi 5))] [] (zE (qA vK)<|zR (qX nQ)<|zZ) ?_
 refine jI<|jB<|kx [(46,(vb false))] [] (zE (uR false xR)<|zM<|zZ) ?_
 refine kI ?_
 refine jB<|kx [(53,(vb false))] [] (zE (uR false xR)<|zM<|zZ) ?_
 refine kI ?_
 refine jB<|kx [(60,(vb false))] [] (zE (uR false xR)<|zM<|zZ) ?_
 refine kI ?_
 refine jB<|kx [(64,(vb false))] [] (zE (uR false xR)<|zM<|zZ) ?_
 refine kI ?_
 refine jB<|jV (wk (l:=[(0,(.ref 0 0)),(3,(.ref 2 0)),(6,(.ref 5 0)),(8,(.ref 6 0)),(9,(.ref 7 0)),(11,(.clo 183 [2,6,7])),(40,(vi 5)),(64,(vb false))]) (b:=[(0,some [(jK n),(jK 1),(vi (-1)),(.own 1 95 10 ((List.map jN L).length)),(vb false)]),(1,some (qB jC (List.map jN L))),(2,some [(.refx 0 0 b0)]),(5,some (bx (jD (jP (gw 0))))),(6,some (bx (jC (jN (L.getD a jz))))),(7,some (bx (jC (jN (L.getD b jz)))))])) ?_
 refine kx [(68,(vb false))] [] (zE (uR false xR)<|zM<|zZ) ?_
 refine kI ?_
 refine jB<|kx [(74,(vb false))] [] (zE (uR false xR)<|zM<|zZ) ?_
 refine kI ?_
 refine jB<|kx [(81,(vb false))] [] (zE (uR false xR)<|zM<|zZ) ?_
 refine kI ?_
 refine kf [] [(0,some [(jK n),(jK 1),(vi (-1)),(.own 12 95 10 ((List.map jN (L++[(jk (uP ((L.getD a jz).v) ((L.getD b jz).v)) (fun i=>(uP (kZ (((L.getD a jz).g).getD i z2) (kO (uP ((L.getD a jz).v) ((L.getD b jz).v)) (((L.getD b jz).g).getD i z2))) ((L.getD b jz).v))) n)])).length)),(vb false)]),(12,some (qB jC (List.map jN (L++[(jk (uP ((L.getD a jz).v) ((L.getD b jz).v)) (fun i=>(uP (kZ (((L.getD a jz).g).getD i z2) (kO (uP ((L.getD a jz).v) ((L.getD b jz).v)) (((L.getD b jz).g).getD i z2))) ((L.getD b jz).v))) n)])))),(1,none),(10,none),(11,none),(2,none),(6,none),(7,none),(8,none),(9,none)] (zR (oLx mA)<|zE (fS [2,6,7])<|zE (fS [2,6,7])<|zE (fS [6,7,2])<|zS (B2:=[(0,some [(jK n),(jK 1),(vi (-1)),(.own 1 95 10 ((List.map jN L).length)),(vb false)]),(1,some (qB jC (List.map jN L))),(2,some [(.refx 0 0 b0)]),(6,some (bx (jC (jN (L.getD a jz))))),(7,some (bx (jC (jN (L.getD b jz)))))]) (B2':=[(0,some [(jK n),(jK 1),(vi (-1)),(.own 12 95 10 ((List.map jN (L++[(jk (uP ((L.getD a jz).v) ((L.getD b jz).v)) (fun i=>(uP (kZ (((L.getD a jz).g).getD i z2) (kO (uP ((L.getD a jz).v) ((L.getD b jz).v)) (((L.getD b jz).g).getD i z2))) ((L.getD b jz).v))) n)])).length)),(vb false)]),(12,some (qB jC (List.map jN (L++[(jk (uP ((L.getD a jz).v) ((L.getD b jz).v)) (fun i=>(uP (kZ (((L.getD a jz).g).getD i z2) (kO (uP ((L.getD a jz).v) ((L.getD b jz).v)) (((L.getD b jz).g).getD i z2))) ((L.getD b jz).v))) n)]))))]) (M:=1000000) [0,1,2,6,7,8,9,10,11,12] [0,2,6,7] (e_nodeD n L b0 (L.getD a jz) hu (L.getD b jz) hv hn hL hz) (.cons (by exact rfl) (by kernel_rfl) (.cons (by exact rfl) (qH _ _) (.cons (by exact rfl) (by kernel_rfl) (.cons (by exact rfl) (qH _ _) (.cons (by exact rfl) (qH _ _) .nil))))) (.cons (by exact rfl) (by kernel_rfl) (.cons (by exact rfl) (qH _ _) .nil)) (by repeat first | exact .nil | refine .hid rfl ?_ | refine .map rfl ?_ | refine .dat rfl ?_ | refine .none rfl ?_ | refine .cells rfl rfl ?_)<|zF) ?_
 refine ⟨xK (by kernel_rfl),zJ (by kernel_rfl),.inl ⟨_,.nil,?_⟩⟩
 rfl
theorem by3:gM Tryz.prog 3=some 8:=by kernel_rfl
theorem cb130:callB Tryz.prog 130=true:=by kernel_rfl
theorem bD:xC Tryz.prog 23=some (83,7):=by kernel_rfl
theorem yU:xC Tryz.prog 102=some (3,1):=by kernel_rfl
theorem bL:uF Tryz.prog 83=some (true,7):=by kernel_rfl
theorem ze83:yM Tryz.prog 83=some [.int .i64 0,.int .i64 0,.int .i64 0,.bool false,.slice none 0 0,.bool false,.slice none 0 0]:=by kernel_rfl
theorem zo83:aR [.int .i64 0,.int .i64 0,.int .i64 0,.bool false,.slice none 0 0,.bool false,.slice none 0 0] [.val (.int .i64 0),.val (.int .i64 0),.val (.int .i64 0),.val (.bool false),.sl 140 1 [],.val (.bool false),.sl 140 1 []]:=by simp [aR,Value.oneCell']
theorem j_sizes(t:List qC)(ht:yI 1048576 t)(z:Int):jS Tryz.prog 130 [(.sl 83 7 (List.map kG t)),(.val (.int .i64 (z)))] (.tup [(.sl 3 1 (List.map qE (tmL z t))),(.val (.int .i64 ((((gQ z t):Nat):Int))))]):=by
 refine jJ Tryz.func130 rfl cb130 rfl ?_
 show qM _ _ _ _ ⟨[(0,(vl 83 7 kG t)),(1,(vi z))],[]⟩
 refine jB<|kx [] [] (zE (cP 3 1)<|zM<|zZ) ?_
 refine jB<|jB<|kx [(15,(vb (decide (z<0)||decide (64<z))))] [] ?_ ?_
 ·refine zM<|zE xY<|zE (oV (vb (decide (z<0))) (qQ (by kernel_rfl)))<|?_
  rcases hb1:(decide (z<0)) with _ | _
  ·replace hb1:=vM hb1
   exact zM<|zE gD<|zE fU<|zZ
  ·replace hb1:=vJ hb1
   exact zK<|zK<|zE nY<|zZ
 refine jH (b:=(decide (z<0)||decide (64<z))) rfl (fun h2=>?_) (fun h2=>?_)
 ·refine jB<|kx [(4,(vl 3 1 qE [])),(5,(jK 2))] [] (zE (cP 3 1)<|zM<|zZ) ?_
  refine jG ⟨_,(.tmp (d:=(.sl 3 1 (List.map qE []))) rfl (.tmp (d:=(.val (.int .i64 (2)))) rfl .nil)),?_⟩
  have he:=zb_t (t:=t) h2
  rw[he.1,he.2];rfl
 ·have hz0:=h2
  refine jF<|jB<|jB<|kx [(18,(vb (((t.length:Nat):Int) == 0)))] [] (zM<|zE (zD bD)<|zE xR<|zZ) ?_
  refine jH (b:=(((t.length:Nat):Int) == 0)) rfl (fun h3=>?_) (fun h3=>?_)
  ·replace h3:=eq_of_beq h3
   refine jB<|kx [(4,(vl 3 1 qE [])),(5,(jK 1))] [] (zE (cP 3 1)<|zM<|zZ) ?_
   refine jG ⟨_,(.tmp (d:=(.sl 3 1 (List.map qE []))) rfl (.tmp (d:=(.val (.int .i64 (1)))) rfl .nil)),?_⟩
   have he:=tm_l0 hz0 (show t.length=0 by omega)
   rw[he.1,he.2];rfl
  ·replace h3:=ne_of_beq_false h3
   have h0:=h3
   refine jF<|jB<|jB<|kx [(21,(vb (decide (400<((t.length:Nat):Int)))))] [] (zM<|zE (zD bD)<|zE gD<|zZ) ?_
   refine jH (b:=decide (400<((t.length:Nat):Int))) rfl (fun h4=>?_) (fun h4=>?_)
   ·replace h4:=vJ h4
    refine jB<|kx [(4,(vl 3 1 qE [])),(5,(jK 3))] [] (zE (cP 3 1)<|zM<|zZ) ?_
    refine jG ⟨_,(.tmp (d:=(.sl 3 1 (List.map qE []))) rfl (.tmp (d:=(.val (.int .i64 (3)))) rfl .nil)),?_⟩
    have he:=tm_lb hz0 (show 400<t.length by omega)
    rw[he.1,he.2];rfl
   ·replace h4:=vM h4
    have h400:=h4
    refine jF<|jB<|kx [(6,(.own 0 3 1 t.length))] [(0,some (bm qE (List.replicate t.length 0)))] (zM<|zE (zD bD)<|zN (oMk 0 qE (0:Int) t.length t.length yU ze3 zo3 by3)<|zM<|zZ) ?_
    refine jB<|jB<|kx [(25,(vl 83 7 kG t)),(26,(jK t.length)),(27,(jK 0))] [] (zM<|zE (zD bD)<|zM<|zZ) ?_
    refine jI<|kM (α:=Nat × List Int) (fun (k,o)=>⟨[(1,(vi z)),(6,(.own 0 3 1 t.length)),(25,(vl 83 7 kG t)),(26,(jK t.length)),(27,(jK k))],[(0,some (bm qE o))]⟩) (fun (k,o)=>k≤t.length∧szI t k o∧szUp z t k) (fun (k,o)=>t.length-k) (0,List.replicate t.length 0) wk ⟨Nat.zero_le _,szI_0,szUp_0 _ _⟩ ?_
    rintro ⟨k,o⟩ ⟨hk,ho,hu⟩
    have uO:=ho.1
    refine jB<|kx [(28,(vb (decide (((k:Nat):Int)<((t.length:Nat):Int)))))] [] (zE xY<|zZ) ?_
    refine jB<|jH rfl (fun h5=>?_) (fun h5=>?_)
    ·replace h5:=vJ h5
     have hR:=tmr hz0 h5 h400 hu
     have hkl:=hR.kl
     refine jF<|jB<|jI<|jB<|kx [(7,(jK k)),(8,(.ref 1 0))] [(1,some (bx (kG (t.getD k tz))))] (zM<|zE (nE bD k (tz:qC))<|zE (gN bL)<|zH (qW 1 ze83 zo83)<|zM<|zT (qF bL)<|zZ) ?_
     refine jB<|kx [(9,(vi (xP ((t.getD k tz).op))))] [] (zE (qA vK)<|zR (qX nQ)<|zE (kA (aS ((t.getD k tz).op)))<|zM<|zZ) ?_
     refine jB<|jB<|kx [(72,(vb (((decide ((xP ((t.getD k tz).op))<0)||(decide ((xP ((t.getD k tz).op))<2)&&((t.getD k tz).b != 0)))||(((t.getD k tz).op == 0)&&(((t.getD k tz).a != 0)||!(kW ((t.getD k tz).n)))))||(((t.getD k tz).op != 0)&&!(unsB ((t.getD k tz).n))))))] [] ?_ ?_
     ·refine zM<|zE xY<|zE (oV (vb (decide ((xP ((t.getD k tz).op))<0))) (qQ (by kernel_rfl)))<|?_
      rcases hb6:(decide ((xP ((t.getD k tz).op))<0)) with _ | _
      ·replace hb6:=vM hb6
       refine zM<|zE xY<|zE (oV (vb (decide ((xP ((t.getD k tz).op))<2))) (qQ (by kernel_rfl)))<|?_
       rcases hb7:(decide ((xP ((t.getD k tz).op))<2)) with _ | _
       ·replace hb7:=vM hb7
        refine zK<|zK<|zK<|zE gE<|zE gE<|zM<|zE (qA vK)<|zR (qX nQ)<|zE xR<|zE (oV (vb ((t.getD k tz).op == 0)) (qQ (by kernel_rfl)))<|?_
        rcases hb8:((t.getD k tz).op == 0) with _ | _
        ·replace hb8:=ne_of_beq_false hb8
         refine zK<|zK<|zK<|zK<|zK<|zK<|zK<|zK<|zK<|zE gE<|zE gE<|zM<|zE (qA vK)<|zR (qX nQ)<|zE cR<|zE (oV (vb ((t.getD k tz).op != 0)) (qQ (by kernel_rfl)))<|?_
         rcases hb9:((t.getD k tz).op != 0) with _ | _
         ·replace hb9:=bne_eq_false_iff_eq.1 hb9
          exact zK<|zK<|zK<|zK<|zE gE<|zE gE<|zZ
         ·replace hb9:=bne_iff_ne.1 hb9
          exact zE (qA dP)<|zR (kP jW)<|zE (kA (j_unset ((t.getD k tz).n) (qN (t.getD k tz).n) (tn_get ht (show k<t.length by omega))))<|zE mT<|zE fA<|zE fU<|zZ
        ·replace hb8:=eq_of_beq hb8
         refine zE (qA yD)<|zR (qX gI)<|zE cR<|zE (oV (vb ((t.getD k tz).a != 0)) (qQ (by kernel_rfl)))<|?_
         rcases hb10:((t.getD k tz).a != 0) with _ | _
         ·replace hb10:=bne_eq_false_iff_eq.1 hb10
          refine zE (qA dP)<|zR (kP jW)<|zE (kA (cE ((t.getD k tz).n) (qN (t.getD k tz).n) (jQ (tn_get ht (show k<t.length by omega)) (by decide))))<|zE mT<|zE fU<|zE fA<|zE fU<|zE (oV (vb (false||(true&&(false||!(kW ((t.getD k tz).n)))))) (qQ (by kernel_rfl)))<|?_
          rcases hb11:(!(kW ((t.getD k tz).n))) with _ | _
          ·refine zE (qA vK)<|zR (qX nQ)<|zE cR<|zE (oV (vb ((t.getD k tz).op != 0)) (qQ (by kernel_rfl)))<|?_
           rcases hb12:((t.getD k tz).op != 0) with _ | _
           ·replace hb12:=bne_eq_false_iff_eq.1 hb12
            exact zK<|zK<|zK<|zK<|zE gE<|zE gE<|zZ
           ·replace hb12:=bne_iff_ne.1 hb12
            exact zE (qA dP)<|zR (kP jW)<|zE (kA (j_unset ((t.getD k tz).n) (qN (t.getD k tz).n) (tn_get ht (show k<t.length by omega))))<|zE mT<|zE fA<|zE fU<|zZ
          ·exact zK<|zK<|zK<|zK<|zK<|zK<|zK<|zK<|zK<|zE nY<|zZ
         ·replace hb10:=bne_iff_ne.1 hb10
          exact zK<|zK<|zK<|zK<|zE nY<|zE nY<|zE gE<|zM<|zK<|zK<|zK<|zK<|zK<|zK<|zK<|zK<|zK<|zE nY<|zZ
       ·replace hb7:=vJ hb7
        refine zE (qA nM)<|zR (qX gI)<|zE cR<|zE fA<|zE fU<|zE (oV (vb (false||(true&&((t.getD k tz).b != 0)))) (qQ (by kernel_rfl)))<|?_
        rcases hb13:((t.getD k tz).b != 0) with _ | _
        ·replace hb13:=bne_eq_false_iff_eq.1 hb13
         refine zE (qA vK)<|zR (qX nQ)<|zE xR<|zE (oV (vb ((t.getD k tz).op == 0)) (qQ (by kernel_rfl)))<|?_
         rcases hb14:((t.getD k tz).op == 0) with _ | _
         ·replace hb14:=ne_of_beq_false hb14
          refine zK<|zK<|zK<|zK<|zK<|zK<|zK<|zK<|zK<|zE gE<|zE gE<|zM<|zE (qA vK)<|zR (qX nQ)<|zE cR<|zE (oV (vb ((t.getD k tz).op != 0)) (qQ (by kernel_rfl)))<|?_
          rcases hb15:((t.getD k tz).op != 0) with _ | _
          ·replace hb15:=bne_eq_false_iff_eq.1 hb15
           exact zK<|zK<|zK<|zK<|zE gE<|zE gE<|zZ
          ·replace hb15:=bne_iff_ne.1 hb15
           exact zE (qA dP)<|zR (kP jW)<|zE (kA (j_unset ((t.getD k tz).n) (qN (t.getD k tz).n) (tn_get ht (show k<t.length by omega))))<|zE mT<|zE fA<|zE fU<|zZ
         ·replace hb14:=eq_of_beq hb14
          refine zE (qA yD)<|zR (qX gI)<|zE cR<|zE (oV (vb ((t.getD k tz).a != 0)) (qQ (by kernel_rfl)))<|?_
          rcases hb16:((t.getD k tz).a != 0) with _ | _
          ·replace hb16:=bne_eq_false_iff_eq.1 hb16
           refine zE (qA dP)<|zR (kP jW)<|zE (kA (cE ((t.getD k tz).n) (qN (t.getD k tz).n) (jQ (tn_get ht (show k<t.length by omega)) (by decide))))<|zE mT<|zE fU<|zE fA<|zE fU<|zE (oV (vb (false||(true&&(false||!(kW ((t.getD k tz).n)))))) (qQ (by kernel_rfl)))<|?_
           rcases hb17:(!(kW ((t.getD k tz).n))) with _ | _
           ·refine zE (qA vK)<|zR (qX nQ)<|zE cR<|zE (oV (vb ((t.getD k tz).op != 0)) (qQ (by kernel_rfl)))<|?_
            rcases hb18:((t.getD k tz).op != 0) with _ | _
            ·replace hb18:=bne_eq_false_iff_eq.1 hb18
             exact zK<|zK<|zK<|zK<|zE gE<|zE gE<|zZ
            ·replace hb18:=bne_iff_ne.1 hb18
             exact zE (qA dP)<|zR (kP jW)<|zE (kA (j_unset ((t.getD k tz).n) (qN (t.getD k tz).n) (tn_get ht (show k<t.length by omega))))<|zE mT<|zE fA<|zE fU<|zZ
           ·exact zK<|zK<|zK<|zK<|zK<|zK<|zK<|zK<|zK<|zE nY<|zZ
          ·replace hb16:=bne_iff_ne.1 hb16
           exact zK<|zK<|zK<|zK<|zE nY<|zE nY<|zE gE<|zM<|zK<|zK<|zK<|zK<|zK<|zK<|zK<|zK<|zK<|zE nY<|zZ
        ·replace hb13:=bne_iff_ne.1 hb13
         exact zK<|zK<|zK<|zK<|zK<|zK<|zK<|zK<|zK<|zK<|zK<|zK<|zK<|zK<|zE nY<|zM<|zK<|zK<|zK<|zK<|zK<|zK<|zK<|zK<|zK<|zE nY<|zZ
      ·replace hb6:=vJ hb6
       exact zK<|zK<|zK<|zK<|zK<|zK<|zK<|zE nY<|zM<|zK<|zK<|zK<|zK<|zK<|zK<|zK<|zK<|zK<|zK<|zK<|zK<|zK<|zK<|zE nY<|zM<|zK<|zK<|zK<|zK<|zK<|zK<|zK<|zK<|zK<|zE nY<|zZ
     refine jH rfl (fun h19=>?_) (fun h19=>?_)
     ·refine jB<|kx [(4,(vl 3 1 qE [])),(5,(jK 1))] [] (zE (cP 3 1)<|zM<|zZ) ?_
      refine jG ⟨_,(.tmp (d:=(.sl 3 1 (List.map qE []))) rfl (.tmp (d:=(.val (.int .i64 (1)))) rfl .nil)),?_⟩
      have he:=hR.bad h19
      rw[he.1,he.2];rfl
     ·have hB:=h19
      refine jF<|jB<|jB<|kx [(100,(vb ((decide (0<(xP ((t.getD k tz).op)))&&(decide ((t.getD k tz).a<0)||decide (((k:Nat):Int)≤(t.getD k tz).a)))||(decide (1<(xP ((t.getD k tz).op)))&&(decide ((t.getD k tz).b<0)||decide (((k:Nat):Int)≤(t.getD k tz).b))))))] [] ?_ ?_
      ·refine zM<|zE gD<|zE (oV (vb (decide (0<(xP ((t.getD k tz).op))))) (qQ (by kernel_rfl)))<|?_
       rcases hb20:(decide (0<(xP ((t.getD k tz).op)))) with _ | _
       ·replace hb20:=vM hb20
        refine zK<|zK<|zK<|zK<|zK<|zK<|zK<|zK<|zK<|zE gE<|zM<|zM<|zE gD<|zE (oV (vb (decide (1<(xP ((t.getD k tz).op))))) (qQ (by kernel_rfl)))<|?_
        rcases hb21:(decide (1<(xP ((t.getD k tz).op)))) with _ | _
        ·replace hb21:=vM hb21
         exact zK<|zK<|zK<|zK<|zK<|zK<|zK<|zK<|zK<|zE gE<|zE gE<|zZ
        ·replace hb21:=vJ hb21
         refine zE (qA nM)<|zR (qX gI)<|zE xY<|zE (oV (vb (decide ((t.getD k tz).b<0))) (qQ (by kernel_rfl)))<|?_
         rcases hb22:(decide ((t.getD k tz).b<0)) with _ | _
         ·replace hb22:=vM hb22
          exact zE (qA nM)<|zR (qX gI)<|zM<|zE oGe<|zE fU<|zE fA<|zE fU<|zZ
         ·replace hb22:=vJ hb22
          exact zK<|zK<|zK<|zK<|zE nY<|zE nY<|zE gE<|zZ
       ·replace hb20:=vJ hb20
        refine zE (qA yD)<|zR (qX gI)<|zE xY<|zE (oV (vb (decide ((t.getD k tz).a<0))) (qQ (by kernel_rfl)))<|?_
        rcases hb23:(decide ((t.getD k tz).a<0)) with _ | _
        ·replace hb23:=vM hb23
         refine zE (qA yD)<|zR (qX gI)<|zM<|zE oGe<|zE fU<|zE fA<|zE (oV (vb (true&&(false||decide (((k:Nat):Int)≤(t.getD k tz).a)))) (qQ (by kernel_rfl)))<|?_
         rcases hb24:(decide (((k:Nat):Int)≤(t.getD k tz).a)) with _ | _
         ·replace hb24:=vM hb24
          refine zM<|zE gD<|zE (oV (vb (decide (1<(xP ((t.getD k tz).op))))) (qQ (by kernel_rfl)))<|?_
          rcases hb25:(decide (1<(xP ((t.getD k tz).op)))) with _ | _
          ·replace hb25:=vM hb25
           exact zK<|zK<|zK<|zK<|zK<|zK<|zK<|zK<|zK<|zE gE<|zE gE<|zZ
          ·replace hb25:=vJ hb25
           refine zE (qA nM)<|zR (qX gI)<|zE xY<|zE (oV (vb (decide ((t.getD k tz).b<0))) (qQ (by kernel_rfl)))<|?_
           rcases hb26:(decide ((t.getD k tz).b<0)) with _ | _
           ·replace hb26:=vM hb26
            exact zE (qA nM)<|zR (qX gI)<|zM<|zE oGe<|zE fU<|zE fA<|zE fU<|zZ
           ·replace hb26:=vJ hb26
            exact zK<|zK<|zK<|zK<|zE nY<|zE nY<|zE gE<|zZ
         ·replace hb24:=vJ hb24
          exact zK<|zK<|zK<|zK<|zK<|zK<|zK<|zK<|zK<|zK<|zK<|zK<|zK<|zE nY<|zZ
        ·replace hb23:=vJ hb23
         exact zK<|zK<|zK<|zK<|zE nY<|zE nY<|zM<|zK<|zK<|zK<|zK<|zK<|zK<|zK<|zK<|zK<|zK<|zK<|zK<|zK<|zE nY<|zZ
      refine jH rfl (fun h27=>?_) (fun h27=>?_)
      ·refine jB<|kx [(4,(vl 3 1 qE [])),(5,(jK 5))] [] (zE (cP 3 1)<|zM<|zZ) ?_
       refine jG ⟨_,(.tmp (d:=(.sl 3 1 (List.map qE []))) rfl (.tmp (d:=(.val (.int .i64 (5)))) rfl .nil)),?_⟩
       have he:=hR.ord hB h27
       rw[he.1,he.2];rfl
      ·have hO:=h27
       refine jF<|jB<|jB<|kx [(114,(vb (((t.getD k tz).op == 1)&&(decide ((t.getD k tz).a<0)||decide (z≤(t.getD k tz).a)))))] [] ?_ ?_
       ·refine zE (qA vK)<|zR (qX nQ)<|zE xR<|zE (oV (vb ((t.getD k tz).op == 1)) (qQ (by kernel_rfl)))<|?_
        rcases hb28:((t.getD k tz).op == 1) with _ | _
        ·replace hb28:=ne_of_beq_false hb28
         exact zK<|zK<|zK<|zK<|zK<|zK<|zK<|zK<|zK<|zE gE<|zZ
        ·replace hb28:=eq_of_beq hb28
         refine zE (qA yD)<|zR (qX gI)<|zE xY<|zE (oV (vb (decide ((t.getD k tz).a<0))) (qQ (by kernel_rfl)))<|?_
         rcases hb29:(decide ((t.getD k tz).a<0)) with _ | _
         ·replace hb29:=vM hb29
          exact zE (qA yD)<|zR (qX gI)<|zM<|zE oGe<|zE fU<|zE fA<|zZ
         ·replace hb29:=vJ hb29
          exact zK<|zK<|zK<|zK<|zE nY<|zE nY<|zZ
       refine jH rfl (fun h30=>?_) (fun h30=>?_)
       ·refine jB<|kx [(4,(vl 3 1 qE [])),(5,(jK 2))] [] (zE (cP 3 1)<|zM<|zZ) ?_
        refine jG ⟨_,(.tmp (d:=(.sl 3 1 (List.map qE []))) rfl (.tmp (d:=(.val (.int .i64 (2)))) rfl .nil)),?_⟩
        have he:=hR.rng hB hO h30
        rw[he.1,he.2];rfl
       ·have hN:=ndr hR hB hO h30
        refine jF<|jB<|jI<|jB<|kx [(129,(vb ((xP ((t.getD k tz).op)) == 0)))] [] (zM<|zE xR<|zM<|zZ) ?_
        refine jH (b:=((xP ((t.getD k tz).op)) == 0)) rfl (fun h31=>?_) (fun h31=>?_)
        ·replace h31:=eq_of_beq h31
         have hv:=szN_c (ss:=mZ t k) h31
         have hsl:(o.set k ((1:Int))).length=o.length:=List.length_set
         refine kx [] [(0,some (bm qE (o.set k 1)))] (zM<|zM<|zE (fV yU k)<|zT (oSp gI k (1:Int))<|zZ) ?_
         refine jB<|kx [(164,(vb (decide (4096<((o.set k 1).getD k 0)))))] [] (zM<|zM<|zE (fV yU k)<|zR (oLp gI k (0:Int))<|zE gD<|zZ) ?_
         refine jH (b:=decide (4096<((o.set k 1).getD k 0))) rfl (fun h32=>?_) (fun h32=>?_)
         ·replace h32:=vJ h32
          refine jB<|kx [(4,(vl 3 1 qE [])),(5,(jK 3))] [] (zE (cP 3 1)<|zM<|zZ) ?_
          refine jG ⟨_,(.tmp (d:=(.sl 3 1 (List.map qE []))) rfl (.tmp (d:=(.val (.int .i64 (3)))) rfl .nil)),?_⟩
          have he:=hN.big hv (by omega) h32
          rw[he.1,he.2];rfl
         ·replace h32:=vM h32
          refine jF<|kx [(27,(jK (k+1)))] [] (zE (xE (k+1))<|zM<|zZ) ?_
          exact ⟨(k+1,o.set k 1),wk,(hN.next hv ho (by omega)),(by first|omega|(dsimp only;omega))⟩
        ·replace h31:=ne_of_beq_false h31
         have hk0:=h31
         obtain ⟨a1,a2,a3,a4,a5⟩:=hN.a ho hk0
         refine jB<|kx [(135,(vb ((t.getD k tz).op == 6)))] [] (zE (qA vK)<|zR (qX nQ)<|zE xR<|zM<|zZ) ?_
         refine jH (b:=((t.getD k tz).op == 6)) rfl (fun h33=>?_) (fun h33=>?_)
         ·replace h33:=eq_of_beq h33
          have hv:=szN_n hk0 h33 a3
          have hsl:(o.set k ((o.getD (((t.getD k tz).a).toNat) 0))).length=o.length:=List.length_set
          refine kx [] [(0,some (bm qE (o.set k (o.getD (((t.getD k tz).a).toNat) 0))))] (zM<|zM<|zM<|zE (qA yD)<|zR (qX gI)<|zE (fV yU (((t.getD k tz).a).toNat))<|zR (oLp gI (((t.getD k tz).a).toNat) (0:Int))<|zE (fV yU k)<|zT (oSp gI k (o.getD (((t.getD k tz).a).toNat) 0))<|zZ) ?_
          refine jB<|kx [(164,(vb (decide (4096<((o.set k (o.getD (((t.getD k tz).a).toNat) 0)).getD k 0)))))] [] (zM<|zM<|zE (fV yU k)<|zR (oLp gI k (0:Int))<|zE gD<|zZ) ?_
          refine jH rfl (fun h34=>?_) (fun h34=>?_)
          ·replace h34:=vJ h34
           refine jB<|kx [(4,(vl 3 1 qE [])),(5,(jK 3))] [] (zE (cP 3 1)<|zM<|zZ) ?_
           refine jG ⟨_,(.tmp (d:=(.sl 3 1 (List.map qE []))) rfl (.tmp (d:=(.val (.int .i64 (3)))) rfl .nil)),?_⟩
           have he:=hN.big hv (by omega) h34
           rw[he.1,he.2];rfl
          ·replace h34:=vM h34
           refine jF<|kx [(27,(jK (k+1)))] [] (zE (xE (k+1))<|zM<|zZ) ?_
           exact ⟨(k+1,o.set k (o.getD (((t.getD k tz).a).toNat) 0)),wk,(hN.next hv ho (by omega)),(by first|omega|(dsimp only;omega))⟩
         ·replace h33:=ne_of_beq_false h33
          have h6:=h33
          refine jB<|kx [(147,(vb ((t.getD k tz).op == 7)))] [] (zE (qA vK)<|zR (qX nQ)<|zE xR<|zM<|zZ) ?_
          refine jH (b:=((t.getD k tz).op == 7)) rfl (fun h35=>?_) (fun h35=>?_)
          ·replace h35:=eq_of_beq h35
           have hv:=szN_q hk0 h35 a3
           have hsl:(o.set k (2*(o.getD (((t.getD k tz).a).toNat) 0))).length=o.length:=List.length_set
           refine kx [] [(0,some (bm qE (o.set k (2*(o.getD (((t.getD k tz).a).toNat) 0)))))] (zM<|zM<|zM<|zE (qA yD)<|zR (qX gI)<|zE (fV yU (((t.getD k tz).a).toNat))<|zR (oLp gI (((t.getD k tz).a).toNat) (0:Int))<|zE (zMl (2*(o.getD (((t.getD k tz).a).toNat) 0)))<|zE (fV yU k)<|zT (oSp gI k (2*(o.getD (((t.getD k tz).a).toNat) 0)))<|zZ) ?_
           refine jB<|kx [(164,(vb (decide (4096<((o.set k (2*(o.getD (((t.getD k tz).a).toNat) 0))).getD k 0)))))] [] (zM<|zM<|zE (fV yU k)<|zR (oLp gI k (0:Int))<|zE gD<|zZ) ?_
           refine jH rfl (fun h36=>?_) (fun h36=>?_)
           ·replace h36:=vJ h36
            refine jB<|kx [(4,(vl 3 1 qE [])),(5,(jK 3))] [] (zE (cP 3 1)<|zM<|zZ) ?_
            refine jG ⟨_,(.tmp (d:=(.sl 3 1 (List.map qE []))) rfl (.tmp (d:=(.val (.int .i64 (3)))) rfl .nil)),?_⟩
            have he:=hN.big hv (by omega) h36
            rw[he.1,he.2];rfl
           ·replace h36:=vM h36
            refine jF<|kx [(27,(jK (k+1)))] [] (zE (xE (k+1))<|zM<|zZ) ?_
            exact ⟨(k+1,o.set k (2*(o.getD (((t.getD k tz).a).toNat) 0))),wk,(hN.next hv ho (by omega)),(by first|omega|(dsimp only;omega))⟩
          ·replace h35:=ne_of_beq_false h35
           obtain ⟨b1,b2,b3,b4,b5⟩:=hN.b ho hk0 h6 h35
           have hv:=szN_b hk0 h6 h35 a3 b3
           have hsl:(o.set k ((o.getD (((t.getD k tz).a).toNat) 0)+(o.getD (((t.getD k tz).b).toNat) 0))).length=o.length:=List.length_set
           refine kd [] [(0,some (bm qE (o.set k ((o.getD (((t.getD k tz).a).toNat) 0)+(o.getD (((t.getD k tz).b).toNat) 0)))))] mo (wM<|wM<|wM<|wE (qA yD)<|wR (qX gI)<|wE (fV yU (((t.getD k tz).a).toNat))<|wR (oLp gI (((t.getD k tz).a).toNat) (0:Int))<|wM<|wE (qA nM)<|wR (qX gI)<|wE (fV yU (((t.getD k tz).b).toNat))<|wR (oLp gI (((t.getD k tz).b).toNat) (0:Int))<|wE (zAd ((o.getD (((t.getD k tz).a).toNat) 0)+(o.getD (((t.getD k tz).b).toNat) 0)))<|wE (fV yU k)<|wT (oSp gI k ((o.getD (((t.getD k tz).a).toNat) 0)+(o.getD (((t.getD k tz).b).toNat) 0)))<|wZ) ?_
           refine jB<|kx [(164,(vb (decide (4096<((o.set k ((o.getD (((t.getD k tz).a).toNat) 0)+(o.getD (((t.getD k tz).b).toNat) 0))).getD k 0)))))] [] (zM<|zM<|zE (fV yU k)<|zR (oLp gI k (0:Int))<|zE gD<|zZ) ?_
           refine jH rfl (fun h37=>?_) (fun h37=>?_)
           ·replace h37:=vJ h37
            refine jB<|kx [(4,(vl 3 1 qE [])),(5,(jK 3))] [] (zE (cP 3 1)<|zM<|zZ) ?_
            refine jG ⟨_,(.tmp (d:=(.sl 3 1 (List.map qE []))) rfl (.tmp (d:=(.val (.int .i64 (3)))) rfl .nil)),?_⟩
            have he:=hN.big hv (by omega) h37
            rw[he.1,he.2];rfl
           ·replace h37:=vM h37
            refine jF<|kx [(27,(jK (k+1)))] [] (zE (xE (k+1))<|zM<|zZ) ?_
            exact ⟨(k+1,o.set k ((o.getD (((t.getD k tz).a).toNat) 0)+(o.getD (((t.getD k tz).b).toNat) 0))),wk,(hN.next hv ho (by omega)),(by first|omega|(dsimp only;omega))⟩
    ·replace h5:=vM h5
     refine kL<|jB<|kx [(4,(.own 0 3 1 t.length)),(5,(jK 0))] [] (zM<|zM<|zM<|zZ) ?_
     refine jV (xA (t:=4) (k:=0) (es:=List.map qE o) rfl rfl (uI _ _ (fun _=>rfl)) (qY _ _ uO) (uU _ _ (fun _=>rfl) uO)) ?_
     refine jG ⟨_,(.tmp (d:=(.sl 3 1 (List.map qE o))) rfl (.tmp (d:=(.val (.int .i64 (0)))) rfl .nil)),?_⟩
     have he:=tm_end hz0 h0 h400 hk h5 ho hu
     rw[he.1,he.2];rfl
end Go.Proofs.YtnajallgoaiahaaGreatDoor
