/- Part 29 of a proof: rules, plain facts, and functions walked. -/
import Derived.Test.YtnajallgoaiahaaGreatDoorM25
import Derived.Test.YtnajallgoaiahaaGreatDoorM28
import Derived.Test.YtnajallgoaiahaaGreatDoorM26
import Derived.Test.YtnajallgoaiahaaGreatDoorM19
set_option linter.all false
set_option maxRecDepth 4000
namespace Go.Proofs.YtnajallgoaiahaaGreatDoor
open Go.Fid
theorem f_div(a:R2)(ha:GL 67108864 a)(b:R2)(hb:GL 67108864 b)(n:Nat)(x:jX)(fb:Bool)(hz:yV b.1 b.2=true):xH Tryz.prog 204 [(.ref 0 0),(.d (jF (kC a))),(.d (jF (kC b)))] [(0,some [(jP n),(jP 1),(vi (-1)),(.d (x)),(vb fb)])] (.d (jF (kC (gw 0)))) [(0,some [(jP n),(jP 1),(vi (-1)),(.d (x)),(vb true)])]:=by
 refine nN Tryz.func204 rfl cb204 rfl ?_
 show qG _ _ _ _ ⟨[(0,(.ref 0 0)),(1,(.d (jF (kC a)))),(2,(.d (jF (kC b))))],[(0,some [(jP n),(jP 1),(vi (-1)),(.d (x)),(vb fb)])]⟩
 refine jB<|kx [(4,(.ref 1 0)),(5,(.ref 2 0)),(6,(.ref 3 0))] [(1,some (bx (jF (kC a)))),(2,some (bx (jF (kC b)))),(3,some (bx (jF (jV.mk kZ kZ))))] (zN (vA 1)<|zN (vA 2)<|zN (qV 3 qO qS)<|zZ) ?_
 refine jB<|kx [(7,(.ref 4 0)),(8,(vi 14))] [(4,some (bx (jF (jV.mk kZ kZ))))] (zR (kK jW)<|zR (kK jW)<|zE (jY (i_divideZ a.1 a.2 b.1 b.2 (qu ha.1) (qu ha.2.1) (qu hb.1) (qu hb.2.1) ha.2.2 hb.2.2 hz))<|zM<|zE uT<|zE uT<|zN (qV 4 qO qS)<|zT (qA jW)<|zM<|zZ) ?_
 refine jB<|jB<|kx [(16,(vb true))] [] (zM<|zE nW<|zZ) ?_
 refine uY ?_
 refine jB<|kx [] [(0,some [(jP n),(jP 1),(vi (-1)),(.d (x)),(vb true)])] (zM<|zE oNc<|zE (kY fo161_4)<|zT (qA aX)<|zZ) ?_
 refine jB<|kx [] [(3,some (bx (jF (kC (gw 0)))))] (zE (jY (j_whole 0 (by omega) (by omega)))<|zT (qA jW)<|zZ) ?_
 refine jE ⟨yO (by kernel_rfl),gN (by kernel_rfl),.inl ⟨_,(kH (cs:=(bx (jF (kC (gw 0))))) (d:=(jF (kC (gw 0)))) rfl rfl jW rfl rfl .nil),?_⟩⟩
 rfl
theorem f_vD(n:Nat)(x:jX)(fb:Bool)(bb:Nat)(u:JV)(hu:nQ 1048576 n u)(v:JV)(hv:nQ 1048576 n v)(hz:yV v.v.1 v.v.2=true):xH Tryz.prog 203 [(.ref 1 0),(.ref 2 0),(.ref 3 0)] [(0,some [(jP n),(jP 1),(vi (-1)),(.d (x)),(vb fb)]),(1,some [(.refx 0 0 bb)]),(2,some (bx (jL (qJ u)))),(3,some (bx (jL (qJ v))))] (.d (jF (kC (gw 0)))) [(0,some [(jP n),(jP 1),(vi (-1)),(.d (x)),(vb true)]),(1,some [(.refx 0 0 bb)]),(2,some (bx (jL (qJ u)))),(3,some (bx (jL (qJ v))))]:=by
 refine nN Tryz.func203 rfl cb203 rfl ?_
 show qG _ _ _ _ ⟨[(0,(.ref 1 0)),(1,(.ref 2 0)),(2,(.ref 3 0))],[(0,some [(jP n),(jP 1),(vi (-1)),(.d (x)),(vb fb)]),(1,some [(.refx 0 0 bb)]),(2,some (bx (jL (qJ u)))),(3,some (bx (jL (qJ v))))]⟩
 refine jB<|kx [(3,(.ref 4 0))] [(4,some (bx (jF (jV.mk kZ kZ))))] (zN (qV 4 qO qS)<|zZ) ?_
 refine jB<|kf [] [(0,some [(jP n),(jP 1),(vi (-1)),(.d (x)),(vb true)]),(4,some (bx (jF (kC (gw 0)))))] (zR (oLx eT)<|zE (kY zJ)<|zR (kK jW)<|zE (kY zJ)<|zR (kK jW)<|zSe (B2:=[(0,some [(jP n),(jP 1),(vi (-1)),(.d (x)),(vb fb)])]) (B2':=[(0,some [(jP n),(jP 1),(vi (-1)),(.d (x)),(vb true)])]) [0] [0] (f_div u.v (qD hu.1 (by decide)) v.v (qD hv.1 (by decide)) n (x) fb hz)<|zT (qA jW)<|zF) ?_
 refine jE ⟨yO (by kernel_rfl),gN (by kernel_rfl),.inl ⟨_,(kH (cs:=(bx (jF (kC (gw 0))))) (d:=(jF (kC (gw 0)))) rfl rfl jW rfl rfl .nil),?_⟩⟩
 rfl
theorem f_gD(i:Nat)(n:Nat)(x:jX)(fb:Bool)(bb:Nat)(u:JV)(hu:nQ 1048576 n u)(v:JV)(hv:nQ 1048576 n v)(w:R2)(hw:GL 2097152 w)(y z:jX)(hz:yV v.v.1 v.v.2=true)(hi:i<n):xH Tryz.prog 205 [(.ref 4 0),(jP i),(.ref 1 0),(.ref 2 0),(.ref 3 0)] [(0,some [(jP n),(jP 1),(vi (-1)),(.d (x)),(vb fb)]),(1,some [(.refx 0 0 bb)]),(2,some (bx (jL (qJ u)))),(3,some (bx (jL (qJ v)))),(4,some (bx (jF (kC w))++[(.d (y)),(.d (z))]))] (.d (jF (kC (gw 0)))) [(0,some [(jP n),(jP 1),(vi (-1)),(.d (x)),(vb true)]),(1,some [(.refx 0 0 bb)]),(2,some (bx (jL (qJ u)))),(3,some (bx (jL (qJ v)))),(4,some (bx (jF (kC w))++[(.d (y)),(.d (z))]))]:=by
 have hul:=hu.2.2
 have hvl:=hv.2.2
 refine nN Tryz.func205 rfl cb205 rfl ?_
 show qG _ _ _ _ ⟨[(0,(.ref 4 0)),(1,(jP i)),(2,(.ref 1 0)),(3,(.ref 2 0)),(4,(.ref 3 0))],[(0,some [(jP n),(jP 1),(vi (-1)),(.d (x)),(vb fb)]),(1,some [(.refx 0 0 bb)]),(2,some (bx (jL (qJ u)))),(3,some (bx (jL (qJ v)))),(4,some (bx (jF (kC w))++[(.d (y)),(.d (z))]))]⟩
 refine jB<|kx [(7,(.ref 5 0))] [(5,some (bx (jF (jV.mk kZ kZ))))] (zN (qV 5 qO qS)<|zZ) ?_
 refine jB<|kd [] [(0,some [(jP n),(jP 1),(vi (-1)),(.d (x)),(vb true)]),(5,some (bx (jF (kC (gw 0)))))] mo (wR (oLx eT)<|wE (kY xV)<|wR (uM cJ)<|wM<|wE (oXm xI kC i z2)<|wE (gE jW)<|wM<|wE oNc<|wE (kY zJ)<|wR (kK jW)<|wE (kY xV)<|wR (uM cJ)<|wM<|wE (oXm xI kC i z2)<|wE (gE jW)<|wE (jY (j_mul w (qD hw (by decide)) (v.g.getD i z2) (qD (uU hv.2.1 (by decide) i) (by decide))))<|wE (jY (j_sub (u.g.getD i z2) (qD (uU hu.2.1 (by decide) i) (by decide)) (uF w (v.g.getD i z2)) (qD (yY (k:=3145728) hw (uU hv.2.1 (by decide) i) (by decide)) (by decide))))<|wE (kY zJ)<|wR (kK jW)<|wS [0] [] (.d (jF (kC (gw 0)))) [(.ref 0 0),(.d (jF (kC (uO (u.g.getD i z2) (uF w (v.g.getD i z2)))))),(.d (jF (kC v.v)))] [(0,some [(jP n),(jP 1),(vi (-1)),(.d (x)),(vb fb)])] [(0,some [(jP n),(jP 1),(vi (-1)),(.d (x)),(vb true)])] (f_div (uO (u.g.getD i z2) (uF w (v.g.getD i z2))) (qD (fS (k:=4194305) (uU hu.2.1 (by decide) i) (yY (k:=3145728) hw (uU hv.2.1 (by decide) i) (by decide)) (by decide)) (by decide)) v.v (qD hv.1 (by decide)) n (x) fb hz) (.cons rfl (by kernel_rfl) .nil) (.cons rfl (by kernel_rfl) .nil) (by repeat first | exact .nil | refine .hid rfl ?_ | refine .none ?_ | refine .dat ?_ | refine .map ?_ | refine .cells (by kernel_rfl) ?_) (by repeat first | exact .nil | refine .dat ?_ | refine .map ?_ | refine .cells (by kernel_rfl) ?_)<|wT (qA jW)<|wZ) ?_
 refine jE ⟨yO (by kernel_rfl),gN (by kernel_rfl),.inl ⟨_,(kH (cs:=(bx (jF (kC (gw 0))))) (d:=(jF (kC (gw 0)))) rfl rfl jW rfl rfl .nil),?_⟩⟩
 rfl
theorem f_round(n:Nat)(x:jX)(a:R2)(ha:GL 67108864 a):jR Tryz.prog 243 [(.cptr 1000000 (jX.cells (mcA n x true)) 0),(jF (kC a))] (jF (kC a)):=by
 refine jJ Tryz.func243 rfl cb243 rfl ?_
 show qG _ _ _ _ ⟨[(0,(.d (.cptr 1000000 (jX.cells (mcA n x true)) 0))),(1,(.d (jF (kC a))))],[]⟩
 refine jB<|kx [(3,(.ref 0 0)),(4,(.ref 1 0))] [(0,some (bx (jF (kC a)))),(1,some (bx (jF (jV.mk kZ kZ))))] (zN (vA 0)<|zN (qV 1 qO qS)<|zZ) ?_
 refine jB<|jB<|kx [(9,(vb true))] [] (zM<|zE oNd<|zE (oFc fo161_2)<|zE (xZ cH)<|zE (vW true xK)<|zZ) ?_
 refine uY ?_
 refine jB<|kx [] [(1,some (bx (jF (kC a))))] (zR (kK jW)<|zT (qA jW)<|zZ) ?_
 refine jE ⟨_,(kH (cs:=(bx (jF (kC a)))) (d:=(jF (kC a))) rfl rfl jW rfl rfl .nil),?_⟩
 rfl
theorem f_nodeD(n:Nat)(L:List JV)(bb:Nat)(u:JV)(hu:nQ 1048576 n u)(v:JV)(hv:nQ 1048576 n v)(hn:n≤64)(hL:L.length≤1000)(hz:yV v.v.1 v.v.2=true):xH Tryz.prog 184 [(.ref 0 0),(.clo 203 [2,3,4]),(.clo 205 [2,3,4]),(.clo 206 [3,4,2])] [(0,some (xP n 1 L false)),(1,some (xY L)),(2,some [(.refx 0 0 bb)]),(3,some (bx (jL (qJ u)))),(4,some (bx (jL (qJ v))))] (.d (.tup [])) [(0,some (xP n 9 (L++[jk (gw 0) (fun _=>gw 0) n]) true)),(9,some (xY (L++[jk (gw 0) (fun _=>gw 0) n])))]:=by
 refine nN Tryz.func184 rfl cb184 rfl ?_
 show qG _ _ _ _ ⟨[(0,(.ref 0 0)),(1,(.clo 203 [2,3,4])),(2,(.clo 205 [2,3,4])),(3,(.clo 206 [3,4,2]))],[(0,some (xP n 1 L false)),(1,some (xY L)),(2,some [(.refx 0 0 bb)]),(3,some (bx (jL (qJ u)))),(4,some (bx (jL (qJ v))))]⟩
 refine jB<|kx [(8,(.ref 5 0))] [(0,some (xP n 1 L true)),(2,some [(.refx 0 0 bb)]),(3,some (bx (jL (qJ u)))),(4,some (bx (jL (qJ v)))),(5,some (bx (.agg (jX.cells (jF (kC (gw 0)))++[(.val (.slice none 0 0)),(.val (.slice none 0 0))]))))] (zM<|zM<|zV [0,2,3,4] [] [0] (.d (jF (kC (gw 0)))) [(.ref 2 0),(.ref 3 0),(.ref 4 0)] [(0,some (xP n 1 L false)),(2,some [(.refx 0 0 bb)]),(3,some (bx (jL (qJ u)))),(4,some (bx (jL (qJ v))))] [(0,some (xP n 1 L true)),(2,some [(.refx 0 0 bb)]),(3,some (bx (jL (qJ u)))),(4,some (bx (jL (qJ v))))] (fun U=>f_vD n (.val (U 0 3)) false bb u hu v hv hz) (fun U=>(.cons rfl (by kernel_rfl) (.cons rfl (by kernel_rfl) (.cons rfl (fE _ _ _ _) (.cons rfl (fE _ _ _ _) .nil))))) (fun U=>(.cons rfl (by kernel_rfl) (.cons rfl (by kernel_rfl) (.cons rfl (fE _ _ _ _) (.cons rfl (fE _ _ _ _) .nil))))) (fun U=>(.cons (k:=0) (q:=1) (o:=0) (b:=bb) (j:=0) (by kernel_rfl) (by kernel_rfl) (by kernel_rfl) .nil)) (.cells (by kernel_rfl) (.cells (by kernel_rfl) (.dat (.dat .nil)))) (by repeat first | exact .nil | refine .hid rfl ?_ | refine .none ?_ | refine .dat ?_ | refine .map ?_ | refine .cells (by kernel_rfl) ?_) (hc:=callV_fn (ex:=[.ref 2 0,.ref 3 0,.ref 4 0]) (by exact rfl) (.clo (kk:=[2,3,4]) (by kernel_rfl) (by kernel_rfl)) (by kernel_rfl))<|zC (oCh [(0,(xP n 1 L true),(jX.cells (mcA n (.sl 1000000 10 (List.map jL (List.map qJ L))) true))),(1,(xY L),(qE (List.map jL (List.map qJ L))))] [(.ref 0 0),(.d (jF (kC (gw 0))))] (f_round n (.sl 1000000 10 (List.map jL (List.map qJ L))) (gw 0) (qD (gl_w (z:=0) (by omega) (by omega)) (by decide))) (.cons (.r (.head _)) (.cons .d .nil)) (.cons (.cons .d (.cons .d (.cons .d (.cons (aK (F:=jL) (L:=(List.map qJ L)) (.head _) (fun _=>rfl) rfl) (.cons .d .nil))))) (.cons (.all (by exact rfl)) .nil)) (xW (by decide) _) (ex:=[]))<|zE (eX pl95 cZ zn95)<|zH (qV 5 cZ fK)<|zT (qA nL)<|zZ) ?_
 refine jB<|jB<|kx [(22,(vb true))] [] (zM<|zE oNc<|zE (kY fo161_1)<|zR (uM cH)<|zE (vW true mL)<|zZ) ?_
 refine uY ?_
 refine jB<|aI 5 8 6 61 8 (cs:=(bx (.agg (jX.cells (jF (kC (gw 0)))++[(.val (.slice none 0 0)),(.val (.slice none 0 0))])))) (h:=?_)
 refine kS (wk (l:=[(0,(.ref 0 0)),(1,(.clo 203 [2,3,4])),(2,(.clo 205 [2,3,4])),(3,(.clo 206 [3,4,2])),(8,(.ref 5 0)),(22,(vb true))]) (b:=[(0,some (xP n 1 L true)),(1,some (xY L)),(2,some [(.refx 0 0 bb)]),(3,some (bx (jL (qJ u)))),(4,some (bx (jL (qJ v)))),(5,some (bx (jF (kC (gw 0)))++[(.own 6 61 8 0),(.d (.val (.slice none 0 0)))])),(6,some (yG jF []))])) ?_
 refine aI 5 9 7 86 1 (cs:=(bx (jF (kC (gw 0)))++[(.own 6 61 8 0),(.d (.val (.slice none 0 0)))])) (h:=?_)
 refine kS (wk (l:=[(0,(.ref 0 0)),(1,(.clo 203 [2,3,4])),(2,(.clo 205 [2,3,4])),(3,(.clo 206 [3,4,2])),(8,(.ref 5 0)),(22,(vb true))]) (b:=[(0,some (xP n 1 L true)),(1,some (xY L)),(2,some [(.refx 0 0 bb)]),(3,some (bx (jL (qJ u)))),(4,some (bx (jL (qJ v)))),(5,some (bx (jF (kC (gw 0)))++[(.own 6 61 8 0),(.own 7 86 1 0)])),(6,some (yG jF [])),(7,some (bm uL []))])) ?_
 refine kx [(26,(jP n)),(27,(jP 0))] [] (zM<|zE oNc<|zE (kY fo161_0)<|zR (uM cH)<|zM<|zZ) ?_
 refine jH<|kA (α:=Nat × List jV) (fun (i,gl)=>⟨[(0,(.ref 0 0)),(1,(.clo 203 [2,3,4])),(2,(.clo 205 [2,3,4])),(3,(.clo 206 [3,4,2])),(8,(.ref 5 0)),(26,(jP n)),(27,(jP i))],[(0,some (xP n 1 L true)),(1,some (xY L)),(2,some [(.refx 0 0 bb)]),(3,some (bx (jL (qJ u)))),(4,some (bx (jL (qJ v)))),(5,some (bx (jF (kC (gw 0)))++[(.own 6 61 8 gl.length),(.own 7 86 1 0)])),(6,some (yG jF gl)),(7,some (bm uL []))]⟩) (fun (i,gl)=>i≤n∧gl=List.map kC (List.map (fun (_:Nat)=>gw 0) (List.range i))) (fun (i,gl)=>n-i) (0,[]) wk ⟨Nat.zero_le _,rfl⟩ ?_
 rintro ⟨i,gl⟩ ⟨hi,hg⟩
 have hgl:gl.length=i:=jk_len (G:=(fun (_:Nat)=>gw 0)) hg
 refine jB<|kx [(28,(vb (decide (((i:Nat):Int)<((n:Nat):Int)))))] [] (zE xK<|zZ) ?_
 refine jB<|jG rfl (fun h1=>?_) (fun h1=>?_)
 ·replace h1:=uP h1
  refine jD<|jB<|jH<|jB<|kx [(9,(jP i))] [] (zM<|zM<|zZ) ?_
  refine kd [] [(0,some (xP n 1 L true)),(2,some [(.refx 0 0 bb)]),(3,some (bx (jL (qJ u)))),(4,some (bx (jL (qJ v)))),(5,some (bx (jF (kC (gw 0)))++[(.own 8 61 8 ((gl++[(kC (gw 0))]).length)),(.own 7 86 1 0)])),(8,some (yG jF (gl++[(kC (gw 0))]))),(6,none)] mo (wE (kY xV)<|wR (uM cJ)<|wM<|wM<|wM<|wV [0,2,3,4,5] [] [0] [] (.d (jF (kC (gw 0)))) [(.ref 5 0),(jP i),(.ref 2 0),(.ref 3 0),(.ref 4 0)] [(0,some (xP n 1 L true)),(2,some [(.refx 0 0 bb)]),(3,some (bx (jL (qJ u)))),(4,some (bx (jL (qJ v)))),(5,some (bx (jF (kC (gw 0)))++[(.own 6 61 8 gl.length),(.own 7 86 1 0)]))] [(0,some (xP n 1 L true)),(2,some [(.refx 0 0 bb)]),(3,some (bx (jL (qJ u)))),(4,some (bx (jL (qJ v)))),(5,some (bx (jF (kC (gw 0)))++[(.own 6 61 8 gl.length),(.own 7 86 1 0)]))] (fun U=>f_gD i n (.val (U 0 3)) true bb u hu v hv (gw 0) (qD (gl_w (z:=0) (by omega) (by omega)) (by decide)) (.val (U 5 8)) (.val (U 5 9)) hz (by omega)) (fun U=>(.cons rfl (by kernel_rfl) (.cons rfl (by kernel_rfl) (.cons rfl (fE _ _ _ _) (.cons rfl (fE _ _ _ _) (.cons rfl (by kernel_rfl) .nil)))))) (fun U=>(.cons rfl (by kernel_rfl) (.cons rfl (by kernel_rfl) (.cons rfl (fE _ _ _ _) (.cons rfl (fE _ _ _ _) (.cons rfl (by kernel_rfl) .nil)))))) (fun U=>(.cons (k:=0) (q:=1) (o:=0) (b:=bb) (j:=0) (by kernel_rfl) (by kernel_rfl) (by kernel_rfl) .nil)) (.cells (by kernel_rfl) (.cells (by kernel_rfl) (.dat (.dat (.cells (by kernel_rfl) .nil))))) (by repeat first | exact .nil | refine .hid rfl ?_ | refine .none ?_ | refine .dat ?_ | refine .map ?_ | refine .cells (by kernel_rfl) ?_) (by repeat first | exact .nil | refine .dat ?_ | refine .map ?_ | refine .cells (by kernel_rfl) ?_) (hc:=callV_fn (ex:=[.ref 2 0,.ref 3 0,.ref 4 0]) (by exact rfl) (.clo (kk:=[2,3,4]) (by kernel_rfl) (by kernel_rfl)) (by kernel_rfl))<|wC (oCh [(0,(xP n 1 L true),(jX.cells (mcA n (.sl 1000000 10 (List.map jL (List.map qJ L))) true))),(1,(xY L),(qE (List.map jL (List.map qJ L))))] [(.ref 0 0),(.d (jF (kC (gw 0))))] (f_round n (.sl 1000000 10 (List.map jL (List.map qJ L))) (gw 0) (qD (gl_w (z:=0) (by omega) (by omega)) (by decide))) (.cons (.r (.head _)) (.cons .d .nil)) (.cons (.cons .d (.cons .d (.cons .d (.cons (aK (F:=jL) (L:=(List.map qJ L)) (.head _) (fun _=>rfl) rfl) (.cons .d .nil))))) (.cons (.all (by exact rfl)) .nil)) (xW (by decide) _) (ex:=[]))<|wE (cN xI qO qS)<|wAS (k:=6) 8 jF gl [(kC (gw 0))] rfl xI qO by61<|wE (kY xV)<|wT (oSx cJ)<|wZ) ?_
  refine kS (wk (l:=[(0,(.ref 0 0)),(1,(.clo 203 [2,3,4])),(2,(.clo 205 [2,3,4])),(3,(.clo 206 [3,4,2])),(8,(.ref 5 0)),(26,(jP n)),(27,(jP i))]) (b:=[(0,some (xP n 1 L true)),(1,some (xY L)),(2,some [(.refx 0 0 bb)]),(3,some (bx (jL (qJ u)))),(4,some (bx (jL (qJ v)))),(5,some (bx (jF (kC (gw 0)))++[(.own 8 61 8 ((gl++[(kC (gw 0))]).length)),(.own 7 86 1 0)])),(7,some (bm uL [])),(8,some (yG jF (gl++[(kC (gw 0))])))])) ?_
  refine kS (bN (S':=[(0,(.ref 0 0)),(1,(.clo 203 [2,3,4])),(2,(.clo 205 [2,3,4])),(3,(.clo 206 [3,4,2])),(8,(.ref 5 0)),(26,(jP n)),(27,(jP i))]) (B':=[(0,some (xP n 1 L true)),(1,some (xY L)),(2,some [(.refx 0 0 bb)]),(3,some (bx (jL (qJ u)))),(4,some (bx (jL (qJ v)))),(5,some (bx (jF (kC (gw 0)))++[(.own 6 61 8 ((gl++[(kC (gw 0))]).length)),(.own 7 86 1 0)])),(6,some (yG jF (gl++[(kC (gw 0))]))),(7,some (bm uL []))]) 6 8 5) ?_
  refine kx [(27,(jP (i+1)))] [] (zE (vC (i+1))<|zM<|zZ) ?_
  exact ⟨(i+1,gl++[kC (gw 0)]),wk,⟨by omega,jk_push (G:=(fun (_:Nat)=>gw 0)) hg⟩,(by first|omega|(dsimp only;omega))⟩
 ·replace h1:=uR h1
  refine kB<|jB<|jB<|kx [(45,(vb false))] [] (zM<|zE oNc<|zE (kY fo161_1)<|zR (uM cH)<|zE (vW false mL)<|zZ) ?_
  refine kU ?_
  refine jD<|kS (eD (j:=5) (k:=6) (pre:=(bx (jF (kC (gw 0))))) (post:=[(.own 7 86 1 0)]) (es:=List.map jF gl) rfl (by decide) rfl (zL _ _ (fun _=>rfl)) (uJ _ _ rfl) (yS jF gl (fun _=>rfl) rfl)) ?_
  refine kS (wk (l:=[(0,(.ref 0 0)),(1,(.clo 203 [2,3,4])),(2,(.clo 205 [2,3,4])),(3,(.clo 206 [3,4,2])),(8,(.ref 5 0)),(45,(vb false))]) (b:=[(0,some (xP n 1 L true)),(1,some (xY L)),(2,some [(.refx 0 0 bb)]),(3,some (bx (jL (qJ u)))),(4,some (bx (jL (qJ v)))),(5,some (bx (jF (kC (gw 0)))++[(vl 61 8 jF gl),(.own 7 86 1 0)])),(7,some (bm uL []))])) ?_
  refine kS (eD (j:=5) (k:=7) (pre:=(bx (jF (kC (gw 0)))++[(vl 61 8 jF gl)])) (post:=[]) (es:=List.map uL []) rfl (by decide) rfl (uQ _ _ (fun _=>rfl)) (uJ _ _ rfl) (vQ _ _ (fun _=>rfl) rfl)) ?_
  refine kS (wk (l:=[(0,(.ref 0 0)),(1,(.clo 203 [2,3,4])),(2,(.clo 205 [2,3,4])),(3,(.clo 206 [3,4,2])),(8,(.ref 5 0)),(45,(vb false))]) (b:=[(0,some (xP n 1 L true)),(1,some (xY L)),(2,some [(.refx 0 0 bb)]),(3,some (bx (jL (qJ u)))),(4,some (bx (jL (qJ v)))),(5,some (bx (jL (xL.mk (kC (gw 0)) gl []))))])) ?_
  refine kd [] [(0,some [(jP n),(jP 1),(vi (-1)),(.own 9 95 10 (((List.map qJ L)++[(xL.mk (kC (gw 0)) gl [])]).length)),(vb true)]),(9,some (yG jL ((List.map qJ L)++[(xL.mk (kC (gw 0)) gl [])]))),(1,none)] mo (wM<|wM<|wE oNc<|wE (kY cM)<|wR (uM sh143)<|wR (kK nL)<|wE (cN dR cZ fK)<|wAS (k:=1) 9 jL (List.map qJ L) [(xL.mk (kC (gw 0)) gl [])] rfl dR cZ by95<|wE oNc<|wE (kY cM)<|wT (oSx sh143)<|wZ) ?_
  have hJ:List.map qJ (L++[jk (gw 0) (fun _=>gw 0) n])=List.map qJ L++[xL.mk (kC (gw 0)) gl []]:=by rw[List.map_append,hg,show i=n by omega];rfl
  unfold xP xY
  rw[hJ]
  refine ⟨yO (by kernel_rfl),gN (by kernel_rfl),.inl ⟨_,.nil,?_⟩⟩
  rfl
theorem run_p{bv:List R2}{t:List kV}(hbx:∀ x∈bv,GL 1048576 x)(ht:vR 1048576 t)(h:JRun bv t):JRunP bv t:=⟨h,fun k hk=>by
 have h0:=tm_0 h.c0
 have hl:=dP bv t k
 exact e_stepN0 _ bv hbx _ (by omega) (by omega) (h.upto (by omega)) (h.nd ht hk)⟩
end Go.Proofs.YtnajallgoaiahaaGreatDoor
namespace Go.Fid
theorem gs0(a:R2):uO (gw 0) a=gneg a:=by
 unfold uO gw gneg
 rw[show ((0:Int):Rat)=0 from rfl,Rat.sub_eq_add_neg,Rat.sub_eq_add_neg,Rat.zero_add,Rat.zero_add]
theorem ga0(a:R2):xO (gw 0) a=a:=by
 unfold xO gw
 rw[show ((0:Int):Rat)=0 from rfl,Rat.zero_add,Rat.zero_add]
def bV(s:Nat):Nat:=9*s-1
def bG(s:Nat):Nat:=19*(s*s)
def dK(v:R2)(g:Nat→R2)(s:Nat):Prop:=GL (bV s) v∧∀ i,GL (bG s) (g i)
def BdOk(ss:List Int)(L:List JV):Prop:=∀ j,j<L.length→∃ s:Nat,ss.getD j 0=(s:Int)∧1≤s∧dK (L.getD j jz).v (fun i=>(L.getD j jz).g.getD i z2) s
theorem gl_0:GL 3 (gw 0):=gl_w (z:=0) (by omega) (by omega)
theorem gl_1:GL 3 (gw 1):=gl_w (z:=1) (by omega) (by omega)
theorem gl_2:GL 3 (gw 2):=gl_w (z:=2) (by omega) (by omega)
theorem sq_sum(s r:Nat):(s+r)*(s+r)=s*s+r*r+2*(s*r):=by
 rw[Nat.add_mul,Nat.mul_add,Nat.mul_add,Nat.mul_comm r s];omega
theorem sr_le{s r:Nat}(hs:1≤s)(hr:1≤r):s+r≤2*(s*r):=by
 have h1:s*1≤s*r:=Nat.mul_le_mul (Nat.le_refl _) hr
 have h2:1*r≤s*r:=Nat.mul_le_mul hs (Nat.le_refl _)
 omega
theorem dK.pt{v:R2}{g:Nat→R2}(hv:GL 8 v)(hg:∀ i,GL 3 (g i)):dK v g 1:=⟨hv,fun i=>qD (hg i) (by decide)⟩
theorem dK.add{v w:R2}{g h:Nat→R2}{s r:Nat}(hs:1≤s)(hr:1≤r)(a:dK v g s)(b:dK w h r):dK (xO v w) (fun i=>xO (g i) (h i)) (s+r):=by
 have e:=sq_sum s r
 have e2:=sr_le hs hr
 exact ⟨gl_add a.1 b.1 (by unfold bV;omega),fun i=>gl_add (a.2 i) (b.2 i) (by unfold bG;omega)⟩
theorem dK.sub{v w:R2}{g h:Nat→R2}{s r:Nat}(hs:1≤s)(hr:1≤r)(a:dK v g s)(b:dK w h r):dK (uO v w) (fun i=>uO (g i) (h i)) (s+r):=by
 have e:=sq_sum s r
 have e2:=sr_le hs hr
 exact ⟨fS a.1 b.1 (by unfold bV;omega),fun i=>fS (a.2 i) (b.2 i) (by unfold bG;omega)⟩
theorem dK.mul{v w:R2}{g h:Nat→R2}{s r:Nat}(hs:1≤s)(hr:1≤r)(a:dK v g s)(b:dK w h r):dK (uF v w) (fun i=>xO (uF v (h i)) (uF w (g i))) (s+r):=by
 have e:=sq_sum s r
 have e2:=sr_le hs hr
 exact ⟨yY a.1 b.1 (by unfold bV;omega),fun i=>gl_add (yY a.1 (b.2 i) (Nat.le_refl _)) (yY b.1 (a.2 i) (Nat.le_refl _)) (by unfold bV bG;omega)⟩
theorem dK.div{v w:R2}{g h:Nat→R2}{s r:Nat}(hs:1≤s)(hr:1≤r)(a:dK v g s)(b:dK w h r):dK (mY v w) (fun i=>mY (uO (g i) (uF (mY v w) (h i))) w) (s+r):=by
 have e:=sq_sum s r
 have e2:=sr_le hs hr
 have hq:GL (bV (s+r)) (mY v w):=gl_div a.1 b.1 (by unfold bV;omega)
 exact ⟨hq,fun i=>gl_div (fS (a.2 i) (yY hq (b.2 i) (Nat.le_refl _)) (Nat.le_refl _)) b.1 (by unfold bV bG;omega)⟩
theorem dK.neg{v:R2}{g:Nat→R2}{s:Nat}(a:dK v g s):dK (uO (gw 0) v) (fun i=>uO (gw 0) (g i)) s :=
 ⟨by rw[gs0];exact gl_neg a.1,fun i=>by show GL _ (uO (gw 0) (g i));rw[gs0];exact gl_neg (a.2 i)⟩
theorem dK.sq{v:R2}{g:Nat→R2}{s:Nat}(hs:1≤s)(a:dK v g s):dK (gsq v) (fun i=>uF (gw 2) (uF v (g i))) (2*s):=by
 have e:=sq_sum s s
 have e2:=sr_le hs hs
 rw[show 2*s=s+s by omega]
 exact ⟨gl_sq a.1 (by unfold bV;omega),fun i=>yY gl_2 (yY a.1 (a.2 i) (Nat.le_refl _)) (by unfold bV bG;omega)⟩
theorem nJ_get{bx:List R2}{L:List JV}{x:kV}{s:Nat}(h1:1≤s)(h:dK (nV bx L x) (nG bx L x) s):dK (nJ bx L x).v (fun i=>(nJ bx L x).g.getD i z2) s:=by
 refine ⟨h.1,fun i=>?_⟩
 have h2:s*1≤s*s:=Nat.mul_le_mul (Nat.le_refl _) h1
 show GL _ ((nJ bx L x).g.getD i z2)
 unfold nJ jk
 dsimp only
 rw[List.getD_eq_getElem?_getD,List.getElem?_map]
 rcases Nat.lt_or_ge i bx.length with h3 | h3
 ·rw[List.getElem?_range h3];exact h.2 i
 ·rw[List.getElem?_eq_none (by simpa using h3)]
  exact ⟨xE mZ (by unfold bG;omega),xE mZ (by unfold bG;omega),Rat.le_refl⟩
theorem bd_at{ss:List Int}{L:List JV}(h:BdOk ss L){a:Int}(h0:0≤a)(h1:a<L.length):∃ s:Nat,ss.getD a.toNat 0=(s:Int)∧1≤s∧dK (jA L a).v (fun i=>(jA L a).g.getD i z2) s:=h a.toNat (by omega)
theorem bd_node{z:Int}{ss:List Int}{L:List JV}{bx:List R2}{x:kV}(hk:ndC z ss x=0)(hl:ss.length=L.length)(hq:gW x.n (qP x.n) 8)(hb:∀ y∈bx,GL 8 y)(h:BdOk ss L) :
  ∃ s:Nat,szN ss x=(s:Int)∧1≤s∧dK (nV bx L x) (nG bx L x) s:=by
 obtain ⟨h1,h2,h3,_⟩:=nd_0 hk
 unfold fQ at h1
 unfold iY at h2
 rcases aD x.op with ⟨e,f⟩ | ⟨e,f⟩ | ⟨e,f⟩ | ⟨e,f⟩
 ·refine ⟨1,by unfold szN;rw[if_pos e];rfl,Nat.le_refl _,?_⟩
  rcases f with f | f
  ·refine .pt ?_ fun i=>?_
   ·unfold nV;rw[if_pos f];exact gl_pt hq.ql
   ·unfold nG;rw[if_pos f];exact gl_0
  ·refine .pt ?_ fun i=>?_
   ·unfold nV;rw[if_neg (by omega),if_pos f];exact uU hb (by decide) _
   ·unfold nG;rw[if_neg (by omega),if_pos f];split
    ·exact gl_1
    ·exact gl_0
 ·obtain ⟨s,e1,e2,e3⟩:=bd_at h (a:=x.a) (by omega) (by omega)
  rcases f with f | f
  ·refine ⟨s,by unfold szN;rw[if_neg (by omega),if_pos f];exact e1,e2,?_⟩
   have e4:=e3.neg
   unfold nV nG;simp only[f];exact e4
  ·refine ⟨2*s,by unfold szN;rw[if_neg (by omega),if_neg (by omega),if_pos f,e1];omega,by omega,?_⟩
   have e4:=e3.sq e2
   unfold nV nG;simp only[f];exact e4
 ·obtain ⟨s,e1,e2,e3⟩:=bd_at h (a:=x.a) (by omega) (by omega)
  obtain ⟨r,g1,g2,g3⟩:=bd_at h (a:=x.b) (by omega) (by omega)
  refine ⟨s+r,by unfold szN;rw[if_neg (by omega),if_neg (by omega),if_neg (by omega),e1,g1];omega,by omega,?_⟩
  rcases f with f | f | f | f
  ·have e4:=e3.add e2 g2 g3
   unfold nV nG;simp only[f];exact e4
  ·have e4:=e3.sub e2 g2 g3
   unfold nV nG;simp only[f];exact e4
  ·have e4:=e3.mul e2 g2 g3
   unfold nV nG;simp only[f];exact e4
  ·have e4:=e3.div e2 g2 g3
   unfold nG;unfold nV;simp only[f];exact e4
 ·omega
theorem getD_snoc{α:Type}{l:List α}{x d:α}{j:Nat}:(l++[x]).getD j d=if j<l.length then l.getD j d else if j=l.length then x else d:=by
 rw[List.getD_eq_getElem?_getD,List.getD_eq_getElem?_getD]
 split
 ·rename_i h;rw[List.getElem?_append_left h]
 ·rename_i h
  rw[List.getElem?_append_right (by omega)]
  split
  ·rename_i e;subst e;rw[Nat.sub_self];rfl
  ·rename_i e;rw[List.getElem?_eq_none (by simp;omega)];rfl
structure mW (bx:List R2) (t:List kV):Prop where
 c0:nY ((bx.length:Nat):Int) t=0
 q:∀ x∈t,gW x.n (qP x.n) 8
 b:∀ y∈bx,GL 8 y
 s:∀ k,k<t.length→szN (cR t k) (t.getD k tz)≤200
theorem xB{α:Type}{l:List α}{d:α}{k:Nat}(h:k<l.length):l.getD k d∈l:=by
 rw[List.getD_eq_getElem?_getD,List.getElem?_eq_getElem h];exact List.getElem_mem _
theorem mW.bd{bx:List R2}{t:List kV}(h:mW bx t):∀ {k:Nat},k≤t.length→BdOk (cR t k) (jU bx t k)
 |0,_=>fun j hj=>by simp [jU] at hj
 |k+1,hk=>fun j hj=>by
  have ih:=h.bd (k:=k) (by omega)
  have l1:=nF t k
  have l2:=dP bx t k
  rw[dP] at hj
  have g1:(cR t (k+1)).getD j 0=_:=getD_snoc
  have g2:(jU bx t (k+1)).getD j jz=_:=getD_snoc
  rcases Nat.lt_or_ge j k with hjk | hjk
  ·rw[if_pos (by omega)] at g1 g2
   rw[g1,g2];exact ih j (by omega)
  ·rw[if_neg (by omega),if_pos (by omega)] at g1 g2
   rw[g1,g2]
   obtain ⟨s,e1,e2,e3⟩:=bd_node ((tm_0 h.c0).2.2.2.2 k (by omega)) (l1.trans l2.symm) (h.q _ (xB (by omega))) h.b ih
   exact ⟨s,e1,e2,nJ_get e2 e3⟩
theorem bd_200{s:Nat}(h:s≤200):bV s≤1048576∧bG s≤1048576:=by
 have h2:s*s≤200*200:=Nat.mul_le_mul h h
 unfold bV bG;omega
theorem mW.jok{bx:List R2}{t:List kV}(h:mW bx t){k:Nat}(hk:k<t.length):nQ 1048576 bx.length (nJ bx (jU bx t k) (t.getD k tz)):=by
 obtain ⟨s,e1,e2,e3⟩:=bd_node ((tm_0 h.c0).2.2.2.2 k hk) ((nF t k).trans (dP bx t k).symm) (h.q _ (xB hk)) h.b (h.bd (Nat.le_of_lt hk))
 have e4:=h.s k hk
 obtain ⟨e5,e6⟩:=bd_200 (s:=s) (by omega)
 exact jk_ok (qD e3.1 e5) fun i _=>qD (e3.2 i) e6
theorem mW.upto{bx:List R2}{t:List kV}(h:mW bx t):∀ {k},k≤t.length→∀ y∈jU bx t k,nQ 1048576 bx.length y
 |0,_,y,hy=>by simp [jU] at hy
 |k+1,hk,y,hy=>by
  rw[jU,List.mem_append] at hy
  rcases hy with hy | hy
  ·exact h.upto (by omega) y hy
  ·rw[List.mem_singleton] at hy;subst hy
   exact h.jok (by omega)
def dzB(bx:List R2)(t:List kV)(k:Nat):Bool:=decide ((t.getD k tz).op=5)&&yV (jA (jU bx t k) (t.getD k tz).b).v.1 (jA (jU bx t k) (t.getD k tz).b).v.2
def dzT(bx:List R2)(t:List kV):Bool:=(List.range t.length).any (dzB bx t)
structure FstDz (bx:List R2) (t:List kV) (k:Nat):Prop where
 lt:k<t.length
 no:∀ j,j<k→dzB bx t j=false
 yes:dzB bx t k=true
theorem fst_any{p:Nat→Bool}:∀ {n:Nat},(List.range n).any p=true→∃ k,k<n∧(∀ j,j<k→p j=false)∧p k=true
 |0,h=>by simp at h
 |n+1,h=>by
  cases hn:(List.range n).any p with
  |true=>
   obtain ⟨k,h1,h2,h3⟩:=fst_any hn
   exact ⟨k,by omega,h2,h3⟩
  |false=>
   rw[List.range_succ,List.any_append,hn] at h
   refine ⟨n,by omega,fun j hj=>?_,by simpa using h⟩
   cases hp:p j with
   |false=>rfl
   |true=>rw[List.any_eq_true.2 ⟨j,List.mem_range.2 hj,hp⟩] at hn;cases hn
theorem dz_fst{bx:List R2}{t:List kV}(h:dzT bx t=true):∃ k,FstDz bx t k:=by
 obtain ⟨k,h1,h2,h3⟩:=fst_any h
 exact ⟨k,h1,h2,h3⟩
theorem dz_no{bx:List R2}{t:List kV}(h:dzT bx t=false){k:Nat}(hk:k<t.length):dzB bx t k=false:=by
 cases hp:dzB bx t k with
 |false=>rfl
 |true=>unfold dzT at h;rw[List.any_eq_true.2 ⟨k,List.mem_range.2 hk,hp⟩] at h;cases h
theorem dz_at{bx:List R2}{t:List kV}{k:Nat}(h:dzB bx t k=false)(ho:(t.getD k tz).op=5):yV (jA (jU bx t k) (t.getD k tz).b).v.1 (jA (jU bx t k) (t.getD k tz).b).v.2=false:=by
 unfold dzB at h;rw[decide_eq_true ho,Bool.true_and] at h;exact h
theorem mW.run{bx:List R2}{t:List kV}(h:mW bx t)(hd:dzT bx t=false):JRun bx t:=⟨h.c0,fun k hk=>h.jok hk,fun k hk ho=>dz_at (dz_no hd hk) ho⟩
theorem mW.up{bx:List R2}{t:List kV}(h:mW bx t):∀ x∈t,gW x.n (qP x.n) 1048576:=fun x hx=>jO (h.q x hx) (by decide)
theorem mW.nd{bx:List R2}{t:List kV}(h:mW bx t){k:Nat}(hk:k<t.length)(hd:dzB bx t k=false):fG bx.length (jU bx t k) (t.getD k tz) :=
 nd_ok ((tm_0 h.c0).2.2.2.2 k hk) (nF t k) (h.up _ (xB hk)) (dz_at hd)
def DzOk(L:List JV)(x:kV):Prop:=∃ a b:Nat,x=⟨5,(a:Int),(b:Int),zr⟩∧a<L.length∧b<L.length∧yV (L.getD b jz).v.1 (L.getD b jz).v.2=true
theorem mW.dz{bx:List R2}{t:List kV}(h:mW bx t){k:Nat}(hk:k<t.length)(hd:dzB bx t k=true):DzOk (jU bx t k) (t.getD k tz):=by
 have hc:=(tm_0 h.c0).2.2.2.2 k hk
 obtain ⟨h1,h2,h3,_⟩:=nd_0 hc
 rw[nF] at h2
 have hl:=dP bx t k
 unfold dzB at hd
 rw[Bool.and_eq_true,decide_eq_true_eq] at hd
 generalize t.getD k tz=x at *
 generalize jU bx t k=L at *
 obtain ⟨op,a,b,n⟩:=x
 unfold fQ at h1
 unfold iY at h2
 dsimp only at *
 obtain ⟨e,hz⟩:=hd
 subst e
 have e5:xM 5=2:=rfl
 rw[e5] at h2
 have hu:n=zr:=uns_eq (by
  cases hh:unsB n with
  |true=>rfl
  |false=>exact absurd (Or.inr (Or.inr (Or.inr ⟨by decide,hh⟩))) h1)
 obtain ⟨m,hm⟩:=nat_of (a:=a) (by omega)
 subst hm
 obtain ⟨l,hl'⟩:=nat_of (a:=b) (by omega)
 subst hl'
 subst hu
 refine ⟨m,l,rfl,by omega,by omega,?_⟩
 unfold jA at hz
 rwa [Int.toNat_natCast] at hz
theorem nd_mono{z w:Int}(hw:z≤w){ss:List Int}{x:kV}(h:ndC z ss x=0):ndC w ss x=0:=by
 obtain ⟨h1,h2,h3,h4⟩:=nd_0 h
 exact nd_y h1 h2 (fun h=>h3 (by unfold rngN at *;omega)) (by omega)
theorem tm_mono{z w:Int}(hw:z≤w)(h6:w≤64){t:List kV}(h:nY z t=0):nY w t=0:=by
 obtain ⟨h1,h2,h3,h4,h5⟩:=tm_0 h
 exact (tm_yes (by omega) h3 (by omega) fun i hi=>nd_mono hw (h5 i hi)).1
theorem szU_mem{t:List kV}:∀ {n k:Nat},k<n→szN (cR t k) (t.getD k tz)∈cR t n
 |0,k,h=>by omega
 |n+1,k,h=>by
  rw[cR,List.mem_append]
  rcases Nat.lt_or_ge k n with h1 | h1
  ·exact .inl (szU_mem h1)
  ·obtain rfl:k=n:=by omega
   exact .inr (List.mem_singleton.2 rfl)
def dJ(bx:List R2)(t:List kV)(k:Nat):xL:=if k=t.length then qJ (vZ bx t) else ⟨⟨zr,zr⟩,[],[]⟩
def dC(t:List kV)(k:Nat):Nat:=if k=t.length then 0 else 14
theorem dJ_y(bx:List R2)(t:List kV):dJ bx t t.length=qJ (vZ bx t):=if_pos rfl
theorem dC_y(t:List kV):dC t t.length=0:=if_pos rfl
theorem dJ_n{bx:List R2}{t:List kV}{k:Nat}(h:k<t.length):dJ bx t k=⟨⟨zr,zr⟩,[],[]⟩:=if_neg (by omega)
theorem dC_n{t:List kV}{k:Nat}(h:k<t.length):dC t k=14:=if_neg (by omega)
def StOk(n:Nat)(L:List JV)(x:kV):Prop:=fG n L x∨DzOk L x
theorem StOk.kd{n:Nat}{L:List JV}{x:kV}(h:StOk n L x):xM x.op=0∨xM x.op=1∨xM x.op=2:=by
 rcases h with h | ⟨a,b,rfl,_⟩
 ·cases h<;>first | exact .inl rfl | exact .inr (.inl rfl) | exact .inr (.inr rfl)
 ·exact .inr (.inr rfl)
theorem StOk.a{n:Nat}{L:List JV}{x:kV}(h:StOk n L x)(h1:1≤xM x.op):0≤x.a∧x.a.toNat<L.length:=by
 rcases h with h | ⟨a,b,rfl,ha,_⟩
 ·cases h with
  |c hp=>exact absurd h1 (by show ¬ (1:Int)≤xM 0;decide)
  |v ha=>exact absurd h1 (by show ¬ (1:Int)≤xM 1;decide)
  |add ha hb=>exact ⟨by show 0≤((_:Nat):Int);omega,by show (((_:Nat):Int)).toNat<_;rwa [Int.toNat_natCast]⟩
  |sub ha hb=>exact ⟨by show 0≤((_:Nat):Int);omega,by show (((_:Nat):Int)).toNat<_;rwa [Int.toNat_natCast]⟩
  |mul ha hb=>exact ⟨by show 0≤((_:Nat):Int);omega,by show (((_:Nat):Int)).toNat<_;rwa [Int.toNat_natCast]⟩
  |div ha hb hz=>exact ⟨by show 0≤((_:Nat):Int);omega,by show (((_:Nat):Int)).toNat<_;rwa [Int.toNat_natCast]⟩
  |neg ha=>exact ⟨by show 0≤((_:Nat):Int);omega,by show (((_:Nat):Int)).toNat<_;rwa [Int.toNat_natCast]⟩
  |sq ha=>exact ⟨by show 0≤((_:Nat):Int);omega,by show (((_:Nat):Int)).toNat<_;rwa [Int.toNat_natCast]⟩
 ·exact ⟨by show 0≤((_:Nat):Int);omega,by show (((_:Nat):Int)).toNat<_;rwa [Int.toNat_natCast]⟩
theorem StOk.b{n:Nat}{L:List JV}{x:kV}(h:StOk n L x)(h2:xM x.op=2):0≤x.b∧x.b.toNat<L.length:=by
 rcases h with h | ⟨a,b,rfl,_,hb,_⟩
 ·cases h with
  |c hp=>exact absurd h2 (by show ¬ xM 0=2;decide)
  |v ha=>exact absurd h2 (by show ¬ xM 1=2;decide)
  |add ha hb=>exact ⟨by show 0≤((_:Nat):Int);omega,by show (((_:Nat):Int)).toNat<_;rwa [Int.toNat_natCast]⟩
  |sub ha hb=>exact ⟨by show 0≤((_:Nat):Int);omega,by show (((_:Nat):Int)).toNat<_;rwa [Int.toNat_natCast]⟩
  |mul ha hb=>exact ⟨by show 0≤((_:Nat):Int);omega,by show (((_:Nat):Int)).toNat<_;rwa [Int.toNat_natCast]⟩
  |div ha hb hz=>exact ⟨by show 0≤((_:Nat):Int);omega,by show (((_:Nat):Int)).toNat<_;rwa [Int.toNat_natCast]⟩
  |neg ha=>exact absurd h2 (by show ¬ xM 6=2;decide)
  |sq ha=>exact absurd h2 (by show ¬ xM 7=2;decide)
 ·exact ⟨by show 0≤((_:Nat):Int);omega,by show (((_:Nat):Int)).toNat<_;rwa [Int.toNat_natCast]⟩
theorem fG.op{n:Nat}{L:List JV}{x:kV}(h:fG n L x):x.op=0∨x.op=1∨x.op=2∨x.op=3∨x.op=4∨x.op=5∨x.op=6∨x.op=7:=by
 cases h<;>simp
theorem fG.con{n:Nat}{L:List JV}{x:kV}(h:fG n L x)(e:x.op=0):x.n=jN (qP x.n)∧QL (qP x.n) 1048576:=by
 cases h with
 |c hp=>exact ⟨by rw[gP],by rw[gP];exact hp⟩
 |_=>simp at e
theorem fG.var{n:Nat}{L:List JV}{x:kV}(h:fG n L x)(e:x.op=1):0≤x.a∧x.a.toNat<n:=by
 cases h with
 |v ha=>exact ⟨by show 0≤((_:Nat):Int);omega,by show (((_:Nat):Int)).toNat<_;rwa [Int.toNat_natCast]⟩
 |_=>simp at e
theorem fG.zf{n:Nat}{L:List JV}{x:kV}(h:fG n L x)(e:x.op=5):yV (jA L x.b).v.1 (jA L x.b).v.2=false:=by
 cases h with
 |div ha hb hz=>unfold jA;rw[Int.toNat_natCast];exact hz
 |_=>simp at e
theorem nV_0{bx:List R2}{L:List JV}{x:kV}(h:x.op=0):nV bx L x=yF (qP x.n):=by unfold nV;simp only[h];rfl
theorem nV_1{bx:List R2}{L:List JV}{x:kV}(h:x.op=1):nV bx L x=bx.getD x.a.toNat z2:=by unfold nV;simp only[h];rfl
theorem nV_2{bx:List R2}{L:List JV}{x:kV}(h:x.op=2):nV bx L x=xO (jA L x.a).v (jA L x.b).v:=by unfold nV;simp only[h];rfl
theorem nV_3{bx:List R2}{L:List JV}{x:kV}(h:x.op=3):nV bx L x=uO (jA L x.a).v (jA L x.b).v:=by unfold nV;simp only[h];rfl
theorem nV_4{bx:List R2}{L:List JV}{x:kV}(h:x.op=4):nV bx L x=uF (jA L x.a).v (jA L x.b).v:=by unfold nV;simp only[h];rfl
theorem nV_5{bx:List R2}{L:List JV}{x:kV}(h:x.op=5):nV bx L x=mY (jA L x.a).v (jA L x.b).v:=by unfold nV;simp only[h];rfl
theorem nV_6{bx:List R2}{L:List JV}{x:kV}(h:x.op=6):nV bx L x=gneg (jA L x.a).v:=by rw[← gs0];unfold nV;simp only[h];rfl
theorem nV_7{bx:List R2}{L:List JV}{x:kV}(h:x.op=7):nV bx L x=gsq (jA L x.a).v:=by unfold nV;simp only[h];rfl
theorem nG_0{bx:List R2}{L:List JV}{x:kV}{i:Nat}(h:x.op=0):nG bx L x i=gw 0:=by unfold nG;simp only[h];rfl
theorem nG_1{bx:List R2}{L:List JV}{x:kV}{i:Nat}(h:x.op=1):nG bx L x i=if (i:Int)=x.a then gw 1 else gw 0:=by unfold nG;simp only[h];rfl
theorem nG_2{bx:List R2}{L:List JV}{x:kV}{i:Nat}(h:x.op=2):nG bx L x i=xO ((jA L x.a).g.getD i z2) ((jA L x.b).g.getD i z2):=by unfold nG;simp only[h];rfl
theorem nG_3{bx:List R2}{L:List JV}{x:kV}{i:Nat}(h:x.op=3):nG bx L x i=uO ((jA L x.a).g.getD i z2) ((jA L x.b).g.getD i z2):=by unfold nG;simp only[h];rfl
theorem nG_4{bx:List R2}{L:List JV}{x:kV}{i:Nat}(h:x.op=4):nG bx L x i=xO (uF (jA L x.a).v ((jA L x.b).g.getD i z2)) (uF (jA L x.b).v ((jA L x.a).g.getD i z2)):=by unfold nG;simp only[h];rfl
theorem nG_5{bx:List R2}{L:List JV}{x:kV}{i:Nat}(h:x.op=5):nG bx L x i=mY (uO ((jA L x.a).g.getD i z2) (uF (nV bx L x) ((jA L x.b).g.getD i z2))) (jA L x.b).v:=by unfold nG;simp only[h];rfl
theorem nG_6{bx:List R2}{L:List JV}{x:kV}{i:Nat}(h:x.op=6):nG bx L x i=gneg ((jA L x.a).g.getD i z2):=by rw[← gs0];unfold nG;simp only[h];rfl
theorem nG_7{bx:List R2}{L:List JV}{x:kV}{i:Nat}(h:x.op=7):nG bx L x i=uF (gw 2) (uF (jA L x.a).v ((jA L x.a).g.getD i z2)):=by unfold nG;simp only[h];rfl
theorem DzOk.kd{L:List JV}{x:kV}(h:DzOk L x):xM x.op=2:=by
 obtain ⟨a,b,rfl,_⟩:=h
 rfl
structure DEnd (bx:List R2) (t:List kV) (k0:Nat):Prop where
 c0:nY ((bx.length:Nat):Int) t=0
 le:k0≤t.length
 nd:∀ j,j<k0→fG bx.length (jU bx t j) (t.getD j tz)
 ok:∀ j,j≤k0→∀ y∈jU bx t j,nQ 1048576 bx.length y
 nv:∀ j,j<k0→nQ 1048576 bx.length (nJ bx (jU bx t j) (t.getD j tz))
 dz:k0<t.length→DzOk (jU bx t k0) (t.getD k0 tz)
theorem DEnd.st{bx:List R2}{t:List kV}{k0 k:Nat}(h:DEnd bx t k0)(hk:k≤k0)(hl:k<t.length):StOk bx.length (jU bx t k) (t.getD k tz):=by
 rcases Nat.lt_or_ge k k0 with h1 | h1
 ·exact .inl (h.nd k h1)
 ·obtain rfl:k=k0:=by omega
  exact .inr (h.dz hl)
theorem DEnd.dzk{bx:List R2}{t:List kV}{k0 k:Nat}(h:DEnd bx t k0)(hk:k≤k0)(hl:k<t.length)(h1:¬ k<k0):DzOk (jU bx t k) (t.getD k tz):=by
 obtain rfl:k=k0:=by omega
 exact h.dz hl
theorem DEnd.last{bx:List R2}{t:List kV}(h:DEnd bx t t.length):nQ 1048576 bx.length (vZ bx t):=by
 have h0:=tm_0 h.c0
 have hl:=dP bx t t.length
 refine h.ok t.length (Nat.le_refl _) _ ?_
 unfold vZ
 exact xB (by omega)
theorem mW.dend{bx:List R2}{t:List kV}(h:mW bx t)(hd:dzT bx t=false):DEnd bx t t.length :=
 ⟨h.c0,Nat.le_refl _,fun j hj=>h.nd hj (dz_no hd hj),fun j hj=>h.upto hj,fun j hj=>h.jok hj,fun h1=>absurd h1 (Nat.lt_irrefl _)⟩
theorem mW.dfail{bx:List R2}{t:List kV}(h:mW bx t){k:Nat}(hk:FstDz bx t k):DEnd bx t k :=
 have hl:=hk.lt
 ⟨h.c0,Nat.le_of_lt hl,fun j hj=>h.nd (by omega) (hk.no j hj),fun j hj=>h.upto (by omega),fun j hj=>h.jok (by omega),fun _=>h.dz hl hk.yes⟩
theorem jU_nx{bx:List R2}{t:List kV}{k i:Nat}{o:List xL}{gl:List jV}(ho:o=List.map qJ (jU bx t k))(hg:gl=List.map kC (List.map (nG bx (jU bx t k) (t.getD k tz)) (List.range i)))(hi:i=bx.length) :
  o++[xL.mk (kC (nV bx (jU bx t k) (t.getD k tz))) gl []]=List.map qJ (jU bx t (k+1)):=by
 subst hi
 rw[ho,hg,jU,List.map_append];rfl
theorem nG_gl{bx:List R2}{L:List JV}{x:kV}{N i:Nat}(h:nQ N bx.length (nJ bx L x))(hi:i<bx.length):GL N (nG bx L x i) :=
 h.2.1 _ (List.mem_map.2 ⟨i,List.mem_range.2 hi,rfl⟩)
end Go.Fid
namespace Go.Proofs.YtnajallgoaiahaaGreatDoor
open Go.Fid
theorem ptr_ok{l:List jQ}{n:Nat}(h:vG n l):∀ a∈List.map (fun x=>jV.mk x x) l,GOk n a:=fun a ha=>by
 obtain ⟨x,hx,rfl⟩:=List.mem_map.1 ha
 exact ⟨h.1 x hx,h.1 x hx⟩
theorem validG_pp(x:jQ):uK ⟨x,x⟩=kR x:=by
 unfold uK
 rw[decide_eq_true Rat.le_refl,Bool.and_true,Bool.and_self]
theorem ptr_all(l:List jQ):(List.map (fun x=>jV.mk x x) l).all uK=gC l:=by
 unfold gC
 induction l with
 |nil=>rfl
 |cons x l ih=>rw[List.map_cons,List.all_cons,List.all_cons,ih,validG_pp]
end Go.Proofs.YtnajallgoaiahaaGreatDoor
namespace Go.Proofs.YtnajallgoaiahaaGreatDoor
open Go.Fid
theorem f_stepD(a:Nat)(b:Nat)(bv:List jV)(n:Nat)(L:List JV)(hn:n≤64)(hL:L.length≤1000)(hLk:∀ x∈L,nQ 1048576 n x)(ha:a<L.length)(hb:b<L.length)(hz:yV (L.getD b jz).v.1 (L.getD b jz).v.2=true):xH Tryz.prog 126 [(.ref 0 0),(.d (kM (kV.mk 5 ((a:Nat):Int) ((b:Nat):Int) kZ))),(vl 61 8 jF bv)] [(0,some (xP n 1 L false)),(1,some (xY L))] (.d (.tup [])) [(0,some (xP n 12 (L++[(jk (gw 0) (fun _=>gw 0) n)]) true)),(12,some (xY (L++[(jk (gw 0) (fun _=>gw 0) n)])))]:=by
 have hu:nQ 1048576 n (L.getD a jz):=cT hLk ha
 have hv:nQ 1048576 n (L.getD b jz):=cT hLk hb
 let y2:=(kM (kV.mk 5 ((a:Nat):Int) ((b:Nat):Int) kZ))
 let y1:=(jV.mk kZ kZ)
 refine nN Tryz.func126 rfl cb126 rfl ?_
 show qG _ _ _ _ ⟨[(0,(.ref 0 0)),(1,(.d y2)),(2,(vl 61 8 jF bv))],[(0,some (xP n 1 L false)),(1,some (xY L))]⟩
 refine jB<|kx [(3,(.ref 2 0)),(4,(.ref 3 0)),(5,(.ref 4 0))] [(2,some [(.ref 0 0)]),(3,some (bx y2)),(4,some (bx (.sl 61 8 (List.map jF bv))))] (zH (oBy 2)<|zH (vA 3)<|zH (vA 4)<|zZ) ?_
 refine jB<|pwp_fix 2 (k:=0) (o:=0) (h:=fun b0=>?_)
 refine kS (wk (l:=[(0,(.ref 0 0)),(3,(.ref 2 0)),(4,(.ref 3 0)),(5,(.ref 4 0))]) (b:=[(0,some (xP n 1 L false)),(1,some (xY L)),(2,some [(.refx 0 0 b0)]),(3,some (bx y2)),(4,some (bx (.sl 61 8 (List.map jF bv))))])) ?_
 refine kx [(6,(.ref 5 0))] [(5,some (bx (jF (kC (gw 0)))))] (zE (jY (j_whole ((0:Nat):Int) (by omega) (by omega)))<|zH (qV 5 qO qS)<|zT (qA jW)<|zZ) ?_
 refine jB<|kx [(7,(.clo 181 [5]))] [] (zE (oMf [5])<|zM<|zZ) ?_
 refine jB<|kx [(8,(.ref 6 0)),(9,(.ref 7 0))] [(6,some (bx (jL (xL.mk y1 [] [])))),(7,some (bx (jL (xL.mk y1 [] []))))] (zH (qV 6 cZ fK)<|zH (qV 7 cZ fK)<|zZ) ?_
 refine jB<|kx [(10,(jP 2))] [] (zE (kY yW)<|zR (uM fC)<|zE (oQd (.val (.int .i64 ((xM 5)))) (.val (.int .i64 (((2:Nat):Int)))) (jY (j_kids 5)) (by exact rfl))<|zM<|zZ) ?_
 refine jB<|jB<|kx [(19,(vb true))] [] (zM<|zE (vW true mL)<|zZ) ?_
 refine uY ?_
 refine kd [] [(6,some (bx (jL (qJ (L.getD a jz)))))] mo (wR (oLx eT)<|wE oNc<|wE (kY cM)<|wR (uM sh143)<|wE (kY gK)<|wR (uM cH)<|wE (oXO dR a (hj:=by first | omega | rfl | (simp only[List.length_map];omega) | (dsimp only;omega)) (h1:=by first | omega | rfl | (simp only[List.length_map];omega) | (dsimp only;omega)))<|wR (oQr (jL ((List.map qJ L).getD a (xL.mk y1 [] []))) (jL (qJ (L.getD a jz))) (oLA nL a (xL.mk y1 [] []) (h1:=by first | omega | rfl | (simp only[List.length_map];omega) | (dsimp only;omega))) (by exact (congrArg jL (bR qJ L jz _ (by omega)))))<|wT (qA nL)<|wZ) ?_
 refine jB<|jB<|kx [(29,(vb true))] [] (zM<|zE (vW true mL)<|zZ) ?_
 refine uY ?_
 refine kd [] [(7,some (bx (jL (qJ (L.getD b jz)))))] mo (wR (oLx eT)<|wE oNc<|wE (kY cM)<|wR (uM sh143)<|wE (kY mK)<|wR (uM cH)<|wE (oXO dR b (hj:=by first | omega | rfl | (simp only[List.length_map];omega) | (dsimp only;omega)) (h1:=by first | omega | rfl | (simp only[List.length_map];omega) | (dsimp only;omega)))<|wR (oQr (jL ((List.map qJ L).getD b (xL.mk y1 [] []))) (jL (qJ (L.getD b jz))) (oLA nL b (xL.mk y1 [] []) (h1:=by first | omega | rfl | (simp only[List.length_map];omega) | (dsimp only;omega))) (by exact (congrArg jL (bR qJ L jz _ (by omega)))))<|wT (qA nL)<|wZ) ?_
 refine jB<|kx [(11,(.clo 183 [2,6,7]))] [] (zE (oMf [2,6,7])<|zM<|zZ) ?_
 refine jB<|kx [(40,(vi 5))] [] (zE (kY yW)<|zR (uM fC)<|zZ) ?_
 refine jH<|jB<|kx [(46,(vb false))] [] (zE (vW false xR)<|zM<|zZ) ?_
 refine kU ?_
 refine jB<|kx [(53,(vb false))] [] (zE (vW false xR)<|zM<|zZ) ?_
 refine kU ?_
 refine jB<|kx [(60,(vb false))] [] (zE (vW false xR)<|zM<|zZ) ?_
 refine kU ?_
 refine jB<|kx [(64,(vb false))] [] (zE (vW false xR)<|zM<|zZ) ?_
 refine kU ?_
 refine jB<|kS (wk (l:=[(0,(.ref 0 0)),(3,(.ref 2 0)),(6,(.ref 5 0)),(8,(.ref 6 0)),(9,(.ref 7 0)),(11,(.clo 183 [2,6,7])),(40,(vi 5)),(64,(vb false))]) (b:=[(0,some (xP n 1 L false)),(1,some (xY L)),(2,some [(.refx 0 0 b0)]),(5,some (bx (jF (kC (gw 0))))),(6,some (bx (jL (qJ (L.getD a jz))))),(7,some (bx (jL (qJ (L.getD b jz)))))])) ?_
 refine kx [(68,(vb false))] [] (zE (vW false xR)<|zM<|zZ) ?_
 refine kU ?_
 refine jB<|kx [(74,(vb false))] [] (zE (vW false xR)<|zM<|zZ) ?_
 refine kU ?_
 refine jB<|kx [(81,(vb false))] [] (zE (vW false xR)<|zM<|zZ) ?_
 refine kU ?_
 refine kf [] [(0,some (xP n 12 (L++[jk (gw 0) (fun _=>gw 0) n]) true)),(12,some (xY (L++[jk (gw 0) (fun _=>gw 0) n]))),(1,none),(10,none),(11,none),(2,none),(6,none),(7,none),(8,none),(9,none)] (zR (oLx eT)<|zE (oMf [2,6,7])<|zE (oMf [2,6,7])<|zE (oMf [6,7,2])<|zSe (B2:=[(0,some (xP n 1 L false)),(1,some (xY L)),(2,some [(.refx 0 0 b0)]),(6,some (bx (jL (qJ (L.getD a jz))))),(7,some (bx (jL (qJ (L.getD b jz)))))]) (B2':=[(0,some (xP n 12 (L++[jk (gw 0) (fun _=>gw 0) n]) true)),(12,some (xY (L++[jk (gw 0) (fun _=>gw 0) n])))]) [0,1,2,6,7,8,9,10,11,12] [0,2,6,7] (f_nodeD n L b0 (L.getD a jz) hu (L.getD b jz) hv hn hL hz)<|zF) ?_
 refine ⟨yO (by kernel_rfl),gN (by kernel_rfl),.inl ⟨_,.nil,?_⟩⟩
 rfl
theorem hF12(n:Nat)(L:List JV):([(0,some [(jP n),(jP 1),(vi (-1)),(.own 18 95 10 ((List.map qJ (L)).length)),(vb true)]),(18,some (yG jL (List.map qJ (L))))]:BS).map (fun e=>(e.1,e.2.map fun c=>c.map (SV.ren (xn 12 18))))=([(0,some [(jP n),(jP 1),(vi (-1)),(.own 12 95 10 ((List.map qJ (L)).length)),(vb true)]),(12,some (yG jL (List.map qJ (L))))]:BS).map (fun e=>(xn 12 18 e.1,e.2)):=by
 simp only[List.map_cons,List.map_nil,Option.map_some,yG,ren_dat]
 rfl
def StepFail(bv:List R2)(L:List JV)(x:kV):Prop:=xH Tryz.prog 126 [(.ref 0 0),(.d (kM x)),(vl 61 8 jF (List.map kC bv))] [(0,some (xP bv.length 1 (L) false)),(1,some (xY (L)))] (.d (.tup [])) [(0,some (xP bv.length 18 (L++[(jk (gw 0) (fun _=>gw 0) bv.length)]) true)),(18,some (xY (L++[(jk (gw 0) (fun _=>gw 0) bv.length)])))]
theorem f_step(x:kV)(bv:List R2)(hbx:∀ x∈bv,GL 1048576 x)(L:List JV)(hst:StepFail bv L x):xH Tryz.prog 126 [(.ref 0 0),(.d (kM x)),(vl 61 8 jF (List.map kC bv))] [(0,some (xP bv.length 1 (L) false)),(1,some (xY (L)))] (.d (.tup [])) [(0,some (xP bv.length 18 (L++[(jk (gw 0) (fun _=>gw 0) bv.length)]) true)),(18,some (xY (L++[(jk (gw 0) (fun _=>gw 0) bv.length)])))]:=hst
structure JFailP (bv:List R2) (t:List kV) (k:Nat):Prop where
 c0:nY ((bv.length:Nat):Int) t=0
 lt:k<t.length
 st:∀ j,j<k→StepAt bv (jU bv t j) (t.getD j tz)
 fl:StepFail bv (jU bv t k) (t.getD k tz)
theorem e_stepF0(x:kV)(bv:List R2)(L:List JV)(hn:bv.length≤64)(hL:L.length≤1000)(hLk:∀ y∈L,nQ 1048576 bv.length y)(hx:DzOk L x):StepFail bv L x:=by
 obtain ⟨a,b,rfl,ha,hb,hz⟩:=hx
 exact takesS_ren 12 18 (f_stepD _ _ (List.map kC bv) bv.length L hn hL hLk ha hb hz) (hF12 _ _) rfl (by kernel_rfl)
theorem fail_p{bv:List R2}{t:List kV}{k:Nat}(h:mW bv t)(hk:FstDz bv t k):JFailP bv t k:=by
 have h0:=tm_0 h.c0
 have hbx:∀ y∈bv,GL 1048576 y:=fun y hy=>qD (h.b y hy) (by decide)
 have hk1:=hk.lt
 refine ⟨h.c0,hk.lt,fun j hj=>?_,?_⟩
 ·have hl:=dP bv t j
  exact e_stepN0 _ bv hbx _ (by omega) (by omega) (h.upto (by omega)) (h.nd (by omega) (hk.no j hj))
 ·have hl:=dP bv t k
  exact e_stepF0 _ bv _ (by omega) (by omega) (h.upto (by omega)) (h.dz hk.lt hk.yes)
theorem tame_run{bv:List R2}{t:List kV}(h:mW bv t)(hd:dzT bv t=false):JRunP bv t:=run_p (fun y hy=>qD (h.b y hy) (by decide)) h.up (h.run hd)
end Go.Proofs.YtnajallgoaiahaaGreatDoor
