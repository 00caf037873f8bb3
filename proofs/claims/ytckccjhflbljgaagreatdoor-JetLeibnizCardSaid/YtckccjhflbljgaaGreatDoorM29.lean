/- Part 29 of a proof: rules, plain facts, and functions walked. -/
import Derived.Test.YtckccjhflbljgaaGreatDoorM28
set_option linter.all false
set_option maxRecDepth 4000
namespace Go.Proofs.YtckccjhflbljgaaGreatDoor
open Go.Fid
theorem by42:zG Tryz.prog 42=some 128:=by kernel_rfl
theorem by46:zG Tryz.prog 46=some 176:=by kernel_rfl
theorem cb123:callB Tryz.prog 123=true:=by kernel_rfl
theorem el88:uM Tryz.prog 88=some (46,10):=by kernel_rfl
theorem fo113_0:uU Tryz.prog 113 0=some 0:=by kernel_rfl
theorem fo113_1:uU Tryz.prog 113 1=some 1:=by kernel_rfl
theorem fo113_3:uU Tryz.prog 113 3=some 3:=by kernel_rfl
theorem pl46:eF Tryz.prog 46=some [(0,8),(8,1),(9,1)]:=by kernel_rfl
theorem sh46:qD Tryz.prog 46=some (true,10):=by kernel_rfl
theorem sh88:qD Tryz.prog 88=some (false,1):=by kernel_rfl
theorem ze46:vX Tryz.prog 46=some [.bool false,.slice none 0 0,.bool false,.slice none 0 0,.bool false,.slice none 0 0,.bool false,.slice none 0 0,.slice none 0 0,.slice none 0 0]:=by kernel_rfl
theorem zn46:eL [.bool false,.slice none 0 0,.bool false,.slice none 0 0,.bool false,.slice none 0 0,.bool false,.slice none 0 0,.slice none 0 0,.slice none 0 0] [.val (.bool false),.val (.slice none 0 0),.val (.bool false),.val (.slice none 0 0),.val (.bool false),.val (.slice none 0 0),.val (.bool false),.val (.slice none 0 0),.val (.slice none 0 0),.val (.slice none 0 0)]:=by simp [eL,Value.oneCell']
theorem zo46:eL [.bool false,.slice none 0 0,.bool false,.slice none 0 0,.bool false,.slice none 0 0,.bool false,.slice none 0 0,.slice none 0 0,.slice none 0 0] [.val (.bool false),.sl 107 1 [],.val (.bool false),.sl 107 1 [],.val (.bool false),.sl 107 1 [],.val (.bool false),.sl 107 1 [],.sl 42 8 [],.sl 43 1 []]:=by simp [eL,Value.oneCell']
structure NKD where
 c1:SV
 c2:SV
 c3:SV
 X:BS
 v:R2
 g:Nat->R2
 k:List Nat
 b:List bY
inductive NK (n:Nat) (L:List JV):Type
 |C (p:Rat) (hp:QL p 1048576) (zz:R2) (hzz:GL 3 zz):NK n L
 |V (bv:List R2) (hbx:∀ x∈bv,GL 1048576 x) (a:Nat) (zz:R2) (hzz:GL 3 zz) (ha:a<bv.length) (hbl:bv.length<=1000000):NK n L
 |A (u:JV) (hu:cF 1048576 n u) (v:JV) (hv:cF 1048576 n v):NK n L
 |S (u:JV) (hu:cF 1048576 n u) (v:JV) (hv:cF 1048576 n v):NK n L
 |N (u:JV) (hu:cF 1048576 n u) (v:JV) (hv:cF 1048576 n v):NK n L
 |M (u:JV) (hu:cF 1048576 n u) (v:JV) (hv:cF 1048576 n v):NK n L
 |Q (u:JV) (hu:cF 1048576 n u) (tt:R2) (htt:GL 3 tt):NK n L
 |D (bb:Nat) (u:JV) (hu:cF 1048576 n u) (v:JV) (hv:cF 1048576 n v) (hz:mW v.v.1 v.v.2=false):NK n L
def NK.d{n:Nat}{L:List JV}:NK n L->NKD
 |.C p hp zz hzz=>⟨(.clo 127 [2]),(.clo 128 [3]),(.clo 121 [3]),[(2,some (bx (jK (jO.mk 0 0 0 (jM p))))),(3,some (bx (jN (qI zz))))],(gpt p),(fun i=>zz),[2],[(3,(bx (jN (qI zz))),(jS.cells (jN (qI zz))))]⟩
 |.V bv hbx a zz hzz ha hbl=>⟨(.clo 129 [2,3]),(.clo 130 [3,4]),(.clo 121 [4]),[(2,some (bx (.sl 42 8 (List.map jN (List.map qI bv))))),(3,some (bx (jK (jO.mk 1 ((a:Nat):Int) 0 uG)))),(4,some (bx (jN (qI zz))))],(bv.getD a z2),(fun i=>(if ((i:Nat):Int)=((a:Nat):Int) then gw 1 else zz)),[2,3],[(4,(bx (jN (qI zz))),(jS.cells (jN (qI zz)))),(3,(bx (jK (jO.mk 1 ((a:Nat):Int) 0 uG))),(jS.cells (jK (jO.mk 1 ((a:Nat):Int) 0 uG))))]⟩
 |.A u hu v hv=>⟨(.clo 124 [2,3,4]),(.clo 125 [2,3,4]),(.clo 126 [2,3,4]),[(2,some (bx (.val (.func (.func 131) #[] #[])))),(3,some (bx (jP (uW u)))),(4,some (bx (jP (uW v))))],(gR u.v v.v),(fun i=>(gR (u.g.getD i z2) (v.g.getD i z2))),[2,3,4],[(4,(bx (jP (uW v))),(jS.cells (jP (uW v)))),(3,(bx (jP (uW u))),(jS.cells (jP (uW u)))),(2,(bx (.val (.func (.func 131) #[] #[]))),(jS.cells (.val (.func (.func 131) #[] #[]))))]⟩
 |.S u hu v hv=>⟨(.clo 124 [2,3,4]),(.clo 125 [2,3,4]),(.clo 126 [2,3,4]),[(2,some (bx (.val (.func (.func 132) #[] #[])))),(3,some (bx (jP (uW u)))),(4,some (bx (jP (uW v))))],(uP u.v v.v),(fun i=>(uP (u.g.getD i z2) (v.g.getD i z2))),[2,3,4],[(4,(bx (jP (uW v))),(jS.cells (jP (uW v)))),(3,(bx (jP (uW u))),(jS.cells (jP (uW u)))),(2,(bx (.val (.func (.func 132) #[] #[]))),(jS.cells (.val (.func (.func 132) #[] #[]))))]⟩
 |.N u hu v hv=>⟨(.clo 124 [2,3,4]),(.clo 125 [2,3,4]),(.clo 126 [2,3,4]),[(2,some [(.clo 133 [5])]),(3,some (bx (jP (uW u)))),(4,some (bx (jP (uW v)))),(5,some (bx (jN (qI (gw 0)))))],(uP (gw 0) u.v),(fun i=>(uP (gw 0) (u.g.getD i z2))),[4,3,2,5],[(4,(bx (jP (uW v))),(jS.cells (jP (uW v)))),(3,(bx (jP (uW u))),(jS.cells (jP (uW u)))),(2,[(.clo 133 [5])],[(.clo 133 [(.cptr 1000000 (jS.cells (jN (qI (gw 0)))) 0)])]),(5,(bx (jN (qI (gw 0)))),(jS.cells (jN (qI (gw 0)))))]⟩
 |.M u hu v hv=>⟨(.clo 134 [2,3]),(.clo 136 [2,3]),(.clo 137 [2,3]),[(2,some (bx (jP (uW u)))),(3,some (bx (jP (uW v))))],(xE u.v v.v),(fun i=>(gR (xE u.v (v.g.getD i z2)) (xE v.v (u.g.getD i z2)))),[2,3],[(3,(bx (jP (uW v))),(jS.cells (jP (uW v)))),(2,(bx (jP (uW u))),(jS.cells (jP (uW u))))]⟩
 |.Q u hu tt htt=>⟨(.clo 138 [2]),(.clo 140 [3,2]),(.clo 141 [2,3]),[(2,some (bx (jP (uW u)))),(3,some (bx (jN (qI tt))))],(gsq u.v),(fun i=>(xE tt (xE u.v (u.g.getD i z2)))),[2],[(2,(bx (jP (uW u))),(jS.cells (jP (uW u)))),(3,(bx (jN (qI tt))),(jS.cells (jN (qI tt))))]⟩
 |.D bb u hu v hv hz=>⟨(.clo 142 [2,3,4]),(.clo 144 [2,3,4]),(.clo 145 [3,4,2]),[(2,some [(.refx 0 0 bb)]),(3,some (bx (jP (uW u)))),(4,some (bx (jP (uW v))))],(eN u.v v.v),(fun i=>(eN (uP (u.g.getD i z2) (xE (eN u.v v.v) (v.g.getD i z2))) v.v)),[4,3,2,0,1],[(4,(bx (jP (uW v))),(jS.cells (jP (uW v)))),(3,(bx (jP (uW u))),(jS.cells (jP (uW u)))),(2,[(.refx 0 0 bb)],[(.cptr 1000000 (jS.cells (mcA n (.sl 1000000 10 (List.map jP (List.map uW L))) false)) 0)]),(0,(gK n 1 L false),(jS.cells (mcA n (.sl 1000000 10 (List.map jP (List.map uW L))) false))),(1,(gM L),(qA (List.map jP (List.map uW L))))]⟩
theorem NK.hv{n:Nat}{L:List JV}(K:NK n L):GL 67108864 K.d.v:=match K with
 |.C p hp zz hzz=>(uH (gl_pt hp))
 |.V bv hbx a zz hzz ha hbl=>(uH (yD hbx (by decide) a))
 |.A u hu v hv=>(uH (gl_add (k:=2097153) hu.1 hv.1))
 |.S u hu v hv=>(uH (lR (k:=2097153) hu.1 hv.1))
 |.N u hu v hv=>(uH (lR (k:=1048580) (gl_w (z:=0) (by omega) (by omega)) hu.1))
 |.M u hu v hv=>(uH (nZ (k:=2097152) hu.1 hv.1))
 |.Q u hu tt htt=>(uH (gl_sq (k:=2097152) hu.1 (by decide)))
 |.D bb u hu v hv hz=>(uH (gl_div (k:=2097152) hu.1 hv.1))
theorem NK.hg{n:Nat}{L:List JV}(K:NK n L)(i:Nat)(hi:i<n):GL 67108864 (K.d.g i):=match K with
 |.C p hp zz hzz=>(uH hzz)
 |.V bv hbx a zz hzz ha hbl=>(uH (gl_ite (gl_w (z:=1) (by omega) (by omega)) hzz))
 |.A u hu v hv=>(uH (gl_add (k:=2097153) (yD hu.2.1 (by decide) i) (yD hv.2.1 (by decide) i)))
 |.S u hu v hv=>(uH (lR (k:=2097153) (yD hu.2.1 (by decide) i) (yD hv.2.1 (by decide) i)))
 |.N u hu v hv=>(uH (lR (k:=1048580) (gl_w (z:=0) (by omega) (by omega)) (yD hu.2.1 (by decide) i)))
 |.M u hu v hv=>(uH (gl_add (k:=4194305) (nZ (k:=2097152) hu.1 (yD hv.2.1 (by decide) i)) (nZ (k:=2097152) hv.1 (yD hu.2.1 (by decide) i))))
 |.Q u hu tt htt=>(uH (nZ (k:=2097155) htt (nZ (k:=2097152) hu.1 (yD hu.2.1 (by decide) i))))
 |.D bb u hu v hv hz=>(uH (gl_div (k:=5242881) (lR (k:=4194305) (yD hu.2.1 (by decide) i) (nZ (k:=3145728) (gl_div (k:=2097152) hu.1 hv.1) (yD hv.2.1 (by decide) i))) hv.1))
theorem nk_v{n:Nat}{L:List JV}(K:NK n L){o:Oper}{S:SL}{B:BS}{y:Operand}{ats:Array TypeId}(ho:o.op=.call { callee:=.value y,args:=#[],argTypes:=ats })(hy:ev (jZ S) y=K.d.c1)(hb:K.d.k.map (fun k=>kA B k)=K.d.k.map (fun k=>kA ([(0,some (gK n 1 L false)),(1,some (gM L))]++K.d.X) k)):RKs Tryz.prog o S B K.d.k (.d (jN (qI K.d.v))):=match K with
 |.C p hp zz hzz=>oCc (ds:=[]) [2] [(jS.cells (jK (jO.mk 0 0 0 (jM p))))] (j_vC p hp) (zB (by decide) _) (ho:=ho) (hy:=hy) (hx:=rfl) (qK:=rfl) (hb:=hb)
 |.V bv hbx a zz hzz ha hbl=>oCc (ds:=[]) [2,3] [(jS.cells (.sl 42 8 (List.map jN (List.map qI bv)))),(jS.cells (jK (jO.mk 1 ((a:Nat):Int) 0 uG)))] (j_vV bv hbx a ha hbl) (zB (by decide) _) (ho:=ho) (hy:=hy) (hx:=rfl) (qK:=rfl) (hb:=hb)
 |.A u hu v hv=>oCc (ds:=[]) [2,3,4] [(jS.cells (.val (.func (.func 131) #[] #[]))),(jS.cells (jP (uW u))),(jS.cells (jP (uW v)))] (j_vAdd n u hu v hv) (zB (by decide) _) (ho:=ho) (hy:=hy) (hx:=rfl) (qK:=rfl) (hb:=hb)
 |.S u hu v hv=>oCc (ds:=[]) [2,3,4] [(jS.cells (.val (.func (.func 132) #[] #[]))),(jS.cells (jP (uW u))),(jS.cells (jP (uW v)))] (j_vSub n u hu v hv) (zB (by decide) _) (ho:=ho) (hy:=hy) (hx:=rfl) (qK:=rfl) (hb:=hb)
 |.N u hu v hv=>oCh [(4,(bx (jP (uW v))),(jS.cells (jP (uW v)))),(3,(bx (jP (uW u))),(jS.cells (jP (uW u)))),(2,[(.clo 133 [5])],[(.clo 133 [(.cptr 1000000 (jS.cells (jN (qI (gw 0)))) 0)])]),(5,(bx (jN (qI (gw 0)))),(jS.cells (jN (qI (gw 0)))))] [.ref 2 0,.ref 3 0,.ref 4 0] (j_vNeg n u hu v hv) (.cons (.r (.tail _ (.tail _ (.head _)))) (.cons (.r (.tail _ (.head _))) (.cons (.r (.head _)) .nil))) (.cons (.all rfl) (.cons (.all rfl) (.cons (.cons (.f (css:=[(jS.cells (jN (qI (gw 0))))]) (.cons (.head _) .nil)) .nil) (.cons (.all rfl) .nil)))) (zB (by decide) _) (ex:=[.ref 2 0,.ref 3 0,.ref 4 0]) (xs:=[]) (ho:=ho) (hy:=.clo (kk:=[2,3,4]) hy rfl) (hx:=rfl) (hb:=hb)
 |.M u hu v hv=>oCc (ds:=[]) [2,3] [(jS.cells (jP (uW u))),(jS.cells (jP (uW v)))] (j_vM n u hu v hv) (zB (by decide) _) (ho:=ho) (hy:=hy) (hx:=rfl) (qK:=rfl) (hb:=hb)
 |.Q u hu tt htt=>oCc (ds:=[]) [2] [(jS.cells (jP (uW u)))] (j_vQ n u hu) (zB (by decide) _) (ho:=ho) (hy:=hy) (hx:=rfl) (qK:=rfl) (hb:=hb)
 |.D bb u hu v hv hz=>oCh [(4,(bx (jP (uW v))),(jS.cells (jP (uW v)))),(3,(bx (jP (uW u))),(jS.cells (jP (uW u)))),(2,[(.refx 0 0 bb)],[(.cptr 1000000 (jS.cells (mcA n (.sl 1000000 10 (List.map jP (List.map uW L))) false)) 0)]),(0,(gK n 1 L false),(jS.cells (mcA n (.sl 1000000 10 (List.map jP (List.map uW L))) false))),(1,(gM L),(qA (List.map jP (List.map uW L))))] [.ref 2 0,.ref 3 0,.ref 4 0] (j_vD n (.sl 1000000 10 (List.map jP (List.map uW L))) u hu v hv hz) (.cons (.r (.tail _ (.tail _ (.head _)))) (.cons (.r (.tail _ (.head _))) (.cons (.r (.head _)) .nil))) (.cons (.all rfl) (.cons (.all rfl) (.cons (.cons (.x (.head _)) .nil) (.cons (.cons .d (.cons .d (.cons .d (.cons (see_own (F:=jP) (L:=(List.map uW L)) (.head _) (fun _=>rfl) rfl) (.cons .d .nil))))) (.cons (.all (by exact rfl)) .nil))))) (zB (by decide) _) (ex:=[.ref 2 0,.ref 3 0,.ref 4 0]) (xs:=[]) (ho:=ho) (hy:=.clo (kk:=[2,3,4]) hy rfl) (hx:=rfl) (hb:=hb)
def nk_bl{n:Nat}{L:List JV}(K:NK n L)(gl:List kK):List bY:=K.d.b++[(6,(bx (jN (qI K.d.v))++[(.own 7 42 8 gl.length),(.own 8 43 1 0)]),(jS.cells (.agg (jS.cells (jN (qI K.d.v))++[(.sl 1000000 8 (List.map jN gl)),(.sl 1000000 1 (List.map zL []))])))),(8,(bm zL []),(qA (List.map zL []))),(7,(uK jN gl),(qA (List.map jN gl)))]
theorem nk_vb(v:R2)(gl:List kK):VBlks 1000000 [(6,(bx (jN (qI v))++[(.own 7 42 8 gl.length),(.own 8 43 1 0)]),(jS.cells (.agg (jS.cells (jN (qI v))++[(.sl 1000000 8 (List.map jN gl)),(.sl 1000000 1 (List.map zL []))])))),(8,(bm zL []),(qA (List.map zL []))),(7,(uK jN gl),(qA (List.map jN gl)))]:=(.cons (.cons .d (.cons .d (.cons .d (.cons .d (.cons .d (.cons .d (.cons .d (.cons .d (.cons (see_own (F:=jN) (L:=gl) (.tail _ (.head _)) (fun _=>rfl) rfl) (.cons (see_own (F:=zL) (L:=[]) (.head _) (fun _=>rfl) rfl) .nil)))))))))) (.cons (sees_bm (fun _=>rfl)) (.cons (.all (by exact rfl)) .nil)))
theorem nk_g{n:Nat}{L:List JV}(K:NK n L){i:Nat}(hi:i<n)(gl:List kK){o:Oper}{S:SL}{B:BS}{y:Operand}{xs:List Operand}{ats:Array TypeId}(ho:o.op=.call { callee:=.value y,args:=xs.toArray,argTypes:=ats })(hy:ev (jZ S) y=K.d.c2)(hx:xs.map (ev (jZ S))=[.ref 6 0,kF i])(hb:(nk_bl K gl).map (fun p=>kA B p.1)=(nk_bl K gl).map (fun p=>some p.2.1)):RKs Tryz.prog o S B (K.d.b.map (·.1)++[6,8,7]) (.d (jN (qI (K.d.g i)))):=match K with
 |.C p hp zz hzz=>oCh (nk_bl (.C p hp zz hzz) gl) [(.ref 6 0),(kF i),.ref 3 0] (j_gC _ i zz hzz) (.cons (.r (.tail _ (.head _))) (.cons .d (.cons (.r (.head _)) .nil))) (.cons (.all rfl) (nk_vb _ gl)) (zB (by decide) _) (ex:=[.ref 3 0]) (ho:=ho) (hy:=.clo (kk:=[3]) hy rfl) (hx:=by rw[hx];rfl) (hb:=hb)
 |.V bv hbx a zz hzz ha hbl=>oCh (nk_bl (.V bv hbx a zz hzz ha hbl) gl) [(.ref 6 0),(kF i),.ref 3 0,.ref 4 0] (j_gV _ i a zz hzz) (.cons (.r (.tail _ (.tail _ (.head _)))) (.cons .d (.cons (.r (.tail _ (.head _))) (.cons (.r (.head _)) .nil)))) (.cons (.all rfl) (.cons (.all rfl) (nk_vb _ gl))) (zB (by decide) _) (ex:=[.ref 3 0,.ref 4 0]) (ho:=ho) (hy:=.clo (kk:=[3,4]) hy rfl) (hx:=by rw[hx];rfl) (hb:=hb)
 |.A u hu v hv=>oCh (nk_bl (.A u hu v hv) gl) [(.ref 6 0),(kF i),.ref 2 0,.ref 3 0,.ref 4 0] (j_gAdd _ i n u hu v hv (by omega)) (.cons (.r (.tail _ (.tail _ (.tail _ (.head _))))) (.cons .d (.cons (.r (.tail _ (.tail _ (.head _)))) (.cons (.r (.tail _ (.head _))) (.cons (.r (.head _)) .nil))))) (.cons (.all rfl) (.cons (.all rfl) (.cons (.all rfl) (nk_vb _ gl)))) (zB (by decide) _) (ex:=[.ref 2 0,.ref 3 0,.ref 4 0]) (ho:=ho) (hy:=.clo (kk:=[2,3,4]) hy rfl) (hx:=by rw[hx];rfl) (hb:=hb)
 |.S u hu v hv=>oCh (nk_bl (.S u hu v hv) gl) [(.ref 6 0),(kF i),.ref 2 0,.ref 3 0,.ref 4 0] (j_gSub _ i n u hu v hv (by omega)) (.cons (.r (.tail _ (.tail _ (.tail _ (.head _))))) (.cons .d (.cons (.r (.tail _ (.tail _ (.head _)))) (.cons (.r (.tail _ (.head _))) (.cons (.r (.head _)) .nil))))) (.cons (.all rfl) (.cons (.all rfl) (.cons (.all rfl) (nk_vb _ gl)))) (zB (by decide) _) (ex:=[.ref 2 0,.ref 3 0,.ref 4 0]) (ho:=ho) (hy:=.clo (kk:=[2,3,4]) hy rfl) (hx:=by rw[hx];rfl) (hb:=hb)
 |.N u hu v hv=>oCh (nk_bl (.N u hu v hv) gl) [(.ref 6 0),(kF i),.ref 2 0,.ref 3 0,.ref 4 0] (j_gNeg _ i n u hu v hv (by omega)) (.cons (.r (.tail _ (.tail _ (.tail _ (.tail _ (.head _)))))) (.cons .d (.cons (.r (.tail _ (.tail _ (.head _)))) (.cons (.r (.tail _ (.head _))) (.cons (.r (.head _)) .nil))))) (.cons (.all rfl) (.cons (.all rfl) (.cons (.cons (.f (css:=[(jS.cells (jN (qI (gw 0))))]) (.cons (.head _) .nil)) .nil) (.cons (.all rfl) (nk_vb _ gl))))) (zB (by decide) _) (ex:=[.ref 2 0,.ref 3 0,.ref 4 0]) (ho:=ho) (hy:=.clo (kk:=[2,3,4]) hy rfl) (hx:=by rw[hx];rfl) (hb:=hb)
 |.M u hu v hv=>oCh (nk_bl (.M u hu v hv) gl) [(.ref 6 0),(kF i),.ref 2 0,.ref 3 0] (j_gM _ i n u hu v hv (by omega)) (.cons (.r (.tail _ (.tail _ (.head _)))) (.cons .d (.cons (.r (.tail _ (.head _))) (.cons (.r (.head _)) .nil)))) (.cons (.all rfl) (.cons (.all rfl) (nk_vb _ gl))) (zB (by decide) _) (ex:=[.ref 2 0,.ref 3 0]) (ho:=ho) (hy:=.clo (kk:=[2,3]) hy rfl) (hx:=by rw[hx];rfl) (hb:=hb)
 |.Q u hu tt htt=>oCh (nk_bl (.Q u hu tt htt) gl) [(.ref 6 0),(kF i),.ref 3 0,.ref 2 0] (j_gQ _ i tt htt n u hu (by omega)) (.cons (.r (.tail _ (.tail _ (.head _)))) (.cons .d (.cons (.r (.tail _ (.head _))) (.cons (.r (.head _)) .nil)))) (.cons (.all rfl) (.cons (.all rfl) (nk_vb _ gl))) (zB (by decide) _) (ex:=[.ref 3 0,.ref 2 0]) (ho:=ho) (hy:=.clo (kk:=[3,2]) hy rfl) (hx:=by rw[hx];rfl) (hb:=hb)
 |.D bb u hu v hv hz=>oCh (nk_bl (.D bb u hu v hv hz) gl) [(.ref 6 0),(kF i),.ref 2 0,.ref 3 0,.ref 4 0] (j_gD (eN u.v v.v) (gl_div (k:=2097152) hu.1 hv.1) (.sl 1000000 8 (List.map jN gl)) (.sl 1000000 1 (List.map zL [])) i n (.sl 1000000 10 (List.map jP (List.map uW L))) u hu v hv hz (by omega)) (.cons (.r (.tail _ (.tail _ (.tail _ (.tail _ (.tail _ (.head _))))))) (.cons .d (.cons (.r (.tail _ (.tail _ (.head _)))) (.cons (.r (.tail _ (.head _))) (.cons (.r (.head _)) .nil))))) (.cons (.all rfl) (.cons (.all rfl) (.cons (.cons (.x (.head _)) .nil) (.cons (.cons .d (.cons .d (.cons .d (.cons (see_own (F:=jP) (L:=(List.map uW L)) (.head _) (fun _=>rfl) rfl) (.cons .d .nil))))) (.cons (.all (by exact rfl)) (nk_vb _ gl)))))) (zB (by decide) _) (ex:=[.ref 2 0,.ref 3 0,.ref 4 0]) (ho:=ho) (hy:=.clo (kk:=[2,3,4]) hy rfl) (hx:=by rw[hx];rfl) (hb:=hb)
set_option maxHeartbeats 4000000 in
theorem bA(n:Nat)(L:List JV)(K0:NK n L)(hn:n<=64)(hL:L.length<=1000):let K:=K0;xG Tryz.prog 123 [(.ref 0 0),K.d.c1,K.d.c2,K.d.c3] ([(0,some (gK n 1 L false)),(1,some (gM L))]++K.d.X) (.d (.tup [])) [(0,some (gK n 10 (L++[(jk K.d.v (fun i=>(K.d.g i)) n)]) false)),(10,some (gM (L++[(jk K.d.v (fun i=>(K.d.g i)) n)])))]:=by
 cases K0
 all_goals
  intro K
  refine yL Tryz.func123 rfl cb123 rfl ?_
  show eO _ _ _ _ ⟨[(0,(.ref 0 0)),(1,K.d.c1),(2,K.d.c2),(3,K.d.c3)],([(0,some (gK n 1 L false)),(1,some (gM L))]++K.d.X)⟩
  refine jB<|kx [(8,(.ref 6 0))] [(6,some (bx (.agg (jS.cells (jN (qI K.d.v))++[(.val (.slice none 0 0)),(.val (.slice none 0 0))]))))] (zM<|zM<|zC (nk_v K (by exact rfl) (by kernel_rfl) (by kernel_rfl))<|zC (oCh [(0,(gK n 1 L false),(jS.cells (mcA n (.sl 1000000 10 (List.map jP (List.map uW L))) false))),(1,(gM L),(qA (List.map jP (List.map uW L))))] [(.ref 0 0),(.d (jN (qI K.d.v)))] (j_round n (.sl 1000000 10 (List.map jP (List.map uW L))) K.d.v K.hv) (.cons (.r (.head _)) (.cons .d .nil)) (.cons (.cons .d (.cons .d (.cons .d (.cons (see_own (F:=jP) (L:=(List.map uW L)) (.head _) (fun _=>rfl) rfl) (.cons .d .nil))))) (.cons (.all (by exact rfl)) .nil)) (zB (by decide) _) (ex:=[]))<|zE (oBd pl46 ze46 zn46)<|zH (vH 6 ze46 zo46)<|zT (qJ sh46)<|zZ) ?_
  refine jB<|jB<|kx [(22,(vb true))] [] (zM<|zE oNc<|zE (kI fo113_1)<|zR (qH qZ)<|zE (vS true dV)<|zZ) ?_
  refine xQ ?_
  refine jB<|pwp_own 6 8 7 42 8 (cs:=(bx (.agg (jS.cells (jN (qI K.d.v))++[(.val (.slice none 0 0)),(.val (.slice none 0 0))])))) (h:=?_)
  refine qG (wk (l:=[(0,(.ref 0 0)),(1,K.d.c1),(2,K.d.c2),(3,K.d.c3),(8,(.ref 6 0)),(22,(vb true))]) (b:=([(0,some (gK n 1 L false)),(1,some (gM L)),(6,some (bx (jN (qI K.d.v))++[(.own 7 42 8 0),(.d (.val (.slice none 0 0)))])),(7,some (uK jN []))]++K.d.X))) ?_
  refine pwp_own 6 9 8 43 1 (cs:=(bx (jN (qI K.d.v))++[(.own 7 42 8 0),(.d (.val (.slice none 0 0)))])) (h:=?_)
  refine qG (wk (l:=[(0,(.ref 0 0)),(1,K.d.c1),(2,K.d.c2),(3,K.d.c3),(8,(.ref 6 0)),(22,(vb true))]) (b:=([(0,some (gK n 1 L false)),(1,some (gM L)),(6,some (bx (jN (qI K.d.v))++[(.own 7 42 8 0),(.own 8 43 1 0)])),(7,some (uK jN [])),(8,some (bm zL []))]++K.d.X))) ?_
  refine kx [(26,(kF n)),(27,(kF 0))] [] (zM<|zE oNc<|zE (kI fo113_0)<|zR (qH qZ)<|zM<|zZ) ?_
  refine jH<|kO (α:=Nat × List kK) (fun (i,gl)=>⟨[(0,(.ref 0 0)),(1,K.d.c1),(2,K.d.c2),(3,K.d.c3),(8,(.ref 6 0)),(26,(kF n)),(27,(kF i))],([(0,some (gK n 1 L false)),(1,some (gM L)),(6,some (bx (jN (qI K.d.v))++[(.own 7 42 8 gl.length),(.own 8 43 1 0)])),(7,some (uK jN gl)),(8,some (bm zL []))]++K.d.X)⟩) (fun (i,gl)=>i<=n/\gl=List.map qI (List.map (fun (i:Nat)=>(K.d.g i)) (List.range i))) (fun (i,gl)=>n-i) (0,[]) wk ⟨Nat.zero_le _,rfl⟩ ?_
  rintro ⟨i,gl⟩ ⟨hi,hg⟩
  have hgl:gl.length=i:=jk_len (G:=(fun (i:Nat)=>(K.d.g i))) hg
  refine jB<|kx [(28,(vb (decide (((i:Nat):Int)<((n:Nat):Int)))))] [] (zE gZ<|zZ) ?_
  refine jB<|jE rfl (fun h1=>?_) (fun h1=>?_)
  ·replace h1:=vY h1
   refine jD<|jB<|jH<|jB<|kx [(9,(kF i))] [] (zM<|zM<|zZ) ?_
   refine kd [] [(6,some (bx (jN (qI K.d.v))++[(.own 9 42 8 ((gl++[(qI (K.d.g i))]).length)),(.own 8 43 1 0)])),(9,some (uK jN (gl++[(qI (K.d.g i))]))),(7,none)] mo (wE (kI cG)<|wR (qH sh43)<|wM<|wM<|wM<|wC (nk_g K (Int.ofNat_lt.1 h1) gl (by exact rfl) (by kernel_rfl) (by kernel_rfl) (by kernel_rfl))<|wC (oCh [(0,(gK n 1 L false),(jS.cells (mcA n (.sl 1000000 10 (List.map jP (List.map uW L))) false))),(1,(gM L),(qA (List.map jP (List.map uW L))))] [(.ref 0 0),(.d (jN (qI (K.d.g i))))] (j_round n (.sl 1000000 10 (List.map jP (List.map uW L))) (K.d.g i) (K.hg i (by omega))) (.cons (.r (.head _)) (.cons .d .nil)) (.cons (.cons .d (.cons .d (.cons .d (.cons (see_own (F:=jP) (L:=(List.map uW L)) (.head _) (fun _=>rfl) rfl) (.cons .d .nil))))) (.cons (.all (by exact rfl)) .nil)) (zB (by decide) _) (ex:=[]))<|wE (eY dX xT xZ)<|wAS (k:=7) 9 jN gl [(qI (K.d.g i))] rfl dX xT by42<|wE (kI cG)<|wT (oSx sh43)<|wZ) ?_
   refine qG (wk (l:=[(0,(.ref 0 0)),(1,K.d.c1),(2,K.d.c2),(3,K.d.c3),(8,(.ref 6 0)),(26,(kF n)),(27,(kF i))]) (b:=([(0,some (gK n 1 L false)),(1,some (gM L)),(6,some (bx (jN (qI K.d.v))++[(.own 9 42 8 ((gl++[(qI (K.d.g i))]).length)),(.own 8 43 1 0)])),(8,some (bm zL [])),(9,some (uK jN (gl++[(qI (K.d.g i))])))]++K.d.X))) ?_
   refine qG (sim_ren2 (S':=[(0,(.ref 0 0)),(1,K.d.c1),(2,K.d.c2),(3,K.d.c3),(8,(.ref 6 0)),(26,(kF n)),(27,(kF i))]) (B':=([(0,some (gK n 1 L false)),(1,some (gM L)),(6,some (bx (jN (qI K.d.v))++[(.own 7 42 8 ((gl++[(qI (K.d.g i))]).length)),(.own 8 43 1 0)])),(7,some (uK jN (gl++[(qI (K.d.g i))]))),(8,some (bm zL []))]++K.d.X)) 7 9 6) ?_
   refine kx [(27,(kF (i+1)))] [] (zE (vT (i+1))<|zM<|zZ) ?_
   exact ⟨(i+1,gl++[qI (K.d.g i)]),wk,⟨by omega,jk_push (G:=(fun (i:Nat)=>(K.d.g i))) hg⟩,(by first|omega|(dsimp only;omega))⟩
  ·replace h1:=xC h1
   refine kL<|jB<|jB<|kx [(45,(vb false))] [] (zM<|zE oNc<|zE (kI fo113_1)<|zR (qH qZ)<|zE (vS false dV)<|zZ) ?_
   refine qE ?_
   refine jD<|qG (publishAt (j:=6) (k:=7) (pre:=(bx (jN (qI K.d.v)))) (post:=[(.own 8 43 1 0)]) (es:=List.map jN gl) rfl (by decide) rfl (fP _ _ (fun _=>rfl)) (xR _ _ rfl) (bO jN gl (fun _=>rfl) rfl)) ?_
   refine qG (wk (l:=[(0,(.ref 0 0)),(1,K.d.c1),(2,K.d.c2),(3,K.d.c3),(8,(.ref 6 0)),(45,(vb false))]) (b:=([(0,some (gK n 1 L false)),(1,some (gM L)),(6,some (bx (jN (qI K.d.v))++[(vl 42 8 jN gl),(.own 8 43 1 0)])),(8,some (bm zL []))]++K.d.X))) ?_
   refine qG (publishAt (j:=6) (k:=8) (pre:=(bx (jN (qI K.d.v))++[(vl 42 8 jN gl)])) (post:=[]) (es:=List.map zL []) rfl (by decide) rfl (vW _ _ (fun _=>rfl)) (xR _ _ rfl) (xY _ _ (fun _=>rfl) rfl)) ?_
   refine qG (wk (l:=[(0,(.ref 0 0)),(1,K.d.c1),(2,K.d.c2),(3,K.d.c3),(8,(.ref 6 0)),(45,(vb false))]) (b:=([(0,some (gK n 1 L false)),(1,some (gM L)),(6,some (bx (jP (lD.mk (qI K.d.v) gl []))))]++K.d.X))) ?_
   refine kd [] [(0,some [(kF n),(kF 1),(vi (-1)),(.own 10 46 10 (((List.map uW L)++[(lD.mk (qI K.d.v) gl [])]).length)),(vb false)]),(10,some (uK jP ((List.map uW L)++[(lD.mk (qI K.d.v) gl [])]))),(1,none)] mo (wM<|wM<|wE oNc<|wE (kI fo113_3)<|wR (qH sh88)<|wR (kP sh46)<|wE (eY el88 ze46 zo46)<|wAS (k:=1) 10 jP (List.map uW L) [(lD.mk (qI K.d.v) gl [])] rfl el88 ze46 by46<|wE oNc<|wE (kI fo113_3)<|wT (oSx sh88)<|wZ) ?_
   have hJ:List.map uW (L++[(jk K.d.v (fun i=>(K.d.g i)) n)])=List.map uW L++[lD.mk (qI K.d.v) gl []]:=by rw[List.map_append,hg,show i=n by omega];rfl
   unfold gK gM
   rw[hJ]
   refine ⟨uC (by kernel_rfl),vB (by kernel_rfl),.inl ⟨_,.nil,?_⟩⟩
   rfl
theorem e_nodeC(n:Nat)(L:List JV)(p:Rat)(hp:QL p 1048576)(zz:R2)(hzz:GL 3 zz)(hn:n<=64)(hL:L.length<=1000):xG Tryz.prog 123 [(.ref 0 0),(.clo 127 [2]),(.clo 128 [3]),(.clo 121 [3])] [(0,some (gK n 1 L false)),(1,some (gM L)),(2,some (bx (jK (jO.mk 0 0 0 (jM p))))),(3,some (bx (jN (qI zz))))] (.d (.tup [])) [(0,some (gK n 10 (L++[(jk (gpt p) (fun i=>zz) n)]) false)),(10,some (gM (L++[(jk (gpt p) (fun i=>zz) n)])))]:=bA n L (.C p hp zz hzz) hn hL
theorem e_nodeV(n:Nat)(L:List JV)(bv:List R2)(hbx:∀ x∈bv,GL 1048576 x)(a:Nat)(zz:R2)(hzz:GL 3 zz)(hn:n<=64)(hL:L.length<=1000)(ha:a<bv.length)(hbl:bv.length<=1000000):xG Tryz.prog 123 [(.ref 0 0),(.clo 129 [2,3]),(.clo 130 [3,4]),(.clo 121 [4])] [(0,some (gK n 1 L false)),(1,some (gM L)),(2,some (bx (.sl 42 8 (List.map jN (List.map qI bv))))),(3,some (bx (jK (jO.mk 1 ((a:Nat):Int) 0 uG)))),(4,some (bx (jN (qI zz))))] (.d (.tup [])) [(0,some (gK n 10 (L++[(jk (bv.getD a z2) (fun i=>(if ((i:Nat):Int)=((a:Nat):Int) then gw 1 else zz)) n)]) false)),(10,some (gM (L++[(jk (bv.getD a z2) (fun i=>(if ((i:Nat):Int)=((a:Nat):Int) then gw 1 else zz)) n)])))]:=bA n L (.V bv hbx a zz hzz ha hbl) hn hL
theorem e_nodeA(n:Nat)(L:List JV)(u:JV)(hu:cF 1048576 n u)(v:JV)(hv:cF 1048576 n v)(hn:n<=64)(hL:L.length<=1000):xG Tryz.prog 123 [(.ref 0 0),(.clo 124 [2,3,4]),(.clo 125 [2,3,4]),(.clo 126 [2,3,4])] [(0,some (gK n 1 L false)),(1,some (gM L)),(2,some (bx (.val (.func (.func 131) #[] #[])))),(3,some (bx (jP (uW u)))),(4,some (bx (jP (uW v))))] (.d (.tup [])) [(0,some (gK n 10 (L++[(jk (gR u.v v.v) (fun i=>(gR (u.g.getD i z2) (v.g.getD i z2))) n)]) false)),(10,some (gM (L++[(jk (gR u.v v.v) (fun i=>(gR (u.g.getD i z2) (v.g.getD i z2))) n)])))]:=bA n L (.A u hu v hv) hn hL
theorem e_nodeS(n:Nat)(L:List JV)(u:JV)(hu:cF 1048576 n u)(v:JV)(hv:cF 1048576 n v)(hn:n<=64)(hL:L.length<=1000):xG Tryz.prog 123 [(.ref 0 0),(.clo 124 [2,3,4]),(.clo 125 [2,3,4]),(.clo 126 [2,3,4])] [(0,some (gK n 1 L false)),(1,some (gM L)),(2,some (bx (.val (.func (.func 132) #[] #[])))),(3,some (bx (jP (uW u)))),(4,some (bx (jP (uW v))))] (.d (.tup [])) [(0,some (gK n 10 (L++[(jk (uP u.v v.v) (fun i=>(uP (u.g.getD i z2) (v.g.getD i z2))) n)]) false)),(10,some (gM (L++[(jk (uP u.v v.v) (fun i=>(uP (u.g.getD i z2) (v.g.getD i z2))) n)])))]:=bA n L (.S u hu v hv) hn hL
theorem e_nodeN(n:Nat)(L:List JV)(u:JV)(hu:cF 1048576 n u)(v:JV)(hv:cF 1048576 n v)(hn:n<=64)(hL:L.length<=1000):xG Tryz.prog 123 [(.ref 0 0),(.clo 124 [2,3,4]),(.clo 125 [2,3,4]),(.clo 126 [2,3,4])] [(0,some (gK n 1 L false)),(1,some (gM L)),(2,some [(.clo 133 [5])]),(3,some (bx (jP (uW u)))),(4,some (bx (jP (uW v)))),(5,some (bx (jN (qI (gw 0)))))] (.d (.tup [])) [(0,some (gK n 10 (L++[(jk (uP (gw 0) u.v) (fun i=>(uP (gw 0) (u.g.getD i z2))) n)]) false)),(10,some (gM (L++[(jk (uP (gw 0) u.v) (fun i=>(uP (gw 0) (u.g.getD i z2))) n)])))]:=bA n L (.N u hu v hv) hn hL
theorem e_nodeM(n:Nat)(L:List JV)(u:JV)(hu:cF 1048576 n u)(v:JV)(hv:cF 1048576 n v)(hn:n<=64)(hL:L.length<=1000):xG Tryz.prog 123 [(.ref 0 0),(.clo 134 [2,3]),(.clo 136 [2,3]),(.clo 137 [2,3])] [(0,some (gK n 1 L false)),(1,some (gM L)),(2,some (bx (jP (uW u)))),(3,some (bx (jP (uW v))))] (.d (.tup [])) [(0,some (gK n 10 (L++[(jk (xE u.v v.v) (fun i=>(gR (xE u.v (v.g.getD i z2)) (xE v.v (u.g.getD i z2)))) n)]) false)),(10,some (gM (L++[(jk (xE u.v v.v) (fun i=>(gR (xE u.v (v.g.getD i z2)) (xE v.v (u.g.getD i z2)))) n)])))]:=bA n L (.M u hu v hv) hn hL
theorem e_nodeQ(n:Nat)(L:List JV)(u:JV)(hu:cF 1048576 n u)(tt:R2)(htt:GL 3 tt)(hn:n<=64)(hL:L.length<=1000):xG Tryz.prog 123 [(.ref 0 0),(.clo 138 [2]),(.clo 140 [3,2]),(.clo 141 [2,3])] [(0,some (gK n 1 L false)),(1,some (gM L)),(2,some (bx (jP (uW u)))),(3,some (bx (jN (qI tt))))] (.d (.tup [])) [(0,some (gK n 10 (L++[(jk (gsq u.v) (fun i=>(xE tt (xE u.v (u.g.getD i z2)))) n)]) false)),(10,some (gM (L++[(jk (gsq u.v) (fun i=>(xE tt (xE u.v (u.g.getD i z2)))) n)])))]:=bA n L (.Q u hu tt htt) hn hL
theorem e_nodeD(n:Nat)(L:List JV)(bb:Nat)(u:JV)(hu:cF 1048576 n u)(v:JV)(hv:cF 1048576 n v)(hn:n<=64)(hL:L.length<=1000)(hz:mW v.v.1 v.v.2=false):xG Tryz.prog 123 [(.ref 0 0),(.clo 142 [2,3,4]),(.clo 144 [2,3,4]),(.clo 145 [3,4,2])] [(0,some (gK n 1 L false)),(1,some (gM L)),(2,some [(.refx 0 0 bb)]),(3,some (bx (jP (uW u)))),(4,some (bx (jP (uW v))))] (.d (.tup [])) [(0,some (gK n 10 (L++[(jk (eN u.v v.v) (fun i=>(eN (uP (u.g.getD i z2) (xE (eN u.v v.v) (v.g.getD i z2))) v.v)) n)]) false)),(10,some (gM (L++[(jk (eN u.v v.v) (fun i=>(eN (uP (u.g.getD i z2) (xE (eN u.v v.v) (v.g.getD i z2))) v.v)) n)])))]:=bA n L (.D bb u hu v hv hz) hn hL
theorem cb122:callB Tryz.prog 122=true:=by kernel_rfl
theorem e_linA(n:Nat)(L:List JV)(bb:Nat)(u:JV)(hu:cF 1048576 n u)(v:JV)(hv:cF 1048576 n v)(hn:n<=64)(hL:L.length<=1000):xG Tryz.prog 122 [(.d (.val (.func (.func 131) #[] #[]))),(.ref 2 0),(.ref 3 0),(.ref 4 0)] [(0,some (gK n 1 L false)),(1,some (gM L)),(2,some [(.refx 0 0 bb)]),(3,some (bx (jP (uW u)))),(4,some (bx (jP (uW v))))] (.d (.tup [])) [(0,some (gK n 11 (L++[(jk (gR u.v v.v) (fun i=>(gR (u.g.getD i z2) (v.g.getD i z2))) n)]) false)),(11,some (gM (L++[(jk (gR u.v v.v) (fun i=>(gR (u.g.getD i z2) (v.g.getD i z2))) n)]))),(2,some [(.refx 0 0 bb)])]:=by
 refine yL Tryz.func122 rfl cb122 rfl ?_
 refine jB<|kx [(4,(.ref 5 0))] [(5,some (bx (.val (.func (.func 131) #[] #[]))))] (zH (xO 5)<|zZ) ?_
 refine kf [] [(0,some (gK n 11 (L++[(jk (gR u.v v.v) (fun i=>(gR (u.g.getD i z2) (v.g.getD i z2))) n)]) false)),(11,some (gM (L++[(jk (gR u.v v.v) (fun i=>(gR (u.g.getD i z2) (v.g.getD i z2))) n)]))),(1,none),(10,none),(3,none),(4,none),(5,none),(6,none),(7,none),(8,none),(9,none)] (zR (oLx sh111)<|zE (oMf [5,3,4])<|zE (oMf [5,3,4])<|zE (oMf [5,3,4])<|zSe (B2:=[(0,some (gK n 1 L false)),(1,some (gM L)),(5,some (bx (.val (.func (.func 131) #[] #[])))),(3,some (bx (jP (uW u)))),(4,some (bx (jP (uW v))))]) (B2':=[(0,some (gK n 11 (L++[(jk (gR u.v v.v) (fun i=>(gR (u.g.getD i z2) (v.g.getD i z2))) n)]) false)),(11,some (gM (L++[(jk (gR u.v v.v) (fun i=>(gR (u.g.getD i z2) (v.g.getD i z2))) n)])))]) [0,1,5,3,4,6,7,8,9,10,11] [0,5,3,4] (e_nodeA n L u hu v hv hn hL)<|zF) ?_
 refine ⟨uC (by kernel_rfl),vB (by kernel_rfl),.inl ⟨_,.nil,?_⟩⟩
 rfl
theorem e_linS(n:Nat)(L:List JV)(bb:Nat)(u:JV)(hu:cF 1048576 n u)(v:JV)(hv:cF 1048576 n v)(hn:n<=64)(hL:L.length<=1000):xG Tryz.prog 122 [(.d (.val (.func (.func 132) #[] #[]))),(.ref 2 0),(.ref 3 0),(.ref 4 0)] [(0,some (gK n 1 L false)),(1,some (gM L)),(2,some [(.refx 0 0 bb)]),(3,some (bx (jP (uW u)))),(4,some (bx (jP (uW v))))] (.d (.tup [])) [(0,some (gK n 11 (L++[(jk (uP u.v v.v) (fun i=>(uP (u.g.getD i z2) (v.g.getD i z2))) n)]) false)),(11,some (gM (L++[(jk (uP u.v v.v) (fun i=>(uP (u.g.getD i z2) (v.g.getD i z2))) n)]))),(2,some [(.refx 0 0 bb)])]:=by
 refine yL Tryz.func122 rfl cb122 rfl ?_
 refine jB<|kx [(4,(.ref 5 0))] [(5,some (bx (.val (.func (.func 132) #[] #[]))))] (zH (xO 5)<|zZ) ?_
 refine kf [] [(0,some (gK n 11 (L++[(jk (uP u.v v.v) (fun i=>(uP (u.g.getD i z2) (v.g.getD i z2))) n)]) false)),(11,some (gM (L++[(jk (uP u.v v.v) (fun i=>(uP (u.g.getD i z2) (v.g.getD i z2))) n)]))),(1,none),(10,none),(3,none),(4,none),(5,none),(6,none),(7,none),(8,none),(9,none)] (zR (oLx sh111)<|zE (oMf [5,3,4])<|zE (oMf [5,3,4])<|zE (oMf [5,3,4])<|zSe (B2:=[(0,some (gK n 1 L false)),(1,some (gM L)),(5,some (bx (.val (.func (.func 132) #[] #[])))),(3,some (bx (jP (uW u)))),(4,some (bx (jP (uW v))))]) (B2':=[(0,some (gK n 11 (L++[(jk (uP u.v v.v) (fun i=>(uP (u.g.getD i z2) (v.g.getD i z2))) n)]) false)),(11,some (gM (L++[(jk (uP u.v v.v) (fun i=>(uP (u.g.getD i z2) (v.g.getD i z2))) n)])))]) [0,1,5,3,4,6,7,8,9,10,11] [0,5,3,4] (e_nodeS n L u hu v hv hn hL)<|zF) ?_
 refine ⟨uC (by kernel_rfl),vB (by kernel_rfl),.inl ⟨_,.nil,?_⟩⟩
 rfl
theorem e_linN(n:Nat)(L:List JV)(bb:Nat)(u:JV)(hu:cF 1048576 n u)(v:JV)(hv:cF 1048576 n v)(hn:n<=64)(hL:L.length<=1000):xG Tryz.prog 122 [(.clo 133 [9]),(.ref 2 0),(.ref 3 0),(.ref 4 0)] [(0,some (gK n 1 L false)),(1,some (gM L)),(2,some [(.refx 0 0 bb)]),(3,some (bx (jP (uW u)))),(4,some (bx (jP (uW v)))),(9,some (bx (jN (qI (gw 0)))))] (.d (.tup [])) [(0,some (gK n 15 (L++[(jk (uP (gw 0) u.v) (fun i=>(uP (gw 0) (u.g.getD i z2))) n)]) false)),(15,some (gM (L++[(jk (uP (gw 0) u.v) (fun i=>(uP (gw 0) (u.g.getD i z2))) n)]))),(2,some [(.refx 0 0 bb)])]:=by
 refine yL Tryz.func122 rfl cb122 rfl ?_
 refine jB<|kx [(4,(.ref 10 0))] [(10,some [(.clo 133 [9])])] (zH (oBy 10)<|zZ) ?_
 refine kf [(0,.junk)] [(0,some (gK n 15 (L++[(jk (uP (gw 0) u.v) (fun i=>(uP (gw 0) (u.g.getD i z2))) n)]) false)),(15,some (gM (L++[(jk (uP (gw 0) u.v) (fun i=>(uP (gw 0) (u.g.getD i z2))) n)]))),(1,none),(10,none),(11,none),(12,none),(13,none),(14,none),(3,none),(4,none),(9,none)] (zR (oLx sh111)<|zE (oMf [10,3,4])<|zE (oMf [10,3,4])<|zE (oMf [10,3,4])<|zSe (B2:=[(0,some (gK n 1 L false)),(1,some (gM L)),(10,some [(.clo 133 [9])]),(3,some (bx (jP (uW u)))),(4,some (bx (jP (uW v)))),(9,some (bx (jN (qI (gw 0)))))]) (B2':=[(0,some (gK n 15 (L++[(jk (uP (gw 0) u.v) (fun i=>(uP (gw 0) (u.g.getD i z2))) n)]) false)),(15,some (gM (L++[(jk (uP (gw 0) u.v) (fun i=>(uP (gw 0) (u.g.getD i z2))) n)])))]) [0,1,10,3,4,9,11,12,13,14,15] [0,10,3,4] (e_nodeN n L u hu v hv hn hL)<|zF) ?_
 refine ⟨uC (by kernel_rfl),vB (by kernel_rfl),.inl ⟨_,.nil,?_⟩⟩
 rfl
theorem cb77:callB Tryz.prog 77=true:=by kernel_rfl
set_option maxHeartbeats 4000000 in
theorem e_stepN0(x0:jO)(bv:List R2)(hbx:∀ x∈bv,GL 1048576 x)(L:List JV)(hn:bv.length<=64)(hL:L.length<=1000)(hLk:∀ y∈L,cF 1048576 bv.length y)(hx:bM bv.length L x0):let x:=x0;xG Tryz.prog 77 [(.ref 0 0),(.d (jK x)),(vl 42 8 jN (List.map qI bv))] [(0,some (gK bv.length 1 (L) false)),(1,some (gM (L)))] (.d (.tup [])) [(0,some (gK bv.length 18 (L++[nJ bv L x]) false)),(18,some (gM (L++[nJ bv L x])))]:=by
 rcases hx with @⟨p,hp⟩ | @⟨a,ha⟩ | @⟨a,b,ha,hb⟩ | @⟨a,b,ha,hb⟩ | @⟨a,b,ha,hb⟩ | @⟨a,b,ha,hb,hz⟩ | @⟨a,ha⟩ | @⟨a,ha⟩
 all_goals
  intro x
  refine yL Tryz.func77 rfl cb77 rfl ?_
  refine jB<|kx [(3,(.ref 2 0)),(4,(.ref 3 0)),(5,(.ref 4 0))] [(2,some [(.ref 0 0)]),(3,some (bx (jK x))),(4,some (bx (.sl 42 8 (List.map jN (List.map qI bv)))))] (zH (oBy 2)<|zH (xO 3)<|zH (xO 4)<|zZ) ?_
  refine jB<|pwp_fix 2 (k:=0) (o:=0) (h:=fun b0=>?_)
  refine qG (wk (l:=[(0,(.ref 0 0)),(3,(.ref 2 0)),(4,(.ref 3 0)),(5,(.ref 4 0))]) (b:=[(0,some (gK bv.length 1 L false)),(1,some (gM L)),(2,some [(.refx 0 0 b0)]),(3,some (bx (jK x))),(4,some (bx (.sl 42 8 (List.map jN (List.map qI bv)))))])) ?_
  refine kx [(6,(.ref 5 0))] [(5,some (bx (jN (qI (gw 0)))))] (zE (jY (j_whole ((0:Nat):Int) (by omega) (by omega)))<|zH (vH 5 xT xZ)<|zT (qJ kN)<|zZ) ?_
  refine jB<|kx [(7,(.clo 121 [5]))] [] (zE (oMf [5])<|zM<|zZ) ?_
  refine jB<|kx [(8,(.ref 6 0)),(9,(.ref 7 0))] [(6,some (bx (jP (lD.mk (kK.mk uG uG) [] [])))),(7,some (bx (jP (lD.mk (kK.mk uG uG) [] []))))] (zH (vH 6 ze46 zo46)<|zH (vH 7 ze46 zo46)<|zZ) ?_
  refine jB<|kx [(10,(vi (kZ x.op)))] [] (zE (kI xV)<|zR (qH dG)<|zE (jY (j_kids x.op))<|zM<|zZ) ?_
  refine jB<|jB ?_
  first
   |(refine kx [(19,(vb true))] [] (zM<|zE (vS true dV (e:=rfl))<|zZ) ?_;refine xQ ?_;refine kd [] [(6,some (bx (jP (uW (L.getD a jz)))))] mo (wR (oLx sh111)<|wE oNc<|wE (kI fo113_3)<|wR (qH sh88)<|wE (kI kV)<|wR (qH qZ)<|wE (fK el88 a (hj:=by first | omega | rfl | (simp only[List.length_map];omega) | (dsimp only;omega)) (h1:=by first | omega | rfl | (simp only[List.length_map];omega) | (dsimp only;omega)))<|wR (mR (jP ((List.map uW L).getD a (lD.mk (kK.mk uG uG) [] []))) (jP (uW (L.getD a jz))) (oLA sh46 a (lD.mk (kK.mk uG uG) [] []) (h1:=by first | omega | rfl | (simp only[List.length_map];omega) | (dsimp only;omega))) (by exact (congrArg jP (map_getD uW L jz _ (by omega)))))<|wT (qJ sh46)<|wZ) ?_)
   |(refine kx [(19,(vb false))] [] (zM<|zE (vS false dV (e:=rfl))<|zZ) ?_;refine qE ?_;refine jD ?_)
  refine jB<|jB ?_
  first
   |(refine kx [(29,(vb true))] [] (zM<|zE (vS true dV (e:=rfl))<|zZ) ?_;refine xQ ?_;refine kd [] [(7,some (bx (jP (uW (L.getD b jz)))))] mo (wR (oLx sh111)<|wE oNc<|wE (kI fo113_3)<|wR (qH sh88)<|wE (kI qW)<|wR (qH qZ)<|wE (fK el88 b (hj:=by first | omega | rfl | (simp only[List.length_map];omega) | (dsimp only;omega)) (h1:=by first | omega | rfl | (simp only[List.length_map];omega) | (dsimp only;omega)))<|wR (mR (jP ((List.map uW L).getD b (lD.mk (kK.mk uG uG) [] []))) (jP (uW (L.getD b jz))) (oLA sh46 b (lD.mk (kK.mk uG uG) [] []) (h1:=by first | omega | rfl | (simp only[List.length_map];omega) | (dsimp only;omega))) (by exact (congrArg jP (map_getD uW L jz _ (by omega)))))<|wT (qJ sh46)<|wZ) ?_)
   |(refine kx [(29,(vb false))] [] (zM<|zE (vS false dV (e:=rfl))<|zZ) ?_;refine qE ?_;refine jD ?_)
  refine jB<|kx [(11,(.clo 122 [2,6,7]))] [] (zE (oMf [2,6,7])<|zM<|zZ) ?_
  refine jB<|kx [(40,(vi x.op))] [] (zE (kI xV)<|zR (qH dG)<|zZ) ?_
  refine jH ?_
 all_goals refine jB ?_
 ·rw[show nJ bv L x=(jk (gpt p) (fun i=>(gw 0)) bv.length) from by show nJ bv L (jO.mk 0 0 0 (jM p))=_;unfold nJ nV nG;rw[nI];rfl]
  refine kx [(46,(vb true))] [] (zE (vS true xU (e:=rfl))<|zM<|zZ) ?_
  refine xQ ?_
  refine kf [] [(0,some (gK bv.length 18 (L++[(jk (gpt p) (fun i=>(gw 0)) bv.length)]) false)),(18,some (gM (L++[(jk (gpt p) (fun i=>(gw 0)) bv.length)]))),(1,none),(10,none),(11,none),(12,none),(13,none),(3,none),(5,none),(8,none),(9,none)] (zR (oLx sh111)<|zE (oMf [3])<|zE (oMf [5])<|zM<|zSe (B2:=[(0,some (gK bv.length 1 L false)),(1,some (gM L)),(3,some (bx (jK x))),(5,some (bx (jN (qI (gw 0)))))]) (B2':=[(0,some (gK bv.length 18 (L++[(jk (gpt p) (fun i=>(gw 0)) bv.length)]) false)),(18,some (gM (L++[(jk (gpt p) (fun i=>(gw 0)) bv.length)])))]) [0,1,3,5,8,9,10,11,12,13,18] [0,3,5] (e_nodeC bv.length L p hp (gw 0) (gl_w (z:=0) (by omega) (by omega)) hn hL)<|zF) ?_
  refine ⟨uC (by kernel_rfl),vB (by kernel_rfl),.inl ⟨_,.nil,?_⟩⟩
  rfl
 all_goals
  refine kx [(46,(vb false))] [] (zE (vS false xU (e:=rfl))<|zM<|zZ) ?_
  refine qE ?_
 all_goals refine jB ?_
 ·refine kx [(53,(vb true))] [] (zE (vS true xU (e:=rfl))<|zM<|zZ) ?_
  refine xQ ?_
  refine kf [] [(0,some (gK bv.length 18 (L++[(nJ bv L x)]) false)),(18,some (gM (L++[(nJ bv L x)]))),(1,none),(10,none),(11,none),(12,none),(3,none),(4,none),(5,none),(8,none),(9,none)] (zR (oLx sh111)<|zE (oMf [4,3])<|zE (oMf [3,5])<|zM<|zSe (B2:=[(0,some (gK bv.length 1 L false)),(1,some (gM L)),(4,some (bx (.sl 42 8 (List.map jN (List.map qI bv))))),(3,some (bx (jK x))),(5,some (bx (jN (qI (gw 0)))))]) (B2':=[(0,some (gK bv.length 18 (L++[(nJ bv L x)]) false)),(18,some (gM (L++[(nJ bv L x)])))]) [0,1,4,3,5,8,9,10,11,12,18] [0,4,3,5] (e_nodeV bv.length L bv hbx a (gw 0) (gl_w (z:=0) (by omega) (by omega)) hn hL ha (by omega))<|zF) ?_
  refine ⟨uC (by kernel_rfl),vB (by kernel_rfl),.inl ⟨_,.nil,?_⟩⟩
  rfl
 all_goals
  refine kx [(53,(vb false))] [] (zE (vS false xU (e:=rfl))<|zM<|zZ) ?_
  refine qE ?_
 all_goals refine jB ?_
 ·refine kx [(60,(vb true))] [] (zE (vS true xU (e:=rfl))<|zM<|zZ) ?_
  refine xQ ?_
  refine kf [] [(0,some (gK bv.length 18 (L++[(nJ bv L x)]) false)),(18,some (gM (L++[(nJ bv L x)]))),(1,none),(10,none),(11,none),(12,none),(13,none),(2,none),(6,none),(7,none),(8,none),(9,none)] (zM<|zSe (B2:=[(0,some (gK bv.length 1 L false)),(1,some (gM L)),(2,some [(.refx 0 0 b0)]),(6,some (bx (jP (uW (L.getD a jz))))),(7,some (bx (jP (uW (L.getD b jz)))))]) (B2':=[(0,some (gK bv.length 18 (L++[(nJ bv L x)]) false)),(18,some (gM (L++[(nJ bv L x)]))),(2,some [(.refx 0 0 b0)])]) [0,1,2,6,7,8,9,10,11,12,13,18] [2,6,7,0] (e_linA bv.length L b0 (L.getD a jz) (fQ hLk ha) (L.getD b jz) (fQ hLk hb) hn hL) (G:=[0]) (hG:=by exact (.cons (k:=0) (q:=2) (o:=0) (b:=b0) (j:=0) (by kernel_rfl) (by kernel_rfl) (by kernel_rfl) .nil)) (ex:=[.ref 2 0,.ref 6 0,.ref 7 0]) (hy:=.clo (kk:=[2,6,7]) (by kernel_rfl) (by kernel_rfl))<|zF) ?_
  refine ⟨uC (by kernel_rfl),vB (by kernel_rfl),.inl ⟨_,.nil,?_⟩⟩
  rfl
 all_goals
  refine kx [(60,(vb false))] [] (zE (vS false xU (e:=rfl))<|zM<|zZ) ?_
  refine qE ?_
 all_goals refine jB ?_
 ·refine kx [(64,(vb true))] [] (zE (vS true xU (e:=rfl))<|zM<|zZ) ?_
  refine xQ ?_
  refine kf [] [(0,some (gK bv.length 18 (L++[(nJ bv L x)]) false)),(18,some (gM (L++[(nJ bv L x)]))),(1,none),(10,none),(11,none),(12,none),(13,none),(2,none),(6,none),(7,none),(8,none),(9,none)] (zM<|zSe (B2:=[(0,some (gK bv.length 1 L false)),(1,some (gM L)),(2,some [(.refx 0 0 b0)]),(6,some (bx (jP (uW (L.getD a jz))))),(7,some (bx (jP (uW (L.getD b jz)))))]) (B2':=[(0,some (gK bv.length 18 (L++[(nJ bv L x)]) false)),(18,some (gM (L++[(nJ bv L x)]))),(2,some [(.refx 0 0 b0)])]) [0,1,2,6,7,8,9,10,11,12,13,18] [2,6,7,0] (e_linS bv.length L b0 (L.getD a jz) (fQ hLk ha) (L.getD b jz) (fQ hLk hb) hn hL) (G:=[0]) (hG:=by exact (.cons (k:=0) (q:=2) (o:=0) (b:=b0) (j:=0) (by kernel_rfl) (by kernel_rfl) (by kernel_rfl) .nil)) (ex:=[.ref 2 0,.ref 6 0,.ref 7 0]) (hy:=.clo (kk:=[2,6,7]) (by kernel_rfl) (by kernel_rfl))<|zF) ?_
  refine ⟨uC (by kernel_rfl),vB (by kernel_rfl),.inl ⟨_,.nil,?_⟩⟩
  rfl
 all_goals
  refine kx [(64,(vb false))] [] (zE (vS false xU (e:=rfl))<|zM<|zZ) ?_
  refine qE ?_
 rotate_left 2
 all_goals refine jB ?_
 ·refine kx [(68,(vb true))] [] (zE (vS true xU (e:=rfl))<|zM<|zZ) ?_
  refine xQ ?_
  refine jB<|kx [] [(7,some (bx (jP (uW (L.getD a jz)))))] (zR (mR (jP (uW (L.getD a jz))) (jP (uW (L.getD a jz))) (kP sh46) (by exact rfl))<|zT (qJ sh46)<|zZ) ?_
  refine kf [(6,.junk),(7,.junk)] [(0,some (gK bv.length 18 (L++[(nJ bv L x)]) false)),(18,some (gM (L++[(nJ bv L x)]))),(1,none),(10,none),(11,none),(12,none),(13,none),(14,none),(15,none),(16,none),(2,none),(5,none),(6,none),(7,none),(8,none),(9,none)] (zM<|zE (oMf [5])<|zSe (B2:=[(0,some (gK bv.length 1 L false)),(1,some (gM L)),(2,some [(.refx 0 0 b0)]),(6,some (bx (jP (uW (L.getD a jz))))),(7,some (bx (jP (uW (L.getD a jz))))),(5,some (bx (jN (qI (gw 0)))))]) (B2':=[(0,some (gK bv.length 18 (L++[(nJ bv L x)]) false)),(18,some (gM (L++[(nJ bv L x)]))),(2,some [(.refx 0 0 b0)])]) [0,1,2,6,7,8,9,10,11,5,12,13,14,15,16,18] [2,6,7,0] (e_linN bv.length L b0 (L.getD a jz) (fQ hLk ha) (L.getD a jz) (fQ hLk ha) hn hL) (G:=[0]) (hG:=by exact (.cons (k:=0) (q:=2) (o:=0) (b:=b0) (j:=0) (by kernel_rfl) (by kernel_rfl) (by kernel_rfl) .nil)) (ex:=[.ref 2 0,.ref 6 0,.ref 7 0]) (hy:=.clo (kk:=[2,6,7]) (by kernel_rfl) (by kernel_rfl))<|zF) ?_
  refine ⟨uC (by kernel_rfl),vB (by kernel_rfl),.inl ⟨_,.nil,?_⟩⟩
  rfl
 all_goals
  refine kx [(68,(vb false))] [] (zE (vS false xU (e:=rfl))<|zM<|zZ) ?_
  refine qE ?_
 rotate_left 1
 all_goals refine jB ?_
 ·refine kx [(74,(vb true))] [] (zE (vS true xU (e:=rfl))<|zM<|zZ) ?_
  refine xQ ?_
  refine kf [] [(0,some (gK bv.length 18 (L++[(nJ bv L x)]) false)),(18,some (gM (L++[(nJ bv L x)]))),(1,none),(10,none),(11,none),(12,none),(13,none),(6,none),(7,none),(8,none),(9,none)] (zR (oLx sh111)<|zE (oMf [6,7])<|zE (oMf [6,7])<|zE (oMf [6,7])<|zSe (B2:=[(0,some (gK bv.length 1 L false)),(1,some (gM L)),(6,some (bx (jP (uW (L.getD a jz))))),(7,some (bx (jP (uW (L.getD b jz)))))]) (B2':=[(0,some (gK bv.length 18 (L++[(nJ bv L x)]) false)),(18,some (gM (L++[(nJ bv L x)])))]) [0,1,6,7,8,9,10,11,12,13,18] [0,6,7] (e_nodeM bv.length L (L.getD a jz) (fQ hLk ha) (L.getD b jz) (fQ hLk hb) hn hL)<|zF) ?_
  refine ⟨uC (by kernel_rfl),vB (by kernel_rfl),.inl ⟨_,.nil,?_⟩⟩
  rfl
 all_goals
  refine kx [(74,(vb false))] [] (zE (vS false xU (e:=rfl))<|zM<|zZ) ?_
  refine qE ?_
 rotate_left 1
 all_goals refine jB ?_
 ·refine kx [(81,(vb true))] [] (zE (vS true xU (e:=rfl))<|zM<|zZ) ?_
  refine xQ ?_
  refine jB<|kx [(12,(.ref 8 0))] [(8,some (bx (jN (qI (gw 2)))))] (zE (jY (j_whole ((2:Nat):Int) (by omega) (by omega)))<|zH (vH 8 xT xZ)<|zT (qJ kN)<|zZ) ?_
  refine kf [] [(0,some (gK bv.length 18 (L++[(nJ bv L x)]) false)),(18,some (gM (L++[(nJ bv L x)]))),(1,none),(10,none),(11,none),(12,none),(13,none),(14,none),(6,none),(8,none),(9,none)] (zR (oLx sh111)<|zE (oMf [6])<|zE (oMf [8,6])<|zE (oMf [6,8])<|zSe (B2:=[(0,some (gK bv.length 1 L false)),(1,some (gM L)),(6,some (bx (jP (uW (L.getD a jz))))),(8,some (bx (jN (qI (gw 2)))))]) (B2':=[(0,some (gK bv.length 18 (L++[(nJ bv L x)]) false)),(18,some (gM (L++[(nJ bv L x)])))]) [0,1,6,8,9,10,11,12,13,14,18] [0,6,8] (e_nodeQ bv.length L (L.getD a jz) (fQ hLk ha) (gw 2) (gl_w (z:=2) (by omega) (by omega)) hn hL)<|zF) ?_
  refine ⟨uC (by kernel_rfl),vB (by kernel_rfl),.inl ⟨_,.nil,?_⟩⟩
  rfl
 all_goals
  refine kx [(81,(vb false))] [] (zE (vS false xU (e:=rfl))<|zM<|zZ) ?_
  refine qE ?_
 ·refine kf [] [(0,some (gK bv.length 18 (L++[(nJ bv L x)]) false)),(18,some (gM (L++[(nJ bv L x)]))),(1,none),(10,none),(11,none),(12,none),(2,none),(6,none),(7,none),(8,none),(9,none)] (zR (oLx sh111)<|zE (oMf [2,6,7])<|zE (oMf [2,6,7])<|zE (oMf [6,7,2])<|zSe (B2:=[(0,some (gK bv.length 1 L false)),(1,some (gM L)),(2,some [(.refx 0 0 b0)]),(6,some (bx (jP (uW (L.getD a jz))))),(7,some (bx (jP (uW (L.getD b jz)))))]) (B2':=[(0,some (gK bv.length 18 (L++[(nJ bv L x)]) false)),(18,some (gM (L++[(nJ bv L x)])))]) [0,1,2,6,7,8,9,10,11,12,18] [0,2,6,7] (e_nodeD bv.length L b0 (L.getD a jz) (fQ hLk ha) (L.getD b jz) (fQ hLk hb) hn hL hz)<|zF) ?_
  refine ⟨uC (by kernel_rfl),vB (by kernel_rfl),.inl ⟨_,.nil,?_⟩⟩
  rfl
end Go.Proofs.YtckccjhflbljgaaGreatDoor
