/- Part 24 of a proof: rules, plain facts, and functions walked. -/
import Derived.Test.YtnajallgoaiahaaGreatDoorM23
set_option linter.all false
set_option maxRecDepth 4000
namespace Go.Proofs.YtnajallgoaiahaaGreatDoor
open Go.Fid
theorem by61:yI Tryz.prog 61=some 128:=by kernel_rfl
theorem by95:yI Tryz.prog 95=some 176:=by kernel_rfl
theorem cb184:callB Tryz.prog 184=true:=by kernel_rfl
theorem el143:vA Tryz.prog 143=some (95,10):=by kernel_rfl
theorem fo161_0:xR Tryz.prog 161 0=some 0:=by kernel_rfl
theorem fo161_1:xR Tryz.prog 161 1=some 1:=by kernel_rfl
theorem mZ:xR Tryz.prog 161 3=some 3:=by kernel_rfl
theorem pl95:dT Tryz.prog 95=some [(0,8),(8,1),(9,1)]:=by kernel_rfl
theorem eT:qO Tryz.prog 95=some (true,10):=by kernel_rfl
theorem sh143:qO Tryz.prog 143=some (false,1):=by kernel_rfl
theorem ze95:zJ Tryz.prog 95=some [.bool false,.slice none 0 0,.bool false,.slice none 0 0,.bool false,.slice none 0 0,.bool false,.slice none 0 0,.slice none 0 0,.slice none 0 0]:=by kernel_rfl
theorem zn95:aJ [.bool false,.slice none 0 0,.bool false,.slice none 0 0,.bool false,.slice none 0 0,.bool false,.slice none 0 0,.slice none 0 0,.slice none 0 0] [.val (.bool false),.val (.slice none 0 0),.val (.bool false),.val (.slice none 0 0),.val (.bool false),.val (.slice none 0 0),.val (.bool false),.val (.slice none 0 0),.val (.slice none 0 0),.val (.slice none 0 0)]:=by simp [aJ,Value.oneCell']
theorem zo95:aJ [.bool false,.slice none 0 0,.bool false,.slice none 0 0,.bool false,.slice none 0 0,.bool false,.slice none 0 0,.slice none 0 0,.slice none 0 0] [.val (.bool false),.sl 140 1 [],.val (.bool false),.sl 140 1 [],.val (.bool false),.sl 140 1 [],.val (.bool false),.sl 140 1 [],.sl 61 8 [],.sl 86 1 []]:=by simp [aJ,Value.oneCell']
structure NKD where
 c1:SV
 c2:SV
 c3:SV
 X:BS
 v:R2
 g:Nat→R2
 k:List Nat
 b:List VBlk
inductive NK (n:Nat) (L:List JV):Type
 |C (p:Rat) (hp:QL p 1048576) (zz:R2) (hzz:GL 3 zz):NK n L
 |V (bv:List R2) (hbx:∀ x∈bv,GL 1048576 x) (a:Nat) (zz:R2) (hzz:GL 3 zz) (ha:a<bv.length) (hbl:bv.length≤1000000):NK n L
 |A (u:JV) (hu:nY 1048576 n u) (v:JV) (hv:nY 1048576 n v):NK n L
 |S (u:JV) (hu:nY 1048576 n u) (v:JV) (hv:nY 1048576 n v):NK n L
 |N (u:JV) (hu:nY 1048576 n u) (v:JV) (hv:nY 1048576 n v):NK n L
 |M (u:JV) (hu:nY 1048576 n u) (v:JV) (hv:nY 1048576 n v):NK n L
 |Q (u:JV) (hu:nY 1048576 n u) (tt:R2) (htt:GL 3 tt):NK n L
 |D (bb:Nat) (u:JV) (hu:nY 1048576 n u) (v:JV) (hv:nY 1048576 n v) (hz:gP v.v.1 v.v.2=false):NK n L
def NK.d{n:Nat}{L:List JV}:NK n L→NKD
 |.C p hp zz hzz=>⟨(.clo 188 [2]),(.clo 189 [3]),(.clo 181 [3]),[(2,some (bx (kK (kN.mk 0 0 0 (jP p))))),(3,some (bx (jI (kS zz))))],(gD p),(fun i=>zz),[2],[(3,(bx (jI (kS zz))),(jT.cells (jI (kS zz))))]⟩
 |.V bv hbx a zz hzz ha hbl=>⟨(.clo 190 [2,3]),(.clo 191 [3,4]),(.clo 181 [4]),[(2,some (bx (.sl 61 8 (List.map jI (List.map kS bv))))),(3,some (bx (kK (kN.mk 1 ((a:Nat):Int) 0 qM)))),(4,some (bx (jI (kS zz))))],(bv.getD a z2),(fun i=>(if ((i:Nat):Int)=((a:Nat):Int) then gw 1 else zz)),[2,3],[(4,(bx (jI (kS zz))),(jT.cells (jI (kS zz)))),(3,(bx (kK (kN.mk 1 ((a:Nat):Int) 0 qM))),(jT.cells (kK (kN.mk 1 ((a:Nat):Int) 0 qM))))]⟩
 |.A u hu v hv=>⟨(.clo 185 [2,3,4]),(.clo 186 [2,3,4]),(.clo 187 [2,3,4]),[(2,some (bx (.val (.func (.func 192) #[] #[])))),(3,some (bx (jJ (qF u)))),(4,some (bx (jJ (qF v))))],(gH u.v v.v),(fun i=>(gH (u.g.getD i z2) (v.g.getD i z2))),[2,3,4],[(4,(bx (jJ (qF v))),(jT.cells (jJ (qF v)))),(3,(bx (jJ (qF u))),(jT.cells (jJ (qF u)))),(2,(bx (.val (.func (.func 192) #[] #[]))),(jT.cells (.val (.func (.func 192) #[] #[]))))]⟩
 |.S u hu v hv=>⟨(.clo 185 [2,3,4]),(.clo 186 [2,3,4]),(.clo 187 [2,3,4]),[(2,some (bx (.val (.func (.func 193) #[] #[])))),(3,some (bx (jJ (qF u)))),(4,some (bx (jJ (qF v))))],(uM u.v v.v),(fun i=>(uM (u.g.getD i z2) (v.g.getD i z2))),[2,3,4],[(4,(bx (jJ (qF v))),(jT.cells (jJ (qF v)))),(3,(bx (jJ (qF u))),(jT.cells (jJ (qF u)))),(2,(bx (.val (.func (.func 193) #[] #[]))),(jT.cells (.val (.func (.func 193) #[] #[]))))]⟩
 |.N u hu v hv=>⟨(.clo 185 [2,3,4]),(.clo 186 [2,3,4]),(.clo 187 [2,3,4]),[(2,some [(.clo 194 [5])]),(3,some (bx (jJ (qF u)))),(4,some (bx (jJ (qF v)))),(5,some (bx (jI (kS (gw 0)))))],(uM (gw 0) u.v),(fun i=>(uM (gw 0) (u.g.getD i z2))),[4,3,2,5],[(4,(bx (jJ (qF v))),(jT.cells (jJ (qF v)))),(3,(bx (jJ (qF u))),(jT.cells (jJ (qF u)))),(2,[(.clo 194 [5])],[(.clo 194 [(.cptr 1000000 (jT.cells (jI (kS (gw 0)))) 0)])]),(5,(bx (jI (kS (gw 0)))),(jT.cells (jI (kS (gw 0)))))]⟩
 |.M u hu v hv=>⟨(.clo 195 [2,3]),(.clo 197 [2,3]),(.clo 198 [2,3]),[(2,some (bx (jJ (qF u)))),(3,some (bx (jJ (qF v))))],(xC u.v v.v),(fun i=>(gH (xC u.v (v.g.getD i z2)) (xC v.v (u.g.getD i z2)))),[2,3],[(3,(bx (jJ (qF v))),(jT.cells (jJ (qF v)))),(2,(bx (jJ (qF u))),(jT.cells (jJ (qF u))))]⟩
 |.Q u hu tt htt=>⟨(.clo 199 [2]),(.clo 201 [3,2]),(.clo 202 [2,3]),[(2,some (bx (jJ (qF u)))),(3,some (bx (jI (kS tt))))],(gsq u.v),(fun i=>(xC tt (xC u.v (u.g.getD i z2)))),[2],[(2,(bx (jJ (qF u))),(jT.cells (jJ (qF u)))),(3,(bx (jI (kS tt))),(jT.cells (jI (kS tt))))]⟩
 |.D bb u hu v hv hz=>⟨(.clo 203 [2,3,4]),(.clo 205 [2,3,4]),(.clo 206 [3,4,2]),[(2,some [(.refx 0 0 bb)]),(3,some (bx (jJ (qF u)))),(4,some (bx (jJ (qF v))))],(eE u.v v.v),(fun i=>(eE (uM (u.g.getD i z2) (xC (eE u.v v.v) (v.g.getD i z2))) v.v)),[4,3,2,0,1],[(4,(bx (jJ (qF v))),(jT.cells (jJ (qF v)))),(3,(bx (jJ (qF u))),(jT.cells (jJ (qF u)))),(2,[(.refx 0 0 bb)],[(.cptr 1000000 (jT.cells (mcA n (.sl 1000000 10 (List.map jJ (List.map qF L))) false)) 0)]),(0,(xA n 1 L false),(jT.cells (mcA n (.sl 1000000 10 (List.map jJ (List.map qF L))) false))),(1,(xH L),(qH (List.map jJ (List.map qF L))))]⟩
theorem NK.hv{n:Nat}{L:List JV}(K:NK n L):GL 67108864 K.d.v:=match K with
 |.C p hp zz hzz=>(qX (gl_pt hp) (by decide))
 |.V bv hbx a zz hzz ha hbl=>(qX (vW hbx (by decide) a) (by decide))
 |.A u hu v hv=>(qX (gl_add (k:=2097153) hu.1 hv.1 (by decide)) (by decide))
 |.S u hu v hv=>(qX (aH (k:=2097153) hu.1 hv.1 (by decide)) (by decide))
 |.N u hu v hv=>(qX (aH (k:=1048580) (gl_w (z:=0) (by omega) (by omega)) hu.1 (by decide)) (by decide))
 |.M u hu v hv=>(qX (nB (k:=2097152) hu.1 hv.1 (by decide)) (by decide))
 |.Q u hu tt htt=>(qX (gl_sq (k:=2097152) hu.1 (by decide)) (by decide))
 |.D bb u hu v hv hz=>(qX (gl_div (k:=2097152) hu.1 hv.1 (by decide)) (by decide))
theorem NK.hg{n:Nat}{L:List JV}(K:NK n L)(i:Nat)(hi:i<n):GL 67108864 (K.d.g i):=match K with
 |.C p hp zz hzz=>(qX hzz (by decide))
 |.V bv hbx a zz hzz ha hbl=>(qX (gl_ite (gl_w (z:=1) (by omega) (by omega)) hzz) (by decide))
 |.A u hu v hv=>(qX (gl_add (k:=2097153) (vW hu.2.1 (by decide) i) (vW hv.2.1 (by decide) i) (by decide)) (by decide))
 |.S u hu v hv=>(qX (aH (k:=2097153) (vW hu.2.1 (by decide) i) (vW hv.2.1 (by decide) i) (by decide)) (by decide))
 |.N u hu v hv=>(qX (aH (k:=1048580) (gl_w (z:=0) (by omega) (by omega)) (vW hu.2.1 (by decide) i) (by decide)) (by decide))
 |.M u hu v hv=>(qX (gl_add (k:=4194305) (nB (k:=2097152) hu.1 (vW hv.2.1 (by decide) i) (by decide)) (nB (k:=2097152) hv.1 (vW hu.2.1 (by decide) i) (by decide)) (by decide)) (by decide))
 |.Q u hu tt htt=>(qX (nB (k:=2097155) htt (nB (k:=2097152) hu.1 (vW hu.2.1 (by decide) i) (by decide)) (by decide)) (by decide))
 |.D bb u hu v hv hz=>(qX (gl_div (k:=5242881) (aH (k:=4194305) (vW hu.2.1 (by decide) i) (nB (k:=3145728) (gl_div (k:=2097152) hu.1 hv.1 (by decide)) (vW hv.2.1 (by decide) i) (by decide)) (by decide)) hv.1 (by decide)) (by decide))
theorem nk_v{n:Nat}{L:List JV}(K:NK n L){o:Oper}{S:SL}{B:BS}{y:Operand}{ats:Array TypeId}(ho:o.op=.call { callee:=.value y,args:=#[],argTypes:=ats })(hy:ev (kI S) y=K.d.c1)(hb:K.d.k.map (fun k=>kB B k)=K.d.k.map (fun k=>kB ([(0,some (xA n 1 L false)),(1,some (xH L))]++K.d.X) k)):RKs Tryz.prog o S B K.d.k (.d (jI (kS K.d.v))):=match K with
 |.C p hp zz hzz=>oCc (ds:=[]) [2] [(jT.cells (kK (kN.mk 0 0 0 (jP p))))] (j_vC p hp) (xF (by decide) _) (ho:=ho) (hy:=hy) (hx:=rfl) (qU:=rfl) (hb:=hb)
 |.V bv hbx a zz hzz ha hbl=>oCc (ds:=[]) [2,3] [(jT.cells (.sl 61 8 (List.map jI (List.map kS bv)))),(jT.cells (kK (kN.mk 1 ((a:Nat):Int) 0 qM)))] (j_vV bv hbx a ha hbl) (xF (by decide) _) (ho:=ho) (hy:=hy) (hx:=rfl) (qU:=rfl) (hb:=hb)
 |.A u hu v hv=>oCc (ds:=[]) [2,3,4] [(jT.cells (.val (.func (.func 192) #[] #[]))),(jT.cells (jJ (qF u))),(jT.cells (jJ (qF v)))] (j_vAdd n u hu v hv) (xF (by decide) _) (ho:=ho) (hy:=hy) (hx:=rfl) (qU:=rfl) (hb:=hb)
 |.S u hu v hv=>oCc (ds:=[]) [2,3,4] [(jT.cells (.val (.func (.func 193) #[] #[]))),(jT.cells (jJ (qF u))),(jT.cells (jJ (qF v)))] (j_vSub n u hu v hv) (xF (by decide) _) (ho:=ho) (hy:=hy) (hx:=rfl) (qU:=rfl) (hb:=hb)
 |.N u hu v hv=>oCh [(4,(bx (jJ (qF v))),(jT.cells (jJ (qF v)))),(3,(bx (jJ (qF u))),(jT.cells (jJ (qF u)))),(2,[(.clo 194 [5])],[(.clo 194 [(.cptr 1000000 (jT.cells (jI (kS (gw 0)))) 0)])]),(5,(bx (jI (kS (gw 0)))),(jT.cells (jI (kS (gw 0)))))] [.ref 2 0,.ref 3 0,.ref 4 0] (j_vNeg n u hu v hv) (.cons (.r (.tail _ (.tail _ (.head _)))) (.cons (.r (.tail _ (.head _))) (.cons (.r (.head _)) .nil))) (.cons (.all rfl) (.cons (.all rfl) (.cons (.cons (.f (css:=[(jT.cells (jI (kS (gw 0))))]) (.cons (.head _) .nil)) .nil) (.cons (.all rfl) .nil)))) (xF (by decide) _) (ex:=[.ref 2 0,.ref 3 0,.ref 4 0]) (xs:=[]) (ho:=ho) (hy:=.clo (kk:=[2,3,4]) hy rfl) (hx:=rfl) (hb:=hb)
 |.M u hu v hv=>oCc (ds:=[]) [2,3] [(jT.cells (jJ (qF u))),(jT.cells (jJ (qF v)))] (j_vM n u hu v hv) (xF (by decide) _) (ho:=ho) (hy:=hy) (hx:=rfl) (qU:=rfl) (hb:=hb)
 |.Q u hu tt htt=>oCc (ds:=[]) [2] [(jT.cells (jJ (qF u)))] (j_vQ n u hu) (xF (by decide) _) (ho:=ho) (hy:=hy) (hx:=rfl) (qU:=rfl) (hb:=hb)
 |.D bb u hu v hv hz=>oCh [(4,(bx (jJ (qF v))),(jT.cells (jJ (qF v)))),(3,(bx (jJ (qF u))),(jT.cells (jJ (qF u)))),(2,[(.refx 0 0 bb)],[(.cptr 1000000 (jT.cells (mcA n (.sl 1000000 10 (List.map jJ (List.map qF L))) false)) 0)]),(0,(xA n 1 L false),(jT.cells (mcA n (.sl 1000000 10 (List.map jJ (List.map qF L))) false))),(1,(xH L),(qH (List.map jJ (List.map qF L))))] [.ref 2 0,.ref 3 0,.ref 4 0] (j_vD n (.sl 1000000 10 (List.map jJ (List.map qF L))) u hu v hv hz) (.cons (.r (.tail _ (.tail _ (.head _)))) (.cons (.r (.tail _ (.head _))) (.cons (.r (.head _)) .nil))) (.cons (.all rfl) (.cons (.all rfl) (.cons (.cons (.x (.head _)) .nil) (.cons (.cons .d (.cons .d (.cons .d (.cons (fU (F:=jJ) (L:=(List.map qF L)) (.head _) (fun _=>rfl) rfl) (.cons .d .nil))))) (.cons (.all (by exact rfl)) .nil))))) (xF (by decide) _) (ex:=[.ref 2 0,.ref 3 0,.ref 4 0]) (xs:=[]) (ho:=ho) (hy:=.clo (kk:=[2,3,4]) hy rfl) (hx:=rfl) (hb:=hb)
def nk_bl{n:Nat}{L:List JV}(K:NK n L)(gl:List jW):List VBlk:=K.d.b++[(6,(bx (jI (kS K.d.v))++[(.own 7 61 8 gl.length),(.own 8 86 1 0)]),(jT.cells (.agg (jT.cells (jI (kS K.d.v))++[(.sl 1000000 8 (List.map jI gl)),(.sl 1000000 1 (List.map uZ []))])))),(8,(bm uZ []),(qH (List.map uZ []))),(7,(cC jI gl),(qH (List.map jI gl)))]
theorem nk_vb(v:R2)(gl:List jW):VBlks 1000000 [(6,(bx (jI (kS v))++[(.own 7 61 8 gl.length),(.own 8 86 1 0)]),(jT.cells (.agg (jT.cells (jI (kS v))++[(.sl 1000000 8 (List.map jI gl)),(.sl 1000000 1 (List.map uZ []))])))),(8,(bm uZ []),(qH (List.map uZ []))),(7,(cC jI gl),(qH (List.map jI gl)))]:=(.cons (.cons .d (.cons .d (.cons .d (.cons .d (.cons .d (.cons .d (.cons .d (.cons .d (.cons (fU (F:=jI) (L:=gl) (.tail _ (.head _)) (fun _=>rfl) rfl) (.cons (fU (F:=uZ) (L:=[]) (.head _) (fun _=>rfl) rfl) .nil)))))))))) (.cons (sees_bm (fun _=>rfl)) (.cons (.all (by exact rfl)) .nil)))
theorem nk_g{n:Nat}{L:List JV}(K:NK n L){i:Nat}(hi:i<n)(gl:List jW){o:Oper}{S:SL}{B:BS}{y:Operand}{xs:List Operand}{ats:Array TypeId}(ho:o.op=.call { callee:=.value y,args:=xs.toArray,argTypes:=ats })(hy:ev (kI S) y=K.d.c2)(hx:xs.map (ev (kI S))=[.ref 6 0,jV i])(hb:(nk_bl K gl).map (fun p=>kB B p.1)=(nk_bl K gl).map (fun p=>some p.2.1)):RKs Tryz.prog o S B (K.d.b.map (·.1)++[6,8,7]) (.d (jI (kS (K.d.g i)))):=match K with
 |.C p hp zz hzz=>oCh (nk_bl (.C p hp zz hzz) gl) [(.ref 6 0),(jV i),.ref 3 0] (j_gC _ i zz hzz) (.cons (.r (.tail _ (.head _))) (.cons .d (.cons (.r (.head _)) .nil))) (.cons (.all rfl) (nk_vb _ gl)) (xF (by decide) _) (ex:=[.ref 3 0]) (ho:=ho) (hy:=.clo (kk:=[3]) hy rfl) (hx:=by rw[hx];rfl) (hb:=hb)
 |.V bv hbx a zz hzz ha hbl=>oCh (nk_bl (.V bv hbx a zz hzz ha hbl) gl) [(.ref 6 0),(jV i),.ref 3 0,.ref 4 0] (j_gV _ i a zz hzz) (.cons (.r (.tail _ (.tail _ (.head _)))) (.cons .d (.cons (.r (.tail _ (.head _))) (.cons (.r (.head _)) .nil)))) (.cons (.all rfl) (.cons (.all rfl) (nk_vb _ gl))) (xF (by decide) _) (ex:=[.ref 3 0,.ref 4 0]) (ho:=ho) (hy:=.clo (kk:=[3,4]) hy rfl) (hx:=by rw[hx];rfl) (hb:=hb)
 |.A u hu v hv=>oCh (nk_bl (.A u hu v hv) gl) [(.ref 6 0),(jV i),.ref 2 0,.ref 3 0,.ref 4 0] (j_gAdd _ i n u hu v hv (by omega)) (.cons (.r (.tail _ (.tail _ (.tail _ (.head _))))) (.cons .d (.cons (.r (.tail _ (.tail _ (.head _)))) (.cons (.r (.tail _ (.head _))) (.cons (.r (.head _)) .nil))))) (.cons (.all rfl) (.cons (.all rfl) (.cons (.all rfl) (nk_vb _ gl)))) (xF (by decide) _) (ex:=[.ref 2 0,.ref 3 0,.ref 4 0]) (ho:=ho) (hy:=.clo (kk:=[2,3,4]) hy rfl) (hx:=by rw[hx];rfl) (hb:=hb)
 |.S u hu v hv=>oCh (nk_bl (.S u hu v hv) gl) [(.ref 6 0),(jV i),.ref 2 0,.ref 3 0,.ref 4 0] (j_gSub _ i n u hu v hv (by omega)) (.cons (.r (.tail _ (.tail _ (.tail _ (.head _))))) (.cons .d (.cons (.r (.tail _ (.tail _ (.head _)))) (.cons (.r (.tail _ (.head _))) (.cons (.r (.head _)) .nil))))) (.cons (.all rfl) (.cons (.all rfl) (.cons (.all rfl) (nk_vb _ gl)))) (xF (by decide) _) (ex:=[.ref 2 0,.ref 3 0,.ref 4 0]) (ho:=ho) (hy:=.clo (kk:=[2,3,4]) hy rfl) (hx:=by rw[hx];rfl) (hb:=hb)
 |.N u hu v hv=>oCh (nk_bl (.N u hu v hv) gl) [(.ref 6 0),(jV i),.ref 2 0,.ref 3 0,.ref 4 0] (j_gNeg _ i n u hu v hv (by omega)) (.cons (.r (.tail _ (.tail _ (.tail _ (.tail _ (.head _)))))) (.cons .d (.cons (.r (.tail _ (.tail _ (.head _)))) (.cons (.r (.tail _ (.head _))) (.cons (.r (.head _)) .nil))))) (.cons (.all rfl) (.cons (.all rfl) (.cons (.cons (.f (css:=[(jT.cells (jI (kS (gw 0))))]) (.cons (.head _) .nil)) .nil) (.cons (.all rfl) (nk_vb _ gl))))) (xF (by decide) _) (ex:=[.ref 2 0,.ref 3 0,.ref 4 0]) (ho:=ho) (hy:=.clo (kk:=[2,3,4]) hy rfl) (hx:=by rw[hx];rfl) (hb:=hb)
 |.M u hu v hv=>oCh (nk_bl (.M u hu v hv) gl) [(.ref 6 0),(jV i),.ref 2 0,.ref 3 0] (j_gM _ i n u hu v hv (by omega)) (.cons (.r (.tail _ (.tail _ (.head _)))) (.cons .d (.cons (.r (.tail _ (.head _))) (.cons (.r (.head _)) .nil)))) (.cons (.all rfl) (.cons (.all rfl) (nk_vb _ gl))) (xF (by decide) _) (ex:=[.ref 2 0,.ref 3 0]) (ho:=ho) (hy:=.clo (kk:=[2,3]) hy rfl) (hx:=by rw[hx];rfl) (hb:=hb)
 |.Q u hu tt htt=>oCh (nk_bl (.Q u hu tt htt) gl) [(.ref 6 0),(jV i),.ref 3 0,.ref 2 0] (j_gQ _ i tt htt n u hu (by omega)) (.cons (.r (.tail _ (.tail _ (.head _)))) (.cons .d (.cons (.r (.tail _ (.head _))) (.cons (.r (.head _)) .nil)))) (.cons (.all rfl) (.cons (.all rfl) (nk_vb _ gl))) (xF (by decide) _) (ex:=[.ref 3 0,.ref 2 0]) (ho:=ho) (hy:=.clo (kk:=[3,2]) hy rfl) (hx:=by rw[hx];rfl) (hb:=hb)
 |.D bb u hu v hv hz=>oCh (nk_bl (.D bb u hu v hv hz) gl) [(.ref 6 0),(jV i),.ref 2 0,.ref 3 0,.ref 4 0] (j_gD (eE u.v v.v) (gl_div (k:=2097152) hu.1 hv.1 (by decide)) (.sl 1000000 8 (List.map jI gl)) (.sl 1000000 1 (List.map uZ [])) i n (.sl 1000000 10 (List.map jJ (List.map qF L))) u hu v hv hz (by omega)) (.cons (.r (.tail _ (.tail _ (.tail _ (.tail _ (.tail _ (.head _))))))) (.cons .d (.cons (.r (.tail _ (.tail _ (.head _)))) (.cons (.r (.tail _ (.head _))) (.cons (.r (.head _)) .nil))))) (.cons (.all rfl) (.cons (.all rfl) (.cons (.cons (.x (.head _)) .nil) (.cons (.cons .d (.cons .d (.cons .d (.cons (fU (F:=jJ) (L:=(List.map qF L)) (.head _) (fun _=>rfl) rfl) (.cons .d .nil))))) (.cons (.all (by exact rfl)) (nk_vb _ gl)))))) (xF (by decide) _) (ex:=[.ref 2 0,.ref 3 0,.ref 4 0]) (ho:=ho) (hy:=.clo (kk:=[2,3,4]) hy rfl) (hx:=by rw[hx];rfl) (hb:=hb)
set_option maxHeartbeats 4000000 in
theorem fW(n:Nat)(L:List JV)(K0:NK n L)(hn:n≤64)(hL:L.length≤1000):let K:=K0;vO Tryz.prog 184 [(.ref 0 0),K.d.c1,K.d.c2,K.d.c3] ([(0,some (xA n 1 L false)),(1,some (xH L))]++K.d.X) (.d (.tup [])) [(0,some (xA n 10 (L++[(jk K.d.v (fun i=>(K.d.g i)) n)]) false)),(10,some (xH (L++[(jk K.d.v (fun i=>(K.d.g i)) n)])))]:=by
 cases K0
 all_goals
  intro K
  refine nQ Tryz.func184 rfl cb184 rfl ?_
  show qK _ _ _ _ ⟨[(0,(.ref 0 0)),(1,K.d.c1),(2,K.d.c2),(3,K.d.c3)],([(0,some (xA n 1 L false)),(1,some (xH L))]++K.d.X)⟩
  refine jB<|kx [(8,(.ref 6 0))] [(6,some (bx (.agg (jT.cells (jI (kS K.d.v))++[(.val (.slice none 0 0)),(.val (.slice none 0 0))]))))] (zM<|zM<|zC (nk_v K (by exact rfl) (by kernel_rfl) (by kernel_rfl))<|zC (oCh [(0,(xA n 1 L false),(jT.cells (mcA n (.sl 1000000 10 (List.map jJ (List.map qF L))) false))),(1,(xH L),(qH (List.map jJ (List.map qF L))))] [(.ref 0 0),(.d (jI (kS K.d.v)))] (j_round n (.sl 1000000 10 (List.map jJ (List.map qF L))) K.d.v K.hv) (.cons (.r (.head _)) (.cons .d .nil)) (.cons (.cons .d (.cons .d (.cons .d (.cons (fU (F:=jJ) (L:=(List.map qF L)) (.head _) (fun _=>rfl) rfl) (.cons .d .nil))))) (.cons (.all (by exact rfl)) .nil)) (xF (by decide) _) (ex:=[]))<|zE (bB pl95 ze95 zn95)<|zH (uB 6 ze95 zo95)<|zT (qD eT)<|zZ) ?_
  refine jB<|jB<|kx [(22,(vb true))] [] (zM<|zE oNc<|zE (kZ fo161_1)<|zR (qS hP)<|zE (xD true mT)<|zZ) ?_
  refine vP ?_
  refine jB<|pwp_own 6 8 7 61 8 (cs:=(bx (.agg (jT.cells (jI (kS K.d.v))++[(.val (.slice none 0 0)),(.val (.slice none 0 0))])))) (h:=?_)
  refine kW (wk (l:=[(0,(.ref 0 0)),(1,K.d.c1),(2,K.d.c2),(3,K.d.c3),(8,(.ref 6 0)),(22,(vb true))]) (b:=([(0,some (xA n 1 L false)),(1,some (xH L)),(6,some (bx (jI (kS K.d.v))++[(.own 7 61 8 0),(.d (.val (.slice none 0 0)))])),(7,some (cC jI []))]++K.d.X))) ?_
  refine pwp_own 6 9 8 86 1 (cs:=(bx (jI (kS K.d.v))++[(.own 7 61 8 0),(.d (.val (.slice none 0 0)))])) (h:=?_)
  refine kW (wk (l:=[(0,(.ref 0 0)),(1,K.d.c1),(2,K.d.c2),(3,K.d.c3),(8,(.ref 6 0)),(22,(vb true))]) (b:=([(0,some (xA n 1 L false)),(1,some (xH L)),(6,some (bx (jI (kS K.d.v))++[(.own 7 61 8 0),(.own 8 86 1 0)])),(7,some (cC jI [])),(8,some (bm uZ []))]++K.d.X))) ?_
  refine kx [(26,(jV n)),(27,(jV 0))] [] (zM<|zE oNc<|zE (kZ fo161_0)<|zR (qS hP)<|zM<|zZ) ?_
  refine jH<|kL (α:=Nat × List jW) (fun (i,gl)=>⟨[(0,(.ref 0 0)),(1,K.d.c1),(2,K.d.c2),(3,K.d.c3),(8,(.ref 6 0)),(26,(jV n)),(27,(jV i))],([(0,some (xA n 1 L false)),(1,some (xH L)),(6,some (bx (jI (kS K.d.v))++[(.own 7 61 8 gl.length),(.own 8 86 1 0)])),(7,some (cC jI gl)),(8,some (bm uZ []))]++K.d.X)⟩) (fun (i,gl)=>i≤n∧gl=List.map kS (List.map (fun (i:Nat)=>(K.d.g i)) (List.range i))) (fun (i,gl)=>n-i) (0,[]) wk ⟨Nat.zero_le _,rfl⟩ ?_
  rintro ⟨i,gl⟩ ⟨hi,hg⟩
  have hgl:gl.length=i:=jk_len (G:=(fun (i:Nat)=>(K.d.g i))) hg
  refine jB<|kx [(28,(vb (decide (((i:Nat):Int)<((n:Nat):Int)))))] [] (zE xT<|zZ) ?_
  refine jB<|jF rfl (fun h1=>?_) (fun h1=>?_)
  ·replace h1:=vI h1
   refine jD<|jB<|jH<|jB<|kx [(9,(jV i))] [] (zM<|zM<|zZ) ?_
   refine kd [] [(6,some (bx (jI (kS K.d.v))++[(.own 9 61 8 ((gl++[(kS (K.d.g i))]).length)),(.own 8 86 1 0)])),(9,some (cC jI (gl++[(kS (K.d.g i))]))),(7,none)] mo (wE (kZ nW)<|wR (qS bQ)<|wM<|wM<|wM<|wC (nk_g K (Int.ofNat_lt.1 h1) gl (by exact rfl) (by kernel_rfl) (by kernel_rfl) (by kernel_rfl))<|wC (oCh [(0,(xA n 1 L false),(jT.cells (mcA n (.sl 1000000 10 (List.map jJ (List.map qF L))) false))),(1,(xH L),(qH (List.map jJ (List.map qF L))))] [(.ref 0 0),(.d (jI (kS (K.d.g i))))] (j_round n (.sl 1000000 10 (List.map jJ (List.map qF L))) (K.d.g i) (K.hg i (by omega))) (.cons (.r (.head _)) (.cons .d .nil)) (.cons (.cons .d (.cons .d (.cons .d (.cons (fU (F:=jJ) (L:=(List.map qF L)) (.head _) (fun _=>rfl) rfl) (.cons .d .nil))))) (.cons (.all (by exact rfl)) .nil)) (xF (by decide) _) (ex:=[]))<|wE (dG gN uC uH)<|wAS (k:=7) 9 jI gl [(kS (K.d.g i))] rfl gN uC by61<|wE (kZ nW)<|wT (oSx bQ)<|wZ) ?_
   refine kW (wk (l:=[(0,(.ref 0 0)),(1,K.d.c1),(2,K.d.c2),(3,K.d.c3),(8,(.ref 6 0)),(26,(jV n)),(27,(jV i))]) (b:=([(0,some (xA n 1 L false)),(1,some (xH L)),(6,some (bx (jI (kS K.d.v))++[(.own 9 61 8 ((gl++[(kS (K.d.g i))]).length)),(.own 8 86 1 0)])),(8,some (bm uZ [])),(9,some (cC jI (gl++[(kS (K.d.g i))])))]++K.d.X))) ?_
   refine kW (sim_ren2 (S':=[(0,(.ref 0 0)),(1,K.d.c1),(2,K.d.c2),(3,K.d.c3),(8,(.ref 6 0)),(26,(jV n)),(27,(jV i))]) (B':=([(0,some (xA n 1 L false)),(1,some (xH L)),(6,some (bx (jI (kS K.d.v))++[(.own 7 61 8 ((gl++[(kS (K.d.g i))]).length)),(.own 8 86 1 0)])),(7,some (cC jI (gl++[(kS (K.d.g i))]))),(8,some (bm uZ []))]++K.d.X)) 7 9 6) ?_
   refine kx [(27,(jV (i+1)))] [] (zE (vY (i+1))<|zM<|zZ) ?_
   exact ⟨(i+1,gl++[kS (K.d.g i)]),wk,⟨by omega,jk_push (G:=(fun (i:Nat)=>(K.d.g i))) hg⟩,(by first|omega|(dsimp only;omega))⟩
  ·replace h1:=vM h1
   refine kJ<|jB<|jB<|kx [(45,(vb false))] [] (zM<|zE oNc<|zE (kZ fo161_1)<|zR (qS hP)<|zE (xD false mT)<|zZ) ?_
   refine kY ?_
   refine jD<|kW (publishAt (j:=6) (k:=7) (pre:=(bx (jI (kS K.d.v)))) (post:=[(.own 8 86 1 0)]) (es:=List.map jI gl) rfl (by decide) rfl (nD _ _ (fun _=>rfl)) (uT _ _ rfl) (mL jI gl (fun _=>rfl) rfl)) ?_
   refine kW (wk (l:=[(0,(.ref 0 0)),(1,K.d.c1),(2,K.d.c2),(3,K.d.c3),(8,(.ref 6 0)),(45,(vb false))]) (b:=([(0,some (xA n 1 L false)),(1,some (xH L)),(6,some (bx (jI (kS K.d.v))++[(vl 61 8 jI gl),(.own 8 86 1 0)])),(8,some (bm uZ []))]++K.d.X))) ?_
   refine kW (publishAt (j:=6) (k:=8) (pre:=(bx (jI (kS K.d.v))++[(vl 61 8 jI gl)])) (post:=[]) (es:=List.map uZ []) rfl (by decide) rfl (uS _ _ (fun _=>rfl)) (uT _ _ rfl) (vS _ _ (fun _=>rfl) rfl)) ?_
   refine kW (wk (l:=[(0,(.ref 0 0)),(1,K.d.c1),(2,K.d.c2),(3,K.d.c3),(8,(.ref 6 0)),(45,(vb false))]) (b:=([(0,some (xA n 1 L false)),(1,some (xH L)),(6,some (bx (jJ (nE.mk (kS K.d.v) gl []))))]++K.d.X))) ?_
   refine kd [] [(0,some [(jV n),(jV 1),(vi (-1)),(.own 10 95 10 (((List.map qF L)++[(nE.mk (kS K.d.v) gl [])]).length)),(vb false)]),(10,some (cC jJ ((List.map qF L)++[(nE.mk (kS K.d.v) gl [])]))),(1,none)] mo (wM<|wM<|wE oNc<|wE (kZ mZ)<|wR (qS sh143)<|wR (kO eT)<|wE (dG el143 ze95 zo95)<|wAS (k:=1) 10 jJ (List.map qF L) [(nE.mk (kS K.d.v) gl [])] rfl el143 ze95 by95<|wE oNc<|wE (kZ mZ)<|wT (oSx sh143)<|wZ) ?_
   have hJ:List.map qF (L++[(jk K.d.v (fun i=>(K.d.g i)) n)])=List.map qF L++[nE.mk (kS K.d.v) gl []]:=by rw[List.map_append,hg,show i=n by omega];rfl
   unfold xA xH
   rw[hJ]
   refine ⟨zL (by kernel_rfl),gL (by kernel_rfl),.inl ⟨_,.nil,?_⟩⟩
   rfl
theorem e_nodeC(n:Nat)(L:List JV)(p:Rat)(hp:QL p 1048576)(zz:R2)(hzz:GL 3 zz)(hn:n≤64)(hL:L.length≤1000):vO Tryz.prog 184 [(.ref 0 0),(.clo 188 [2]),(.clo 189 [3]),(.clo 181 [3])] [(0,some (xA n 1 L false)),(1,some (xH L)),(2,some (bx (kK (kN.mk 0 0 0 (jP p))))),(3,some (bx (jI (kS zz))))] (.d (.tup [])) [(0,some (xA n 10 (L++[(jk (gD p) (fun i=>zz) n)]) false)),(10,some (xH (L++[(jk (gD p) (fun i=>zz) n)])))]:=fW n L (.C p hp zz hzz) hn hL
theorem e_nodeV(n:Nat)(L:List JV)(bv:List R2)(hbx:∀ x∈bv,GL 1048576 x)(a:Nat)(zz:R2)(hzz:GL 3 zz)(hn:n≤64)(hL:L.length≤1000)(ha:a<bv.length)(hbl:bv.length≤1000000):vO Tryz.prog 184 [(.ref 0 0),(.clo 190 [2,3]),(.clo 191 [3,4]),(.clo 181 [4])] [(0,some (xA n 1 L false)),(1,some (xH L)),(2,some (bx (.sl 61 8 (List.map jI (List.map kS bv))))),(3,some (bx (kK (kN.mk 1 ((a:Nat):Int) 0 qM)))),(4,some (bx (jI (kS zz))))] (.d (.tup [])) [(0,some (xA n 10 (L++[(jk (bv.getD a z2) (fun i=>(if ((i:Nat):Int)=((a:Nat):Int) then gw 1 else zz)) n)]) false)),(10,some (xH (L++[(jk (bv.getD a z2) (fun i=>(if ((i:Nat):Int)=((a:Nat):Int) then gw 1 else zz)) n)])))]:=fW n L (.V bv hbx a zz hzz ha hbl) hn hL
theorem e_nodeA(n:Nat)(L:List JV)(u:JV)(hu:nY 1048576 n u)(v:JV)(hv:nY 1048576 n v)(hn:n≤64)(hL:L.length≤1000):vO Tryz.prog 184 [(.ref 0 0),(.clo 185 [2,3,4]),(.clo 186 [2,3,4]),(.clo 187 [2,3,4])] [(0,some (xA n 1 L false)),(1,some (xH L)),(2,some (bx (.val (.func (.func 192) #[] #[])))),(3,some (bx (jJ (qF u)))),(4,some (bx (jJ (qF v))))] (.d (.tup [])) [(0,some (xA n 10 (L++[(jk (gH u.v v.v) (fun i=>(gH (u.g.getD i z2) (v.g.getD i z2))) n)]) false)),(10,some (xH (L++[(jk (gH u.v v.v) (fun i=>(gH (u.g.getD i z2) (v.g.getD i z2))) n)])))]:=fW n L (.A u hu v hv) hn hL
theorem e_nodeS(n:Nat)(L:List JV)(u:JV)(hu:nY 1048576 n u)(v:JV)(hv:nY 1048576 n v)(hn:n≤64)(hL:L.length≤1000):vO Tryz.prog 184 [(.ref 0 0),(.clo 185 [2,3,4]),(.clo 186 [2,3,4]),(.clo 187 [2,3,4])] [(0,some (xA n 1 L false)),(1,some (xH L)),(2,some (bx (.val (.func (.func 193) #[] #[])))),(3,some (bx (jJ (qF u)))),(4,some (bx (jJ (qF v))))] (.d (.tup [])) [(0,some (xA n 10 (L++[(jk (uM u.v v.v) (fun i=>(uM (u.g.getD i z2) (v.g.getD i z2))) n)]) false)),(10,some (xH (L++[(jk (uM u.v v.v) (fun i=>(uM (u.g.getD i z2) (v.g.getD i z2))) n)])))]:=fW n L (.S u hu v hv) hn hL
theorem e_nodeN(n:Nat)(L:List JV)(u:JV)(hu:nY 1048576 n u)(v:JV)(hv:nY 1048576 n v)(hn:n≤64)(hL:L.length≤1000):vO Tryz.prog 184 [(.ref 0 0),(.clo 185 [2,3,4]),(.clo 186 [2,3,4]),(.clo 187 [2,3,4])] [(0,some (xA n 1 L false)),(1,some (xH L)),(2,some [(.clo 194 [5])]),(3,some (bx (jJ (qF u)))),(4,some (bx (jJ (qF v)))),(5,some (bx (jI (kS (gw 0)))))] (.d (.tup [])) [(0,some (xA n 10 (L++[(jk (uM (gw 0) u.v) (fun i=>(uM (gw 0) (u.g.getD i z2))) n)]) false)),(10,some (xH (L++[(jk (uM (gw 0) u.v) (fun i=>(uM (gw 0) (u.g.getD i z2))) n)])))]:=fW n L (.N u hu v hv) hn hL
theorem e_nodeM(n:Nat)(L:List JV)(u:JV)(hu:nY 1048576 n u)(v:JV)(hv:nY 1048576 n v)(hn:n≤64)(hL:L.length≤1000):vO Tryz.prog 184 [(.ref 0 0),(.clo 195 [2,3]),(.clo 197 [2,3]),(.clo 198 [2,3])] [(0,some (xA n 1 L false)),(1,some (xH L)),(2,some (bx (jJ (qF u)))),(3,some (bx (jJ (qF v))))] (.d (.tup [])) [(0,some (xA n 10 (L++[(jk (xC u.v v.v) (fun i=>(gH (xC u.v (v.g.getD i z2)) (xC v.v (u.g.getD i z2)))) n)]) false)),(10,some (xH (L++[(jk (xC u.v v.v) (fun i=>(gH (xC u.v (v.g.getD i z2)) (xC v.v (u.g.getD i z2)))) n)])))]:=fW n L (.M u hu v hv) hn hL
theorem e_nodeQ(n:Nat)(L:List JV)(u:JV)(hu:nY 1048576 n u)(tt:R2)(htt:GL 3 tt)(hn:n≤64)(hL:L.length≤1000):vO Tryz.prog 184 [(.ref 0 0),(.clo 199 [2]),(.clo 201 [3,2]),(.clo 202 [2,3])] [(0,some (xA n 1 L false)),(1,some (xH L)),(2,some (bx (jJ (qF u)))),(3,some (bx (jI (kS tt))))] (.d (.tup [])) [(0,some (xA n 10 (L++[(jk (gsq u.v) (fun i=>(xC tt (xC u.v (u.g.getD i z2)))) n)]) false)),(10,some (xH (L++[(jk (gsq u.v) (fun i=>(xC tt (xC u.v (u.g.getD i z2)))) n)])))]:=fW n L (.Q u hu tt htt) hn hL
theorem e_nodeD(n:Nat)(L:List JV)(bb:Nat)(u:JV)(hu:nY 1048576 n u)(v:JV)(hv:nY 1048576 n v)(hn:n≤64)(hL:L.length≤1000)(hz:gP v.v.1 v.v.2=false):vO Tryz.prog 184 [(.ref 0 0),(.clo 203 [2,3,4]),(.clo 205 [2,3,4]),(.clo 206 [3,4,2])] [(0,some (xA n 1 L false)),(1,some (xH L)),(2,some [(.refx 0 0 bb)]),(3,some (bx (jJ (qF u)))),(4,some (bx (jJ (qF v))))] (.d (.tup [])) [(0,some (xA n 10 (L++[(jk (eE u.v v.v) (fun i=>(eE (uM (u.g.getD i z2) (xC (eE u.v v.v) (v.g.getD i z2))) v.v)) n)]) false)),(10,some (xH (L++[(jk (eE u.v v.v) (fun i=>(eE (uM (u.g.getD i z2) (xC (eE u.v v.v) (v.g.getD i z2))) v.v)) n)])))]:=fW n L (.D bb u hu v hv hz) hn hL
theorem cb183:callB Tryz.prog 183=true:=by kernel_rfl
theorem e_linA(n:Nat)(L:List JV)(bb:Nat)(u:JV)(hu:nY 1048576 n u)(v:JV)(hv:nY 1048576 n v)(hn:n≤64)(hL:L.length≤1000):vO Tryz.prog 183 [(.d (.val (.func (.func 192) #[] #[]))),(.ref 2 0),(.ref 3 0),(.ref 4 0)] [(0,some (xA n 1 L false)),(1,some (xH L)),(2,some [(.refx 0 0 bb)]),(3,some (bx (jJ (qF u)))),(4,some (bx (jJ (qF v))))] (.d (.tup [])) [(0,some (xA n 11 (L++[(jk (gH u.v v.v) (fun i=>(gH (u.g.getD i z2) (v.g.getD i z2))) n)]) false)),(11,some (xH (L++[(jk (gH u.v v.v) (fun i=>(gH (u.g.getD i z2) (v.g.getD i z2))) n)]))),(2,some [(.refx 0 0 bb)])]:=by
 refine nQ Tryz.func183 rfl cb183 rfl ?_
 show qK _ _ _ _ ⟨[(0,(.d (.val (.func (.func 192) #[] #[])))),(1,(.ref 2 0)),(2,(.ref 3 0)),(3,(.ref 4 0))],[(0,some (xA n 1 L false)),(1,some (xH L)),(2,some [(.refx 0 0 bb)]),(3,some (bx (jJ (qF u)))),(4,some (bx (jJ (qF v))))]⟩
 refine jB<|kx [(4,(.ref 5 0))] [(5,some (bx (.val (.func (.func 192) #[] #[]))))] (zH (vN 5)<|zZ) ?_
 refine kf [] [(0,some (xA n 11 (L++[(jk (gH u.v v.v) (fun i=>(gH (u.g.getD i z2) (v.g.getD i z2))) n)]) false)),(11,some (xH (L++[(jk (gH u.v v.v) (fun i=>(gH (u.g.getD i z2) (v.g.getD i z2))) n)]))),(1,none),(10,none),(3,none),(4,none),(5,none),(6,none),(7,none),(8,none),(9,none)] (zR (oLx eC)<|zE (oMf [5,3,4])<|zE (oMf [5,3,4])<|zE (oMf [5,3,4])<|zSe (B2:=[(0,some (xA n 1 L false)),(1,some (xH L)),(5,some (bx (.val (.func (.func 192) #[] #[])))),(3,some (bx (jJ (qF u)))),(4,some (bx (jJ (qF v))))]) (B2':=[(0,some (xA n 11 (L++[(jk (gH u.v v.v) (fun i=>(gH (u.g.getD i z2) (v.g.getD i z2))) n)]) false)),(11,some (xH (L++[(jk (gH u.v v.v) (fun i=>(gH (u.g.getD i z2) (v.g.getD i z2))) n)])))]) [0,1,5,3,4,6,7,8,9,10,11] [0,5,3,4] (e_nodeA n L u hu v hv hn hL)<|zF) ?_
 refine ⟨zL (by kernel_rfl),gL (by kernel_rfl),.inl ⟨_,.nil,?_⟩⟩
 rfl
theorem e_linS(n:Nat)(L:List JV)(bb:Nat)(u:JV)(hu:nY 1048576 n u)(v:JV)(hv:nY 1048576 n v)(hn:n≤64)(hL:L.length≤1000):vO Tryz.prog 183 [(.d (.val (.func (.func 193) #[] #[]))),(.ref 2 0),(.ref 3 0),(.ref 4 0)] [(0,some (xA n 1 L false)),(1,some (xH L)),(2,some [(.refx 0 0 bb)]),(3,some (bx (jJ (qF u)))),(4,some (bx (jJ (qF v))))] (.d (.tup [])) [(0,some (xA n 11 (L++[(jk (uM u.v v.v) (fun i=>(uM (u.g.getD i z2) (v.g.getD i z2))) n)]) false)),(11,some (xH (L++[(jk (uM u.v v.v) (fun i=>(uM (u.g.getD i z2) (v.g.getD i z2))) n)]))),(2,some [(.refx 0 0 bb)])]:=by
 refine nQ Tryz.func183 rfl cb183 rfl ?_
 show qK _ _ _ _ ⟨[(0,(.d (.val (.func (.func 193) #[] #[])))),(1,(.ref 2 0)),(2,(.ref 3 0)),(3,(.ref 4 0))],[(0,some (xA n 1 L false)),(1,some (xH L)),(2,some [(.refx 0 0 bb)]),(3,some (bx (jJ (qF u)))),(4,some (bx (jJ (qF v))))]⟩
 refine jB<|kx [(4,(.ref 5 0))] [(5,some (bx (.val (.func (.func 193) #[] #[]))))] (zH (vN 5)<|zZ) ?_
 refine kf [] [(0,some (xA n 11 (L++[(jk (uM u.v v.v) (fun i=>(uM (u.g.getD i z2) (v.g.getD i z2))) n)]) false)),(11,some (xH (L++[(jk (uM u.v v.v) (fun i=>(uM (u.g.getD i z2) (v.g.getD i z2))) n)]))),(1,none),(10,none),(3,none),(4,none),(5,none),(6,none),(7,none),(8,none),(9,none)] (zR (oLx eC)<|zE (oMf [5,3,4])<|zE (oMf [5,3,4])<|zE (oMf [5,3,4])<|zSe (B2:=[(0,some (xA n 1 L false)),(1,some (xH L)),(5,some (bx (.val (.func (.func 193) #[] #[])))),(3,some (bx (jJ (qF u)))),(4,some (bx (jJ (qF v))))]) (B2':=[(0,some (xA n 11 (L++[(jk (uM u.v v.v) (fun i=>(uM (u.g.getD i z2) (v.g.getD i z2))) n)]) false)),(11,some (xH (L++[(jk (uM u.v v.v) (fun i=>(uM (u.g.getD i z2) (v.g.getD i z2))) n)])))]) [0,1,5,3,4,6,7,8,9,10,11] [0,5,3,4] (e_nodeS n L u hu v hv hn hL)<|zF) ?_
 refine ⟨zL (by kernel_rfl),gL (by kernel_rfl),.inl ⟨_,.nil,?_⟩⟩
 rfl
theorem e_linN(n:Nat)(L:List JV)(bb:Nat)(u:JV)(hu:nY 1048576 n u)(v:JV)(hv:nY 1048576 n v)(hn:n≤64)(hL:L.length≤1000):vO Tryz.prog 183 [(.clo 194 [9]),(.ref 2 0),(.ref 3 0),(.ref 4 0)] [(0,some (xA n 1 L false)),(1,some (xH L)),(2,some [(.refx 0 0 bb)]),(3,some (bx (jJ (qF u)))),(4,some (bx (jJ (qF v)))),(9,some (bx (jI (kS (gw 0)))))] (.d (.tup [])) [(0,some (xA n 15 (L++[(jk (uM (gw 0) u.v) (fun i=>(uM (gw 0) (u.g.getD i z2))) n)]) false)),(15,some (xH (L++[(jk (uM (gw 0) u.v) (fun i=>(uM (gw 0) (u.g.getD i z2))) n)]))),(2,some [(.refx 0 0 bb)])]:=by
 refine nQ Tryz.func183 rfl cb183 rfl ?_
 show qK _ _ _ _ ⟨[(0,(.clo 194 [9])),(1,(.ref 2 0)),(2,(.ref 3 0)),(3,(.ref 4 0))],[(0,some (xA n 1 L false)),(1,some (xH L)),(2,some [(.refx 0 0 bb)]),(3,some (bx (jJ (qF u)))),(4,some (bx (jJ (qF v)))),(9,some (bx (jI (kS (gw 0)))))]⟩
 refine jB<|kx [(4,(.ref 10 0))] [(10,some [(.clo 194 [9])])] (zH (oBy 10)<|zZ) ?_
 refine kf [(0,.junk)] [(0,some (xA n 15 (L++[(jk (uM (gw 0) u.v) (fun i=>(uM (gw 0) (u.g.getD i z2))) n)]) false)),(15,some (xH (L++[(jk (uM (gw 0) u.v) (fun i=>(uM (gw 0) (u.g.getD i z2))) n)]))),(1,none),(10,none),(11,none),(12,none),(13,none),(14,none),(3,none),(4,none),(9,none)] (zR (oLx eC)<|zE (oMf [10,3,4])<|zE (oMf [10,3,4])<|zE (oMf [10,3,4])<|zSe (B2:=[(0,some (xA n 1 L false)),(1,some (xH L)),(10,some [(.clo 194 [9])]),(3,some (bx (jJ (qF u)))),(4,some (bx (jJ (qF v)))),(9,some (bx (jI (kS (gw 0)))))]) (B2':=[(0,some (xA n 15 (L++[(jk (uM (gw 0) u.v) (fun i=>(uM (gw 0) (u.g.getD i z2))) n)]) false)),(15,some (xH (L++[(jk (uM (gw 0) u.v) (fun i=>(uM (gw 0) (u.g.getD i z2))) n)])))]) [0,1,10,3,4,9,11,12,13,14,15] [0,10,3,4] (e_nodeN n L u hu v hv hn hL)<|zF) ?_
 refine ⟨zL (by kernel_rfl),gL (by kernel_rfl),.inl ⟨_,.nil,?_⟩⟩
 rfl
theorem cb126:callB Tryz.prog 126=true:=by kernel_rfl
theorem yK:xR Tryz.prog 83 0=some 0:=by kernel_rfl
theorem yJ:xR Tryz.prog 83 2=some 2:=by kernel_rfl
theorem eP:qO Tryz.prog 81=some (false,1):=by kernel_rfl
set_option maxHeartbeats 4000000 in
theorem e_stepN0(x0:kN)(bv:List R2)(hbx:∀ x∈bv,GL 1048576 x)(L:List JV)(hn:bv.length≤64)(hL:L.length≤1000)(hLk:∀ y∈L,nY 1048576 bv.length y)(hx:NdOk bv.length L x0):let x:=x0;vO Tryz.prog 126 [(.ref 0 0),(.d (kK x)),(vl 61 8 jI (List.map kS bv))] [(0,some (xA bv.length 1 (L) false)),(1,some (xH (L)))] (.d (.tup [])) [(0,some (xA bv.length 18 (L++[nJ bv L x]) false)),(18,some (xH (L++[nJ bv L x])))]:=by
 rcases hx with @⟨p,hp⟩ | @⟨a,ha⟩ | @⟨a,b,ha,hb⟩ | @⟨a,b,ha,hb⟩ | @⟨a,b,ha,hb⟩ | @⟨a,b,ha,hb,hz⟩ | @⟨a,ha⟩ | @⟨a,ha⟩
 all_goals
  intro x
  refine nQ Tryz.func126 rfl cb126 rfl ?_
  show qK _ _ _ _ ⟨[(0,(.ref 0 0)),(1,(.d (kK x))),(2,(vl 61 8 jI (List.map kS bv)))],[(0,some (xA bv.length 1 L false)),(1,some (xH L))]⟩
  refine jB<|kx [(3,(.ref 2 0)),(4,(.ref 3 0)),(5,(.ref 4 0))] [(2,some [(.ref 0 0)]),(3,some (bx (kK x))),(4,some (bx (.sl 61 8 (List.map jI (List.map kS bv)))))] (zH (oBy 2)<|zH (vN 3)<|zH (vN 4)<|zZ) ?_
  refine jB<|pwp_fix 2 (k:=0) (o:=0) (h:=fun b0=>?_)
  refine kW (wk (l:=[(0,(.ref 0 0)),(3,(.ref 2 0)),(4,(.ref 3 0)),(5,(.ref 4 0))]) (b:=[(0,some (xA bv.length 1 L false)),(1,some (xH L)),(2,some [(.refx 0 0 b0)]),(3,some (bx (kK x))),(4,some (bx (.sl 61 8 (List.map jI (List.map kS bv)))))])) ?_
  refine kx [(6,(.ref 5 0))] [(5,some (bx (jI (kS (gw 0)))))] (zE (jZ (j_whole ((0:Nat):Int) (by omega) (by omega)))<|zH (uB 5 uC uH)<|zT (qD kF)<|zZ) ?_
  refine jB<|kx [(7,(.clo 181 [5]))] [] (zE (oMf [5])<|zM<|zZ) ?_
  refine jB<|kx [(8,(.ref 6 0)),(9,(.ref 7 0))] [(6,some (bx (jJ (nE.mk (jW.mk qM qM) [] [])))),(7,some (bx (jJ (nE.mk (jW.mk qM qM) [] []))))] (zH (uB 6 ze95 zo95)<|zH (uB 7 ze95 zo95)<|zZ) ?_
  refine jB<|kx [(10,(vi (vJ x.op)))] [] (zE (kZ yK)<|zR (qS eP)<|zE (jZ (j_kids x.op))<|zM<|zZ) ?_
  refine jB<|jB ?_
  first
   |(refine kx [(19,(vb true))] [] (zM<|zE (xD true mT (e:=rfl))<|zZ) ?_;refine vP ?_;refine kd [] [(6,some (bx (jJ (qF (L.getD a jz)))))] mo (wR (oLx eC)<|wE oNc<|wE (kZ mZ)<|wR (qS sh143)<|wE (kZ vZ)<|wR (qS hP)<|wE (oXO el143 a (hj:=by first | omega | rfl | (simp only[List.length_map];omega) | (dsimp only;omega)) (h1:=by first | omega | rfl | (simp only[List.length_map];omega) | (dsimp only;omega)))<|wR (oQr (jJ ((List.map qF L).getD a (nE.mk (jW.mk qM qM) [] []))) (jJ (qF (L.getD a jz))) (oLA eT a (nE.mk (jW.mk qM qM) [] []) (h1:=by first | omega | rfl | (simp only[List.length_map];omega) | (dsimp only;omega))) (by exact (congrArg jJ (map_getD qF L jz _ (by omega)))))<|wT (qD eT)<|wZ) ?_)
   |(refine kx [(19,(vb false))] [] (zM<|zE (xD false mT (e:=rfl))<|zZ) ?_;refine kY ?_;refine jD ?_)
  refine jB<|jB ?_
  first
   |(refine kx [(29,(vb true))] [] (zM<|zE (xD true mT (e:=rfl))<|zZ) ?_;refine vP ?_;refine kd [] [(7,some (bx (jJ (qF (L.getD b jz)))))] mo (wR (oLx eC)<|wE oNc<|wE (kZ mZ)<|wR (qS sh143)<|wE (kZ yJ)<|wR (qS hP)<|wE (oXO el143 b (hj:=by first | omega | rfl | (simp only[List.length_map];omega) | (dsimp only;omega)) (h1:=by first | omega | rfl | (simp only[List.length_map];omega) | (dsimp only;omega)))<|wR (oQr (jJ ((List.map qF L).getD b (nE.mk (jW.mk qM qM) [] []))) (jJ (qF (L.getD b jz))) (oLA eT b (nE.mk (jW.mk qM qM) [] []) (h1:=by first | omega | rfl | (simp only[List.length_map];omega) | (dsimp only;omega))) (by exact (congrArg jJ (map_getD qF L jz _ (by omega)))))<|wT (qD eT)<|wZ) ?_)
   |(refine kx [(29,(vb false))] [] (zM<|zE (xD false mT (e:=rfl))<|zZ) ?_;refine kY ?_;refine jD ?_)
  refine jB<|kx [(11,(.clo 183 [2,6,7]))] [] (zE (oMf [2,6,7])<|zM<|zZ) ?_
  refine jB<|kx [(40,(vi x.op))] [] (zE (kZ yK)<|zR (qS eP)<|zZ) ?_
  refine jH ?_
 all_goals refine jB ?_
 ·rw[show nJ bv L x=(jk (gD p) (fun i=>(gw 0)) bv.length) from by show nJ bv L (kN.mk 0 0 0 (jP p))=_;unfold nJ nV nG;rw[gU];rfl]
  refine kx [(46,(vb true))] [] (zE (xD true yQ (e:=rfl))<|zM<|zZ) ?_
  refine vP ?_
  refine kf [] [(0,some (xA bv.length 18 (L++[(jk (gD p) (fun i=>(gw 0)) bv.length)]) false)),(18,some (xH (L++[(jk (gD p) (fun i=>(gw 0)) bv.length)]))),(1,none),(10,none),(11,none),(12,none),(13,none),(3,none),(5,none),(8,none),(9,none)] (zR (oLx eC)<|zE (oMf [3])<|zE (oMf [5])<|zM<|zSe (B2:=[(0,some (xA bv.length 1 L false)),(1,some (xH L)),(3,some (bx (kK x))),(5,some (bx (jI (kS (gw 0)))))]) (B2':=[(0,some (xA bv.length 18 (L++[(jk (gD p) (fun i=>(gw 0)) bv.length)]) false)),(18,some (xH (L++[(jk (gD p) (fun i=>(gw 0)) bv.length)])))]) [0,1,3,5,8,9,10,11,12,13,18] [0,3,5] (e_nodeC bv.length L p hp (gw 0) (gl_w (z:=0) (by omega) (by omega)) hn hL)<|zF) ?_
  refine ⟨zL (by kernel_rfl),gL (by kernel_rfl),.inl ⟨_,.nil,?_⟩⟩
  rfl
 all_goals
  refine kx [(46,(vb false))] [] (zE (xD false yQ (e:=rfl))<|zM<|zZ) ?_
  refine kY ?_
 all_goals refine jB ?_
 ·refine kx [(53,(vb true))] [] (zE (xD true yQ (e:=rfl))<|zM<|zZ) ?_
  refine vP ?_
  refine kf [] [(0,some (xA bv.length 18 (L++[(nJ bv L x)]) false)),(18,some (xH (L++[(nJ bv L x)]))),(1,none),(10,none),(11,none),(12,none),(3,none),(4,none),(5,none),(8,none),(9,none)] (zR (oLx eC)<|zE (oMf [4,3])<|zE (oMf [3,5])<|zM<|zSe (B2:=[(0,some (xA bv.length 1 L false)),(1,some (xH L)),(4,some (bx (.sl 61 8 (List.map jI (List.map kS bv))))),(3,some (bx (kK x))),(5,some (bx (jI (kS (gw 0)))))]) (B2':=[(0,some (xA bv.length 18 (L++[(nJ bv L x)]) false)),(18,some (xH (L++[(nJ bv L x)])))]) [0,1,4,3,5,8,9,10,11,12,18] [0,4,3,5] (e_nodeV bv.length L bv hbx a (gw 0) (gl_w (z:=0) (by omega) (by omega)) hn hL ha (by omega))<|zF) ?_
  refine ⟨zL (by kernel_rfl),gL (by kernel_rfl),.inl ⟨_,.nil,?_⟩⟩
  rfl
 all_goals
  refine kx [(53,(vb false))] [] (zE (xD false yQ (e:=rfl))<|zM<|zZ) ?_
  refine kY ?_
 all_goals refine jB ?_
 ·refine kx [(60,(vb true))] [] (zE (xD true yQ (e:=rfl))<|zM<|zZ) ?_
  refine vP ?_
  refine kf [] [(0,some (xA bv.length 18 (L++[(nJ bv L x)]) false)),(18,some (xH (L++[(nJ bv L x)]))),(1,none),(10,none),(11,none),(12,none),(13,none),(2,none),(6,none),(7,none),(8,none),(9,none)] (zM<|zSe (B2:=[(0,some (xA bv.length 1 L false)),(1,some (xH L)),(2,some [(.refx 0 0 b0)]),(6,some (bx (jJ (qF (L.getD a jz))))),(7,some (bx (jJ (qF (L.getD b jz)))))]) (B2':=[(0,some (xA bv.length 18 (L++[(nJ bv L x)]) false)),(18,some (xH (L++[(nJ bv L x)]))),(2,some [(.refx 0 0 b0)])]) [0,1,2,6,7,8,9,10,11,12,13,18] [2,6,7,0] (e_linA bv.length L b0 (L.getD a jz) (dH hLk ha) (L.getD b jz) (dH hLk hb) hn hL) (G:=[0]) (hG:=by exact (.cons (k:=0) (q:=2) (o:=0) (b:=b0) (j:=0) (by kernel_rfl) (by kernel_rfl) (by kernel_rfl) .nil)) (ex:=[.ref 2 0,.ref 6 0,.ref 7 0]) (hy:=.clo (kk:=[2,6,7]) (by kernel_rfl) (by kernel_rfl))<|zF) ?_
  refine ⟨zL (by kernel_rfl),gL (by kernel_rfl),.inl ⟨_,.nil,?_⟩⟩
  rfl
 all_goals
  refine kx [(60,(vb false))] [] (zE (xD false yQ (e:=rfl))<|zM<|zZ) ?_
  refine kY ?_
 all_goals refine jB ?_
 ·refine kx [(64,(vb true))] [] (zE (xD true yQ (e:=rfl))<|zM<|zZ) ?_
  refine vP ?_
  refine kf [] [(0,some (xA bv.length 18 (L++[(nJ bv L x)]) false)),(18,some (xH (L++[(nJ bv L x)]))),(1,none),(10,none),(11,none),(12,none),(13,none),(2,none),(6,none),(7,none),(8,none),(9,none)] (zM<|zSe (B2:=[(0,some (xA bv.length 1 L false)),(1,some (xH L)),(2,some [(.refx 0 0 b0)]),(6,some (bx (jJ (qF (L.getD a jz))))),(7,some (bx (jJ (qF (L.getD b jz)))))]) (B2':=[(0,some (xA bv.length 18 (L++[(nJ bv L x)]) false)),(18,some (xH (L++[(nJ bv L x)]))),(2,some [(.refx 0 0 b0)])]) [0,1,2,6,7,8,9,10,11,12,13,18] [2,6,7,0] (e_linS bv.length L b0 (L.getD a jz) (dH hLk ha) (L.getD b jz) (dH hLk hb) hn hL) (G:=[0]) (hG:=by exact (.cons (k:=0) (q:=2) (o:=0) (b:=b0) (j:=0) (by kernel_rfl) (by kernel_rfl) (by kernel_rfl) .nil)) (ex:=[.ref 2 0,.ref 6 0,.ref 7 0]) (hy:=.clo (kk:=[2,6,7]) (by kernel_rfl) (by kernel_rfl))<|zF) ?_
  refine ⟨zL (by kernel_rfl),gL (by kernel_rfl),.inl ⟨_,.nil,?_⟩⟩
  rfl
 all_goals
  refine kx [(64,(vb false))] [] (zE (xD false yQ (e:=rfl))<|zM<|zZ) ?_
  refine kY ?_
 rotate_left 2
 all_goals refine jB ?_
 ·refine kx [(68,(vb true))] [] (zE (xD true yQ (e:=rfl))<|zM<|zZ) ?_
  refine vP ?_
  refine jB<|kx [] [(7,some (bx (jJ (qF (L.getD a jz)))))] (zR (oQr (jJ (qF (L.getD a jz))) (jJ (qF (L.getD a jz))) (kO eT) (by exact rfl))<|zT (qD eT)<|zZ) ?_
  refine kf [(6,.junk),(7,.junk)] [(0,some (xA bv.length 18 (L++[(nJ bv L x)]) false)),(18,some (xH (L++[(nJ bv L x)]))),(1,none),(10,none),(11,none),(12,none),(13,none),(14,none),(15,none),(16,none),(2,none),(5,none),(6,none),(7,none),(8,none),(9,none)] (zM<|zE (oMf [5])<|zSe (B2:=[(0,some (xA bv.length 1 L false)),(1,some (xH L)),(2,some [(.refx 0 0 b0)]),(6,some (bx (jJ (qF (L.getD a jz))))),(7,some (bx (jJ (qF (L.getD a jz))))),(5,some (bx (jI (kS (gw 0)))))]) (B2':=[(0,some (xA bv.length 18 (L++[(nJ bv L x)]) false)),(18,some (xH (L++[(nJ bv L x)]))),(2,some [(.refx 0 0 b0)])]) [0,1,2,6,7,8,9,10,11,5,12,13,14,15,16,18] [2,6,7,0] (e_linN bv.length L b0 (L.getD a jz) (dH hLk ha) (L.getD a jz) (dH hLk ha) hn hL) (G:=[0]) (hG:=by exact (.cons (k:=0) (q:=2) (o:=0) (b:=b0) (j:=0) (by kernel_rfl) (by kernel_rfl) (by kernel_rfl) .nil)) (ex:=[.ref 2 0,.ref 6 0,.ref 7 0]) (hy:=.clo (kk:=[2,6,7]) (by kernel_rfl) (by kernel_rfl))<|zF) ?_
  refine ⟨zL (by kernel_rfl),gL (by kernel_rfl),.inl ⟨_,.nil,?_⟩⟩
  rfl
 all_goals
  refine kx [(68,(vb false))] [] (zE (xD false yQ (e:=rfl))<|zM<|zZ) ?_
  refine kY ?_
 rotate_left 1
 all_goals refine jB ?_
 ·refine kx [(74,(vb true))] [] (zE (xD true yQ (e:=rfl))<|zM<|zZ) ?_
  refine vP ?_
  refine kf [] [(0,some (xA bv.length 18 (L++[(nJ bv L x)]) false)),(18,some (xH (L++[(nJ bv L x)]))),(1,none),(10,none),(11,none),(12,none),(13,none),(6,none),(7,none),(8,none),(9,none)] (zR (oLx eC)<|zE (oMf [6,7])<|zE (oMf [6,7])<|zE (oMf [6,7])<|zSe (B2:=[(0,some (xA bv.length 1 L false)),(1,some (xH L)),(6,some (bx (jJ (qF (L.getD a jz))))),(7,some (bx (jJ (qF (L.getD b jz)))))]) (B2':=[(0,some (xA bv.length 18 (L++[(nJ bv L x)]) false)),(18,some (xH (L++[(nJ bv L x)])))]) [0,1,6,7,8,9,10,11,12,13,18] [0,6,7] (e_nodeM bv.length L (L.getD a jz) (dH hLk ha) (L.getD b jz) (dH hLk hb) hn hL)<|zF) ?_
  refine ⟨zL (by kernel_rfl),gL (by kernel_rfl),.inl ⟨_,.nil,?_⟩⟩
  rfl
 all_goals
  refine kx [(74,(vb false))] [] (zE (xD false yQ (e:=rfl))<|zM<|zZ) ?_
  refine kY ?_
 rotate_left 1
 all_goals refine jB ?_
 ·refine kx [(81,(vb true))] [] (zE (xD true yQ (e:=rfl))<|zM<|zZ) ?_
  refine vP ?_
  refine jB<|kx [(12,(.ref 8 0))] [(8,some (bx (jI (kS (gw 2)))))] (zE (jZ (j_whole ((2:Nat):Int) (by omega) (by omega)))<|zH (uB 8 uC uH)<|zT (qD kF)<|zZ) ?_
  refine kf [] [(0,some (xA bv.length 18 (L++[(nJ bv L x)]) false)),(18,some (xH (L++[(nJ bv L x)]))),(1,none),(10,none),(11,none),(12,none),(13,none),(14,none),(6,none),(8,none),(9,none)] (zR (oLx eC)<|zE (oMf [6])<|zE (oMf [8,6])<|zE (oMf [6,8])<|zSe (B2:=[(0,some (xA bv.length 1 L false)),(1,some (xH L)),(6,some (bx (jJ (qF (L.getD a jz))))),(8,some (bx (jI (kS (gw 2)))))]) (B2':=[(0,some (xA bv.length 18 (L++[(nJ bv L x)]) false)),(18,some (xH (L++[(nJ bv L x)])))]) [0,1,6,8,9,10,11,12,13,14,18] [0,6,8] (e_nodeQ bv.length L (L.getD a jz) (dH hLk ha) (gw 2) (gl_w (z:=2) (by omega) (by omega)) hn hL)<|zF) ?_
  refine ⟨zL (by kernel_rfl),gL (by kernel_rfl),.inl ⟨_,.nil,?_⟩⟩
  rfl
 all_goals
  refine kx [(81,(vb false))] [] (zE (xD false yQ (e:=rfl))<|zM<|zZ) ?_
  refine kY ?_
 ·refine kf [] [(0,some (xA bv.length 18 (L++[(nJ bv L x)]) false)),(18,some (xH (L++[(nJ bv L x)]))),(1,none),(10,none),(11,none),(12,none),(2,none),(6,none),(7,none),(8,none),(9,none)] (zR (oLx eC)<|zE (oMf [2,6,7])<|zE (oMf [2,6,7])<|zE (oMf [6,7,2])<|zSe (B2:=[(0,some (xA bv.length 1 L false)),(1,some (xH L)),(2,some [(.refx 0 0 b0)]),(6,some (bx (jJ (qF (L.getD a jz))))),(7,some (bx (jJ (qF (L.getD b jz)))))]) (B2':=[(0,some (xA bv.length 18 (L++[(nJ bv L x)]) false)),(18,some (xH (L++[(nJ bv L x)])))]) [0,1,2,6,7,8,9,10,11,12,18] [0,2,6,7] (e_nodeD bv.length L b0 (L.getD a jz) (dH hLk ha) (L.getD b jz) (dH hLk hb) hn hL hz)<|zF) ?_
  refine ⟨zL (by kernel_rfl),gL (by kernel_rfl),.inl ⟨_,.nil,?_⟩⟩
  rfl
end Go.Proofs.YtnajallgoaiahaaGreatDoor
