/- Part 26 of a proof: rules, plain facts, and functions walked. -/
import Derived.Test.YtnajallgoaiahaaGreatDoorM25
set_option linter.all false
set_option maxRecDepth 4000
namespace Go.Proofs.YtnajallgoaiahaaGreatDoor
open Go.Fid
theorem by61:yQ Tryz.prog 61=some 128:=by kernel_rfl
theorem by95:yQ Tryz.prog 95=some 176:=by kernel_rfl
theorem cb184:callB Tryz.prog 184=true:=by kernel_rfl
theorem dY:vN Tryz.prog 143=some (95,10):=by kernel_rfl
theorem fo161_0:xV Tryz.prog 161 0=some 0:=by kernel_rfl
theorem fo161_1:xV Tryz.prog 161 1=some 1:=by kernel_rfl
theorem cU:xV Tryz.prog 161 3=some 3:=by kernel_rfl
theorem pl95:eW Tryz.prog 95=some [(0,8),(8,1),(9,1)]:=by kernel_rfl
theorem gU:qX Tryz.prog 95=some (true,10):=by kernel_rfl
theorem sh143:qX Tryz.prog 143=some (false,1):=by kernel_rfl
theorem mE:yI Tryz.prog 95=some [.bool false,.slice none 0 0,.bool false,.slice none 0 0,.bool false,.slice none 0 0,.bool false,.slice none 0 0,.slice none 0 0,.slice none 0 0]:=by kernel_rfl
theorem zn95:iB [.bool false,.slice none 0 0,.bool false,.slice none 0 0,.bool false,.slice none 0 0,.bool false,.slice none 0 0,.slice none 0 0,.slice none 0 0] [.val (.bool false),.val (.slice none 0 0),.val (.bool false),.val (.slice none 0 0),.val (.bool false),.val (.slice none 0 0),.val (.bool false),.val (.slice none 0 0),.val (.slice none 0 0),.val (.slice none 0 0)]:=by simp [iB,Value.oneCell']
theorem cG:iB [.bool false,.slice none 0 0,.bool false,.slice none 0 0,.bool false,.slice none 0 0,.bool false,.slice none 0 0,.slice none 0 0,.slice none 0 0] [.val (.bool false),.sl 140 1 [],.val (.bool false),.sl 140 1 [],.val (.bool false),.sl 140 1 [],.val (.bool false),.sl 140 1 [],.sl 61 8 [],.sl 86 1 []]:=by simp [iB,Value.oneCell']
structure NKD where
 c1:SV
 c2:SV
 c3:SV
 X:BS
 v:R2
 g:Nat->R2
 k:List Nat
 b:List VBlk
inductive NK (n:Nat) (L:List JV):Type
 |C (p:Rat) (hp:QL p 1048576) (zz:R2) (hzz:GL 3 zz):NK n L
 |V (bv:List R2) (hbx:∀ x∈bv,GL 1048576 x) (a:Nat) (zz:R2) (hzz:GL 3 zz) (ha:a<bv.length) (hbl:bv.length<=1000000):NK n L
 |A (u:JV) (hu:nZ 1048576 n u) (v:JV) (hv:nZ 1048576 n v):NK n L
 |S (u:JV) (hu:nZ 1048576 n u) (v:JV) (hv:nZ 1048576 n v):NK n L
 |N (u:JV) (hu:nZ 1048576 n u) (v:JV) (hv:nZ 1048576 n v):NK n L
 |M (u:JV) (hu:nZ 1048576 n u) (v:JV) (hv:nZ 1048576 n v):NK n L
 |Q (u:JV) (hu:nZ 1048576 n u) (tt:R2) (htt:GL 3 tt):NK n L
 |D (bb:Nat) (u:JV) (hu:nZ 1048576 n u) (v:JV) (hv:nZ 1048576 n v) (hz:xH v.v.1 v.v.2=false):NK n L
def NK.d{n:Nat}{L:List JV}:NK n L->NKD
 |.C p hp zz hzz=>⟨(.clo 188 [2]),(.clo 189 [3]),(.clo 181 [3]),[(2,some (bx (kS (qB.mk 0 0 0 (jN p))))),(3,some (bx (jF (jY zz))))],(yX p),(fun i=>zz),[2],[(3,(bx (jF (jY zz))),(jZ.cells (jF (jY zz))))]⟩
 |.V bv hbx a zz hzz ha hbl=>⟨(.clo 190 [2,3]),(.clo 191 [3,4]),(.clo 181 [4]),[(2,some (bx (.sl 61 8 (List.map jF (List.map jY bv))))),(3,some (bx (kS (qB.mk 1 ((a:Nat):Int) 0 kH)))),(4,some (bx (jF (jY zz))))],(bv.getD a z2),(fun i=>(if ((i:Nat):Int)=((a:Nat):Int) then gw 1 else zz)),[2,3],[(4,(bx (jF (jY zz))),(jZ.cells (jF (jY zz)))),(3,(bx (kS (qB.mk 1 ((a:Nat):Int) 0 kH))),(jZ.cells (kS (qB.mk 1 ((a:Nat):Int) 0 kH))))]⟩
 |.A u hu v hv=>⟨(.clo 185 [2,3,4]),(.clo 186 [2,3,4]),(.clo 187 [2,3,4]),[(2,some (bx (.val (.func (.func 192) #[] #[])))),(3,some (bx (jI (qW u)))),(4,some (bx (jI (qW v))))],(vJ u.v v.v),(fun i=>(vJ (u.g.getD i z2) (v.g.getD i z2))),[2,3,4],[(4,(bx (jI (qW v))),(jZ.cells (jI (qW v)))),(3,(bx (jI (qW u))),(jZ.cells (jI (qW u)))),(2,(bx (.val (.func (.func 192) #[] #[]))),(jZ.cells (.val (.func (.func 192) #[] #[]))))]⟩
 |.S u hu v hv=>⟨(.clo 185 [2,3,4]),(.clo 186 [2,3,4]),(.clo 187 [2,3,4]),[(2,some (bx (.val (.func (.func 193) #[] #[])))),(3,some (bx (jI (qW u)))),(4,some (bx (jI (qW v))))],(uR u.v v.v),(fun i=>(uR (u.g.getD i z2) (v.g.getD i z2))),[2,3,4],[(4,(bx (jI (qW v))),(jZ.cells (jI (qW v)))),(3,(bx (jI (qW u))),(jZ.cells (jI (qW u)))),(2,(bx (.val (.func (.func 193) #[] #[]))),(jZ.cells (.val (.func (.func 193) #[] #[]))))]⟩
 |.N u hu v hv=>⟨(.clo 185 [2,3,4]),(.clo 186 [2,3,4]),(.clo 187 [2,3,4]),[(2,some [(.clo 194 [5])]),(3,some (bx (jI (qW u)))),(4,some (bx (jI (qW v)))),(5,some (bx (jF (jY (gw 0)))))],(uR (gw 0) u.v),(fun i=>(uR (gw 0) (u.g.getD i z2))),[4,3,2,5],[(4,(bx (jI (qW v))),(jZ.cells (jI (qW v)))),(3,(bx (jI (qW u))),(jZ.cells (jI (qW u)))),(2,[(.clo 194 [5])],[(.clo 194 [(.cptr 1000000 (jZ.cells (jF (jY (gw 0)))) 0)])]),(5,(bx (jF (jY (gw 0)))),(jZ.cells (jF (jY (gw 0)))))]⟩
 |.M u hu v hv=>⟨(.clo 195 [2,3]),(.clo 197 [2,3]),(.clo 198 [2,3]),[(2,some (bx (jI (qW u)))),(3,some (bx (jI (qW v))))],(qP u.v v.v),(fun i=>(vJ (qP u.v (v.g.getD i z2)) (qP v.v (u.g.getD i z2)))),[2,3],[(3,(bx (jI (qW v))),(jZ.cells (jI (qW v)))),(2,(bx (jI (qW u))),(jZ.cells (jI (qW u))))]⟩
 |.Q u hu tt htt=>⟨(.clo 199 [2]),(.clo 201 [3,2]),(.clo 202 [2,3]),[(2,some (bx (jI (qW u)))),(3,some (bx (jF (jY tt))))],(gsq u.v),(fun i=>(qP tt (qP u.v (u.g.getD i z2)))),[2],[(2,(bx (jI (qW u))),(jZ.cells (jI (qW u)))),(3,(bx (jF (jY tt))),(jZ.cells (jF (jY tt))))]⟩
 |.D bb u hu v hv hz=>⟨(.clo 203 [2,3,4]),(.clo 205 [2,3,4]),(.clo 206 [3,4,2]),[(2,some [(.refx 0 0 bb)]),(3,some (bx (jI (qW u)))),(4,some (bx (jI (qW v))))],(mN u.v v.v),(fun i=>(mN (uR (u.g.getD i z2) (qP (mN u.v v.v) (v.g.getD i z2))) v.v)),[4,3,2,0,1],[(4,(bx (jI (qW v))),(jZ.cells (jI (qW v)))),(3,(bx (jI (qW u))),(jZ.cells (jI (qW u)))),(2,[(.refx 0 0 bb)],[(.cptr 1000000 (jZ.cells (mcA n (.sl 1000000 10 (List.map jI (List.map qW L))) false)) 0)]),(0,(xZ n 1 L false),(jZ.cells (mcA n (.sl 1000000 10 (List.map jI (List.map qW L))) false))),(1,(yA L),(qI (List.map jI (List.map qW L))))]⟩
theorem NK.hv{n:Nat}{L:List JV}(K:NK n L):GL 67108864 K.d.v:=match K with
 |.C p hp zz hzz=>(kW (fQ hp))
 |.V bv hbx a zz hzz ha hbl=>(kW (kZ hbx (by decide) a))
 |.A u hu v hv=>(kW (lY (k:=2097153) hu.1 hv.1))
 |.S u hu v hv=>(kW (aY (k:=2097153) hu.1 hv.1))
 |.N u hu v hv=>(kW (aY (k:=1048580) (gl_w (z:=0) (by omega) (by omega)) hu.1))
 |.M u hu v hv=>(kW (xJ (k:=2097152) hu.1 hv.1))
 |.Q u hu tt htt=>(kW (gl_sq (k:=2097152) hu.1))
 |.D bb u hu v hv hz=>(kW (gl_div (k:=2097152) hu.1 hv.1))
theorem NK.hg{n:Nat}{L:List JV}(K:NK n L)(i:Nat)(hi:i<n):GL 67108864 (K.d.g i):=match K with
 |.C p hp zz hzz=>(kW hzz)
 |.V bv hbx a zz hzz ha hbl=>(kW (gl_ite (gl_w (z:=1) (by omega) (by omega)) hzz))
 |.A u hu v hv=>(kW (lY (k:=2097153) (kZ hu.2.1 (by decide) i) (kZ hv.2.1 (by decide) i)))
 |.S u hu v hv=>(kW (aY (k:=2097153) (kZ hu.2.1 (by decide) i) (kZ hv.2.1 (by decide) i)))
 |.N u hu v hv=>(kW (aY (k:=1048580) (gl_w (z:=0) (by omega) (by omega)) (kZ hu.2.1 (by decide) i)))
 |.M u hu v hv=>(kW (lY (k:=4194305) (xJ (k:=2097152) hu.1 (kZ hv.2.1 (by decide) i)) (xJ (k:=2097152) hv.1 (kZ hu.2.1 (by decide) i))))
 |.Q u hu tt htt=>(kW (xJ (k:=2097155) htt (xJ (k:=2097152) hu.1 (kZ hu.2.1 (by decide) i))))
 |.D bb u hu v hv hz=>(kW (gl_div (k:=5242881) (aY (k:=4194305) (kZ hu.2.1 (by decide) i) (xJ (k:=3145728) (gl_div (k:=2097152) hu.1 hv.1) (kZ hv.2.1 (by decide) i))) hv.1))
theorem nk_v{n:Nat}{L:List JV}(K:NK n L){o:Oper}{S:SL}{B:BS}{y:Operand}{ats:Array TypeId}(ho:o.op=.call { callee:=.value y,args:=#[],argTypes:=ats })(hy:ev (kK S) y=K.d.c1)(hb:K.d.k.map (fun k=>kB B k)=K.d.k.map (fun k=>kB ([(0,some (xZ n 1 L false)),(1,some (yA L))]++K.d.X) k)):RKs Tryz.prog o S B K.d.k (.d (jF (jY K.d.v))):=match K with
 |.C p hp zz hzz=>oCc (ds:=[]) [2] [(jZ.cells (kS (qB.mk 0 0 0 (jN p))))] (j_vC p hp) (xY (by decide) _) (ho:=ho) (hy:=hy) (hx:=rfl) (uF:=rfl) (hb:=hb)
 |.V bv hbx a zz hzz ha hbl=>oCc (ds:=[]) [2,3] [(jZ.cells (.sl 61 8 (List.map jF (List.map jY bv)))),(jZ.cells (kS (qB.mk 1 ((a:Nat):Int) 0 kH)))] (j_vV bv hbx a ha hbl) (xY (by decide) _) (ho:=ho) (hy:=hy) (hx:=rfl) (uF:=rfl) (hb:=hb)
 |.A u hu v hv=>oCc (ds:=[]) [2,3,4] [(jZ.cells (.val (.func (.func 192) #[] #[]))),(jZ.cells (jI (qW u))),(jZ.cells (jI (qW v)))] (j_vAdd n u hu v hv) (xY (by decide) _) (ho:=ho) (hy:=hy) (hx:=rfl) (uF:=rfl) (hb:=hb)
 |.S u hu v hv=>oCc (ds:=[]) [2,3,4] [(jZ.cells (.val (.func (.func 193) #[] #[]))),(jZ.cells (jI (qW u))),(jZ.cells (jI (qW v)))] (j_vSub n u hu v hv) (xY (by decide) _) (ho:=ho) (hy:=hy) (hx:=rfl) (uF:=rfl) (hb:=hb)
 |.N u hu v hv=>oCh [(4,(bx (jI (qW v))),(jZ.cells (jI (qW v)))),(3,(bx (jI (qW u))),(jZ.cells (jI (qW u)))),(2,[(.clo 194 [5])],[(.clo 194 [(.cptr 1000000 (jZ.cells (jF (jY (gw 0)))) 0)])]),(5,(bx (jF (jY (gw 0)))),(jZ.cells (jF (jY (gw 0)))))] [.ref 2 0,.ref 3 0,.ref 4 0] (j_vNeg n u hu v hv) (.cons (.r (.tail _ (.tail _ (.head _)))) (.cons (.r (.tail _ (.head _))) (.cons (.r (.head _)) .nil))) (.cons (.all rfl) (.cons (.all rfl) (.cons (.cons (.f (css:=[(jZ.cells (jF (jY (gw 0))))]) (.cons (.head _) .nil)) .nil) (.cons (.all rfl) .nil)))) (xY (by decide) _) (ex:=[.ref 2 0,.ref 3 0,.ref 4 0]) (xs:=[]) (ho:=ho) (hy:=.clo (kk:=[2,3,4]) hy rfl) (hx:=rfl) (hb:=hb)
 |.M u hu v hv=>oCc (ds:=[]) [2,3] [(jZ.cells (jI (qW u))),(jZ.cells (jI (qW v)))] (j_vM n u hu v hv) (xY (by decide) _) (ho:=ho) (hy:=hy) (hx:=rfl) (uF:=rfl) (hb:=hb)
 |.Q u hu tt htt=>oCc (ds:=[]) [2] [(jZ.cells (jI (qW u)))] (j_vQ n u hu) (xY (by decide) _) (ho:=ho) (hy:=hy) (hx:=rfl) (uF:=rfl) (hb:=hb)
 |.D bb u hu v hv hz=>oCh [(4,(bx (jI (qW v))),(jZ.cells (jI (qW v)))),(3,(bx (jI (qW u))),(jZ.cells (jI (qW u)))),(2,[(.refx 0 0 bb)],[(.cptr 1000000 (jZ.cells (mcA n (.sl 1000000 10 (List.map jI (List.map qW L))) false)) 0)]),(0,(xZ n 1 L false),(jZ.cells (mcA n (.sl 1000000 10 (List.map jI (List.map qW L))) false))),(1,(yA L),(qI (List.map jI (List.map qW L))))] [.ref 2 0,.ref 3 0,.ref 4 0] (j_vD n (.sl 1000000 10 (List.map jI (List.map qW L))) u hu v hv hz) (.cons (.r (.tail _ (.tail _ (.head _)))) (.cons (.r (.tail _ (.head _))) (.cons (.r (.head _)) .nil))) (.cons (.all rfl) (.cons (.all rfl) (.cons (.cons (.x (.head _)) .nil) (.cons (.cons .d (.cons .d (.cons .d (.cons (bS (F:=jI) (L:=(List.map qW L)) (.head _) (fun _=>rfl) rfl) (.cons .d .nil))))) (.cons (.all (by exact rfl)) .nil))))) (xY (by decide) _) (ex:=[.ref 2 0,.ref 3 0,.ref 4 0]) (xs:=[]) (ho:=ho) (hy:=.clo (kk:=[2,3,4]) hy rfl) (hx:=rfl) (hb:=hb)
def nk_bl{n:Nat}{L:List JV}(K:NK n L)(gl:List jL):List VBlk:=K.d.b++[(6,(bx (jF (jY K.d.v))++[(.own 7 61 8 gl.length),(.own 8 86 1 0)]),(jZ.cells (.agg (jZ.cells (jF (jY K.d.v))++[(.sl 1000000 8 (List.map jF gl)),(.sl 1000000 1 (List.map uN []))])))),(8,(bm uN []),(qI (List.map uN []))),(7,(yU jF gl),(qI (List.map jF gl)))]
theorem nk_vb(v:R2)(gl:List jL):VBlks 1000000 [(6,(bx (jF (jY v))++[(.own 7 61 8 gl.length),(.own 8 86 1 0)]),(jZ.cells (.agg (jZ.cells (jF (jY v))++[(.sl 1000000 8 (List.map jF gl)),(.sl 1000000 1 (List.map uN []))])))),(8,(bm uN []),(qI (List.map uN []))),(7,(yU jF gl),(qI (List.map jF gl)))]:=(.cons (.cons .d (.cons .d (.cons .d (.cons .d (.cons .d (.cons .d (.cons .d (.cons .d (.cons (bS (F:=jF) (L:=gl) (.tail _ (.head _)) (fun _=>rfl) rfl) (.cons (bS (F:=uN) (L:=[]) (.head _) (fun _=>rfl) rfl) .nil)))))))))) (.cons (sees_bm (fun _=>rfl)) (.cons (.all (by exact rfl)) .nil)))
theorem nk_g{n:Nat}{L:List JV}(K:NK n L){i:Nat}(hi:i<n)(gl:List jL){o:Oper}{S:SL}{B:BS}{y:Operand}{xs:List Operand}{ats:Array TypeId}(ho:o.op=.call { callee:=.value y,args:=xs.toArray,argTypes:=ats })(hy:ev (kK S) y=K.d.c2)(hx:xs.map (ev (kK S))=[.ref 6 0,jS i])(hb:(nk_bl K gl).map (fun p=>kB B p.1)=(nk_bl K gl).map (fun p=>some p.2.1)):RKs Tryz.prog o S B (K.d.b.map (·.1)++[6,8,7]) (.d (jF (jY (K.d.g i)))):=match K with
 |.C p hp zz hzz=>oCh (nk_bl (.C p hp zz hzz) gl) [(.ref 6 0),(jS i),.ref 3 0] (j_gC _ i zz hzz) (.cons (.r (.tail _ (.head _))) (.cons .d (.cons (.r (.head _)) .nil))) (.cons (.all rfl) (nk_vb _ gl)) (xY (by decide) _) (ex:=[.ref 3 0]) (ho:=ho) (hy:=.clo (kk:=[3]) hy rfl) (hx:=by rw[hx];rfl) (hb:=hb)
 |.V bv hbx a zz hzz ha hbl=>oCh (nk_bl (.V bv hbx a zz hzz ha hbl) gl) [(.ref 6 0),(jS i),.ref 3 0,.ref 4 0] (j_gV _ i a zz hzz) (.cons (.r (.tail _ (.tail _ (.head _)))) (.cons .d (.cons (.r (.tail _ (.head _))) (.cons (.r (.head _)) .nil)))) (.cons (.all rfl) (.cons (.all rfl) (nk_vb _ gl))) (xY (by decide) _) (ex:=[.ref 3 0,.ref 4 0]) (ho:=ho) (hy:=.clo (kk:=[3,4]) hy rfl) (hx:=by rw[hx];rfl) (hb:=hb)
 |.A u hu v hv=>oCh (nk_bl (.A u hu v hv) gl) [(.ref 6 0),(jS i),.ref 2 0,.ref 3 0,.ref 4 0] (j_gAdd _ i n u hu v hv (by omega)) (.cons (.r (.tail _ (.tail _ (.tail _ (.head _))))) (.cons .d (.cons (.r (.tail _ (.tail _ (.head _)))) (.cons (.r (.tail _ (.head _))) (.cons (.r (.head _)) .nil))))) (.cons (.all rfl) (.cons (.all rfl) (.cons (.all rfl) (nk_vb _ gl)))) (xY (by decide) _) (ex:=[.ref 2 0,.ref 3 0,.ref 4 0]) (ho:=ho) (hy:=.clo (kk:=[2,3,4]) hy rfl) (hx:=by rw[hx];rfl) (hb:=hb)
 |.S u hu v hv=>oCh (nk_bl (.S u hu v hv) gl) [(.ref 6 0),(jS i),.ref 2 0,.ref 3 0,.ref 4 0] (j_gSub _ i n u hu v hv (by omega)) (.cons (.r (.tail _ (.tail _ (.tail _ (.head _))))) (.cons .d (.cons (.r (.tail _ (.tail _ (.head _)))) (.cons (.r (.tail _ (.head _))) (.cons (.r (.head _)) .nil))))) (.cons (.all rfl) (.cons (.all rfl) (.cons (.all rfl) (nk_vb _ gl)))) (xY (by decide) _) (ex:=[.ref 2 0,.ref 3 0,.ref 4 0]) (ho:=ho) (hy:=.clo (kk:=[2,3,4]) hy rfl) (hx:=by rw[hx];rfl) (hb:=hb)
 |.N u hu v hv=>oCh (nk_bl (.N u hu v hv) gl) [(.ref 6 0),(jS i),.ref 2 0,.ref 3 0,.ref 4 0] (j_gNeg _ i n u hu v hv (by omega)) (.cons (.r (.tail _ (.tail _ (.tail _ (.tail _ (.head _)))))) (.cons .d (.cons (.r (.tail _ (.tail _ (.head _)))) (.cons (.r (.tail _ (.head _))) (.cons (.r (.head _)) .nil))))) (.cons (.all rfl) (.cons (.all rfl) (.cons (.cons (.f (css:=[(jZ.cells (jF (jY (gw 0))))]) (.cons (.head _) .nil)) .nil) (.cons (.all rfl) (nk_vb _ gl))))) (xY (by decide) _) (ex:=[.ref 2 0,.ref 3 0,.ref 4 0]) (ho:=ho) (hy:=.clo (kk:=[2,3,4]) hy rfl) (hx:=by rw[hx];rfl) (hb:=hb)
 |.M u hu v hv=>oCh (nk_bl (.M u hu v hv) gl) [(.ref 6 0),(jS i),.ref 2 0,.ref 3 0] (j_gM _ i n u hu v hv (by omega)) (.cons (.r (.tail _ (.tail _ (.head _)))) (.cons .d (.cons (.r (.tail _ (.head _))) (.cons (.r (.head _)) .nil)))) (.cons (.all rfl) (.cons (.all rfl) (nk_vb _ gl))) (xY (by decide) _) (ex:=[.ref 2 0,.ref 3 0]) (ho:=ho) (hy:=.clo (kk:=[2,3]) hy rfl) (hx:=by rw[hx];rfl) (hb:=hb)
 |.Q u hu tt htt=>oCh (nk_bl (.Q u hu tt htt) gl) [(.ref 6 0),(jS i),.ref 3 0,.ref 2 0] (j_gQ _ i tt htt n u hu (by omega)) (.cons (.r (.tail _ (.tail _ (.head _)))) (.cons .d (.cons (.r (.tail _ (.head _))) (.cons (.r (.head _)) .nil)))) (.cons (.all rfl) (.cons (.all rfl) (nk_vb _ gl))) (xY (by decide) _) (ex:=[.ref 3 0,.ref 2 0]) (ho:=ho) (hy:=.clo (kk:=[3,2]) hy rfl) (hx:=by rw[hx];rfl) (hb:=hb)
 |.D bb u hu v hv hz=>oCh (nk_bl (.D bb u hu v hv hz) gl) [(.ref 6 0),(jS i),.ref 2 0,.ref 3 0,.ref 4 0] (j_gD (mN u.v v.v) (gl_div (k:=2097152) hu.1 hv.1) (.sl 1000000 8 (List.map jF gl)) (.sl 1000000 1 (List.map uN [])) i n (.sl 1000000 10 (List.map jI (List.map qW L))) u hu v hv hz (by omega)) (.cons (.r (.tail _ (.tail _ (.tail _ (.tail _ (.tail _ (.head _))))))) (.cons .d (.cons (.r (.tail _ (.tail _ (.head _)))) (.cons (.r (.tail _ (.head _))) (.cons (.r (.head _)) .nil))))) (.cons (.all rfl) (.cons (.all rfl) (.cons (.cons (.x (.head _)) .nil) (.cons (.cons .d (.cons .d (.cons .d (.cons (bS (F:=jI) (L:=(List.map qW L)) (.head _) (fun _=>rfl) rfl) (.cons .d .nil))))) (.cons (.all (by exact rfl)) (nk_vb _ gl)))))) (xY (by decide) _) (ex:=[.ref 2 0,.ref 3 0,.ref 4 0]) (ho:=ho) (hy:=.clo (kk:=[2,3,4]) hy rfl) (hx:=by rw[hx];rfl) (hb:=hb)
set_option maxHeartbeats 4000000 in
theorem bX(n:Nat)(L:List JV)(K0:NK n L)(hn:n<=64)(hL:L.length<=1000):let K:=K0;xA Tryz.prog 184 [(.ref 0 0),K.d.c1,K.d.c2,K.d.c3] ([(0,some (xZ n 1 L false)),(1,some (yA L))]++K.d.X) (.d (.tup [])) [(0,some (xZ n 10 (L++[(jk K.d.v (fun i=>(K.d.g i)) n)]) false)),(10,some (yA (L++[(jk K.d.v (fun i=>(K.d.g i)) n)])))]:=by
 cases K0
 all_goals
  intro K
  refine nA Tryz.func184 rfl cb184 rfl ?_
  show eI _ _ _ _ ⟨[(0,(.ref 0 0)),(1,K.d.c1),(2,K.d.c2),(3,K.d.c3)],([(0,some (xZ n 1 L false)),(1,some (yA L))]++K.d.X)⟩
  refine jB<|kx [(8,(.ref 6 0))] [(6,some (bx (.agg (jZ.cells (jF (jY K.d.v))++[(.val (.slice none 0 0)),(.val (.slice none 0 0))]))))] (zM<|zM<|zC (nk_v K (by exact rfl) (by kernel_rfl) (by kernel_rfl))<|zC (oCh [(0,(xZ n 1 L false),(jZ.cells (mcA n (.sl 1000000 10 (List.map jI (List.map qW L))) false))),(1,(yA L),(qI (List.map jI (List.map qW L))))] [(.ref 0 0),(.d (jF (jY K.d.v)))] (j_round n (.sl 1000000 10 (List.map jI (List.map qW L))) K.d.v K.hv) (.cons (.r (.head _)) (.cons .d .nil)) (.cons (.cons .d (.cons .d (.cons .d (.cons (bS (F:=jI) (L:=(List.map qW L)) (.head _) (fun _=>rfl) rfl) (.cons .d .nil))))) (.cons (.all (by exact rfl)) .nil)) (xY (by decide) _) (ex:=[]))<|zE (eD pl95 mE zn95)<|zH (qR 6 mE cG)<|zT (qA gU)<|zZ) ?_
  refine jB<|jB<|kx [(22,(vb true))] [] (zM<|zE oNc<|zE (kV fo161_1)<|zR (uE cL)<|zE (uP true hH)<|zZ) ?_
  refine uI ?_
  refine jB<|bN 6 8 7 61 8 (cs:=(bx (.agg (jZ.cells (jF (jY K.d.v))++[(.val (.slice none 0 0)),(.val (.slice none 0 0))])))) (h:=?_)
  refine kU (wk (l:=[(0,(.ref 0 0)),(1,K.d.c1),(2,K.d.c2),(3,K.d.c3),(8,(.ref 6 0)),(22,(vb true))]) (b:=([(0,some (xZ n 1 L false)),(1,some (yA L)),(6,some (bx (jF (jY K.d.v))++[(.own 7 61 8 0),(.d (.val (.slice none 0 0)))])),(7,some (yU jF []))]++K.d.X))) ?_
  refine bN 6 9 8 86 1 (cs:=(bx (jF (jY K.d.v))++[(.own 7 61 8 0),(.d (.val (.slice none 0 0)))])) (h:=?_)
  refine kU (wk (l:=[(0,(.ref 0 0)),(1,K.d.c1),(2,K.d.c2),(3,K.d.c3),(8,(.ref 6 0)),(22,(vb true))]) (b:=([(0,some (xZ n 1 L false)),(1,some (yA L)),(6,some (bx (jF (jY K.d.v))++[(.own 7 61 8 0),(.own 8 86 1 0)])),(7,some (yU jF [])),(8,some (bm uN []))]++K.d.X))) ?_
  refine kx [(26,(jS n)),(27,(jS 0))] [] (zM<|zE oNc<|zE (kV fo161_0)<|zR (uE cL)<|zM<|zZ) ?_
  refine jH<|kF (α:=Nat × List jL) (fun (i,gl)=>⟨[(0,(.ref 0 0)),(1,K.d.c1),(2,K.d.c2),(3,K.d.c3),(8,(.ref 6 0)),(26,(jS n)),(27,(jS i))],([(0,some (xZ n 1 L false)),(1,some (yA L)),(6,some (bx (jF (jY K.d.v))++[(.own 7 61 8 gl.length),(.own 8 86 1 0)])),(7,some (yU jF gl)),(8,some (bm uN []))]++K.d.X)⟩) (fun (i,gl)=>i<=n/\gl=List.map jY (List.map (fun (i:Nat)=>(K.d.g i)) (List.range i))) (fun (i,gl)=>n-i) (0,[]) wk ⟨Nat.zero_le _,rfl⟩ ?_
  rintro ⟨i,gl⟩ ⟨hi,hg⟩
  have hgl:gl.length=i:=jk_len (G:=(fun (i:Nat)=>(K.d.g i))) hg
  refine jB<|kx [(28,(vb (decide (((i:Nat):Int)<((n:Nat):Int)))))] [] (zE xK<|zZ) ?_
  refine jB<|jG rfl (fun h1=>?_) (fun h1=>?_)
  ·replace h1:=uV h1
   refine jC<|jB<|jH<|jB<|kx [(9,(jS i))] [] (zM<|zM<|zZ) ?_
   refine kd [] [(6,some (bx (jF (jY K.d.v))++[(.own 9 61 8 ((gl++[(jY (K.d.g i))]).length)),(.own 8 86 1 0)])),(9,some (yU jF (gl++[(jY (K.d.g i))]))),(7,none)] mo (wE (kV xO)<|wR (uE cB)<|wM<|wM<|wM<|wC (nk_g K (Int.ofNat_lt.1 h1) gl (by exact rfl) (by kernel_rfl) (by kernel_rfl) (by kernel_rfl))<|wC (oCh [(0,(xZ n 1 L false),(jZ.cells (mcA n (.sl 1000000 10 (List.map jI (List.map qW L))) false))),(1,(yA L),(qI (List.map jI (List.map qW L))))] [(.ref 0 0),(.d (jF (jY (K.d.g i))))] (j_round n (.sl 1000000 10 (List.map jI (List.map qW L))) (K.d.g i) (K.hg i (by omega))) (.cons (.r (.head _)) (.cons .d .nil)) (.cons (.cons .d (.cons .d (.cons .d (.cons (bS (F:=jI) (L:=(List.map qW L)) (.head _) (fun _=>rfl) rfl) (.cons .d .nil))))) (.cons (.all (by exact rfl)) .nil)) (xY (by decide) _) (ex:=[]))<|wE (eE uA qJ qL)<|wAS (k:=7) 9 jF gl [(jY (K.d.g i))] rfl uA qJ by61<|wE (kV xO)<|wT (oSx cB)<|wZ) ?_
   refine kU (wk (l:=[(0,(.ref 0 0)),(1,K.d.c1),(2,K.d.c2),(3,K.d.c3),(8,(.ref 6 0)),(26,(jS n)),(27,(jS i))]) (b:=([(0,some (xZ n 1 L false)),(1,some (yA L)),(6,some (bx (jF (jY K.d.v))++[(.own 9 61 8 ((gl++[(jY (K.d.g i))]).length)),(.own 8 86 1 0)])),(8,some (bm uN [])),(9,some (yU jF (gl++[(jY (K.d.g i))])))]++K.d.X))) ?_
   refine kU (iY (S':=[(0,(.ref 0 0)),(1,K.d.c1),(2,K.d.c2),(3,K.d.c3),(8,(.ref 6 0)),(26,(jS n)),(27,(jS i))]) (B':=([(0,some (xZ n 1 L false)),(1,some (yA L)),(6,some (bx (jF (jY K.d.v))++[(.own 7 61 8 ((gl++[(jY (K.d.g i))]).length)),(.own 8 86 1 0)])),(7,some (yU jF (gl++[(jY (K.d.g i))]))),(8,some (bm uN []))]++K.d.X)) 7 9 6) ?_
   refine kx [(27,(jS (i+1)))] [] (zE (vO (i+1))<|zM<|zZ) ?_
   exact ⟨(i+1,gl++[jY (K.d.g i)]),wk,⟨by omega,jk_push (G:=(fun (i:Nat)=>(K.d.g i))) hg⟩,(by first|omega|(dsimp only;omega))⟩
  ·replace h1:=vB h1
   refine kD<|jB<|jB<|kx [(45,(vb false))] [] (zM<|zE oNc<|zE (kV fo161_1)<|zR (uE cL)<|zE (uP false hH)<|zZ) ?_
   refine kM ?_
   refine jC<|kU (eJ (j:=6) (k:=7) (pre:=(bx (jF (jY K.d.v)))) (post:=[(.own 8 86 1 0)]) (es:=List.map jF gl) rfl (by decide) rfl (gC _ _ (fun _=>rfl)) (uW _ _ rfl) (hZ jF gl (fun _=>rfl) rfl)) ?_
   refine kU (wk (l:=[(0,(.ref 0 0)),(1,K.d.c1),(2,K.d.c2),(3,K.d.c3),(8,(.ref 6 0)),(45,(vb false))]) (b:=([(0,some (xZ n 1 L false)),(1,some (yA L)),(6,some (bx (jF (jY K.d.v))++[(vl 61 8 jF gl),(.own 8 86 1 0)])),(8,some (bm uN []))]++K.d.X))) ?_
   refine kU (eJ (j:=6) (k:=8) (pre:=(bx (jF (jY K.d.v))++[(vl 61 8 jF gl)])) (post:=[]) (es:=List.map uN []) rfl (by decide) rfl (vD _ _ (fun _=>rfl)) (uW _ _ rfl) (xE _ _ (fun _=>rfl) rfl)) ?_
   refine kU (wk (l:=[(0,(.ref 0 0)),(1,K.d.c1),(2,K.d.c2),(3,K.d.c3),(8,(.ref 6 0)),(45,(vb false))]) (b:=([(0,some (xZ n 1 L false)),(1,some (yA L)),(6,some (bx (jI (vX.mk (jY K.d.v) gl []))))]++K.d.X))) ?_
   refine kd [] [(0,some [(jS n),(jS 1),(vi (-1)),(.own 10 95 10 (((List.map qW L)++[(vX.mk (jY K.d.v) gl [])]).length)),(vb false)]),(10,some (yU jI ((List.map qW L)++[(vX.mk (jY K.d.v) gl [])]))),(1,none)] mo (wM<|wM<|wE oNc<|wE (kV cU)<|wR (uE sh143)<|wR (kJ gU)<|wE (eE dY mE cG)<|wAS (k:=1) 10 jI (List.map qW L) [(vX.mk (jY K.d.v) gl [])] rfl dY mE by95<|wE oNc<|wE (kV cU)<|wT (oSx sh143)<|wZ) ?_
   have hJ:List.map qW (L++[(jk K.d.v (fun i=>(K.d.g i)) n)])=List.map qW L++[vX.mk (jY K.d.v) gl []]:=by rw[List.map_append,hg,show i=n by omega];rfl
   unfold xZ yA
   rw[hJ]
   refine ⟨yG (by kernel_rfl),gJ (by kernel_rfl),.inl ⟨_,.nil,?_⟩⟩
   rfl
theorem e_nodeC(n:Nat)(L:List JV)(p:Rat)(hp:QL p 1048576)(zz:R2)(hzz:GL 3 zz)(hn:n<=64)(hL:L.length<=1000):xA Tryz.prog 184 [(.ref 0 0),(.clo 188 [2]),(.clo 189 [3]),(.clo 181 [3])] [(0,some (xZ n 1 L false)),(1,some (yA L)),(2,some (bx (kS (qB.mk 0 0 0 (jN p))))),(3,some (bx (jF (jY zz))))] (.d (.tup [])) [(0,some (xZ n 10 (L++[(jk (yX p) (fun i=>zz) n)]) false)),(10,some (yA (L++[(jk (yX p) (fun i=>zz) n)])))]:=bX n L (.C p hp zz hzz) hn hL
theorem e_nodeV(n:Nat)(L:List JV)(bv:List R2)(hbx:∀ x∈bv,GL 1048576 x)(a:Nat)(zz:R2)(hzz:GL 3 zz)(hn:n<=64)(hL:L.length<=1000)(ha:a<bv.length)(hbl:bv.length<=1000000):xA Tryz.prog 184 [(.ref 0 0),(.clo 190 [2,3]),(.clo 191 [3,4]),(.clo 181 [4])] [(0,some (xZ n 1 L false)),(1,some (yA L)),(2,some (bx (.sl 61 8 (List.map jF (List.map jY bv))))),(3,some (bx (kS (qB.mk 1 ((a:Nat):Int) 0 kH)))),(4,some (bx (jF (jY zz))))] (.d (.tup [])) [(0,some (xZ n 10 (L++[(jk (bv.getD a z2) (fun i=>(if ((i:Nat):Int)=((a:Nat):Int) then gw 1 else zz)) n)]) false)),(10,some (yA (L++[(jk (bv.getD a z2) (fun i=>(if ((i:Nat):Int)=((a:Nat):Int) then gw 1 else zz)) n)])))]:=bX n L (.V bv hbx a zz hzz ha hbl) hn hL
theorem e_nodeA(n:Nat)(L:List JV)(u:JV)(hu:nZ 1048576 n u)(v:JV)(hv:nZ 1048576 n v)(hn:n<=64)(hL:L.length<=1000):xA Tryz.prog 184 [(.ref 0 0),(.clo 185 [2,3,4]),(.clo 186 [2,3,4]),(.clo 187 [2,3,4])] [(0,some (xZ n 1 L false)),(1,some (yA L)),(2,some (bx (.val (.func (.func 192) #[] #[])))),(3,some (bx (jI (qW u)))),(4,some (bx (jI (qW v))))] (.d (.tup [])) [(0,some (xZ n 10 (L++[(jk (vJ u.v v.v) (fun i=>(vJ (u.g.getD i z2) (v.g.getD i z2))) n)]) false)),(10,some (yA (L++[(jk (vJ u.v v.v) (fun i=>(vJ (u.g.getD i z2) (v.g.getD i z2))) n)])))]:=bX n L (.A u hu v hv) hn hL
theorem e_nodeS(n:Nat)(L:List JV)(u:JV)(hu:nZ 1048576 n u)(v:JV)(hv:nZ 1048576 n v)(hn:n<=64)(hL:L.length<=1000):xA Tryz.prog 184 [(.ref 0 0),(.clo 185 [2,3,4]),(.clo 186 [2,3,4]),(.clo 187 [2,3,4])] [(0,some (xZ n 1 L false)),(1,some (yA L)),(2,some (bx (.val (.func (.func 193) #[] #[])))),(3,some (bx (jI (qW u)))),(4,some (bx (jI (qW v))))] (.d (.tup [])) [(0,some (xZ n 10 (L++[(jk (uR u.v v.v) (fun i=>(uR (u.g.getD i z2) (v.g.getD i z2))) n)]) false)),(10,some (yA (L++[(jk (uR u.v v.v) (fun i=>(uR (u.g.getD i z2) (v.g.getD i z2))) n)])))]:=bX n L (.S u hu v hv) hn hL
theorem e_nodeN(n:Nat)(L:List JV)(u:JV)(hu:nZ 1048576 n u)(v:JV)(hv:nZ 1048576 n v)(hn:n<=64)(hL:L.length<=1000):xA Tryz.prog 184 [(.ref 0 0),(.clo 185 [2,3,4]),(.clo 186 [2,3,4]),(.clo 187 [2,3,4])] [(0,some (xZ n 1 L false)),(1,some (yA L)),(2,some [(.clo 194 [5])]),(3,some (bx (jI (qW u)))),(4,some (bx (jI (qW v)))),(5,some (bx (jF (jY (gw 0)))))] (.d (.tup [])) [(0,some (xZ n 10 (L++[(jk (uR (gw 0) u.v) (fun i=>(uR (gw 0) (u.g.getD i z2))) n)]) false)),(10,some (yA (L++[(jk (uR (gw 0) u.v) (fun i=>(uR (gw 0) (u.g.getD i z2))) n)])))]:=bX n L (.N u hu v hv) hn hL
theorem e_nodeM(n:Nat)(L:List JV)(u:JV)(hu:nZ 1048576 n u)(v:JV)(hv:nZ 1048576 n v)(hn:n<=64)(hL:L.length<=1000):xA Tryz.prog 184 [(.ref 0 0),(.clo 195 [2,3]),(.clo 197 [2,3]),(.clo 198 [2,3])] [(0,some (xZ n 1 L false)),(1,some (yA L)),(2,some (bx (jI (qW u)))),(3,some (bx (jI (qW v))))] (.d (.tup [])) [(0,some (xZ n 10 (L++[(jk (qP u.v v.v) (fun i=>(vJ (qP u.v (v.g.getD i z2)) (qP v.v (u.g.getD i z2)))) n)]) false)),(10,some (yA (L++[(jk (qP u.v v.v) (fun i=>(vJ (qP u.v (v.g.getD i z2)) (qP v.v (u.g.getD i z2)))) n)])))]:=bX n L (.M u hu v hv) hn hL
theorem e_nodeQ(n:Nat)(L:List JV)(u:JV)(hu:nZ 1048576 n u)(tt:R2)(htt:GL 3 tt)(hn:n<=64)(hL:L.length<=1000):xA Tryz.prog 184 [(.ref 0 0),(.clo 199 [2]),(.clo 201 [3,2]),(.clo 202 [2,3])] [(0,some (xZ n 1 L false)),(1,some (yA L)),(2,some (bx (jI (qW u)))),(3,some (bx (jF (jY tt))))] (.d (.tup [])) [(0,some (xZ n 10 (L++[(jk (gsq u.v) (fun i=>(qP tt (qP u.v (u.g.getD i z2)))) n)]) false)),(10,some (yA (L++[(jk (gsq u.v) (fun i=>(qP tt (qP u.v (u.g.getD i z2)))) n)])))]:=bX n L (.Q u hu tt htt) hn hL
theorem e_nodeD(n:Nat)(L:List JV)(bb:Nat)(u:JV)(hu:nZ 1048576 n u)(v:JV)(hv:nZ 1048576 n v)(hn:n<=64)(hL:L.length<=1000)(hz:xH v.v.1 v.v.2=false):xA Tryz.prog 184 [(.ref 0 0),(.clo 203 [2,3,4]),(.clo 205 [2,3,4]),(.clo 206 [3,4,2])] [(0,some (xZ n 1 L false)),(1,some (yA L)),(2,some [(.refx 0 0 bb)]),(3,some (bx (jI (qW u)))),(4,some (bx (jI (qW v))))] (.d (.tup [])) [(0,some (xZ n 10 (L++[(jk (mN u.v v.v) (fun i=>(mN (uR (u.g.getD i z2) (qP (mN u.v v.v) (v.g.getD i z2))) v.v)) n)]) false)),(10,some (yA (L++[(jk (mN u.v v.v) (fun i=>(mN (uR (u.g.getD i z2) (qP (mN u.v v.v) (v.g.getD i z2))) v.v)) n)])))]:=bX n L (.D bb u hu v hv hz) hn hL
theorem cb183:callB Tryz.prog 183=true:=by kernel_rfl
theorem e_linA(n:Nat)(L:List JV)(bb:Nat)(u:JV)(hu:nZ 1048576 n u)(v:JV)(hv:nZ 1048576 n v)(hn:n<=64)(hL:L.length<=1000):xA Tryz.prog 183 [(.d (.val (.func (.func 192) #[] #[]))),(.ref 2 0),(.ref 3 0),(.ref 4 0)] [(0,some (xZ n 1 L false)),(1,some (yA L)),(2,some [(.refx 0 0 bb)]),(3,some (bx (jI (qW u)))),(4,some (bx (jI (qW v))))] (.d (.tup [])) [(0,some (xZ n 11 (L++[(jk (vJ u.v v.v) (fun i=>(vJ (u.g.getD i z2) (v.g.getD i z2))) n)]) false)),(11,some (yA (L++[(jk (vJ u.v v.v) (fun i=>(vJ (u.g.getD i z2) (v.g.getD i z2))) n)]))),(2,some [(.refx 0 0 bb)])]:=by
 refine nA Tryz.func183 rfl cb183 rfl ?_
 refine jB<|kx [(4,(.ref 5 0))] [(5,some (bx (.val (.func (.func 192) #[] #[]))))] (zH (uU 5)<|zZ) ?_
 refine kf [] [(0,some (xZ n 11 (L++[(jk (vJ u.v v.v) (fun i=>(vJ (u.g.getD i z2) (v.g.getD i z2))) n)]) false)),(11,some (yA (L++[(jk (vJ u.v v.v) (fun i=>(vJ (u.g.getD i z2) (v.g.getD i z2))) n)]))),(1,none),(10,none),(3,none),(4,none),(5,none),(6,none),(7,none),(8,none),(9,none)] (zR (oLx fE)<|zE (oMf [5,3,4])<|zE (oMf [5,3,4])<|zE (oMf [5,3,4])<|zSe (B2:=[(0,some (xZ n 1 L false)),(1,some (yA L)),(5,some (bx (.val (.func (.func 192) #[] #[])))),(3,some (bx (jI (qW u)))),(4,some (bx (jI (qW v))))]) (B2':=[(0,some (xZ n 11 (L++[(jk (vJ u.v v.v) (fun i=>(vJ (u.g.getD i z2) (v.g.getD i z2))) n)]) false)),(11,some (yA (L++[(jk (vJ u.v v.v) (fun i=>(vJ (u.g.getD i z2) (v.g.getD i z2))) n)])))]) [0,1,5,3,4,6,7,8,9,10,11] [0,5,3,4] (e_nodeA n L u hu v hv hn hL)<|zF) ?_
 refine ⟨yG (by kernel_rfl),gJ (by kernel_rfl),.inl ⟨_,.nil,?_⟩⟩
 rfl
theorem e_linS(n:Nat)(L:List JV)(bb:Nat)(u:JV)(hu:nZ 1048576 n u)(v:JV)(hv:nZ 1048576 n v)(hn:n<=64)(hL:L.length<=1000):xA Tryz.prog 183 [(.d (.val (.func (.func 193) #[] #[]))),(.ref 2 0),(.ref 3 0),(.ref 4 0)] [(0,some (xZ n 1 L false)),(1,some (yA L)),(2,some [(.refx 0 0 bb)]),(3,some (bx (jI (qW u)))),(4,some (bx (jI (qW v))))] (.d (.tup [])) [(0,some (xZ n 11 (L++[(jk (uR u.v v.v) (fun i=>(uR (u.g.getD i z2) (v.g.getD i z2))) n)]) false)),(11,some (yA (L++[(jk (uR u.v v.v) (fun i=>(uR (u.g.getD i z2) (v.g.getD i z2))) n)]))),(2,some [(.refx 0 0 bb)])]:=by
 refine nA Tryz.func183 rfl cb183 rfl ?_
 refine jB<|kx [(4,(.ref 5 0))] [(5,some (bx (.val (.func (.func 193) #[] #[]))))] (zH (uU 5)<|zZ) ?_
 refine kf [] [(0,some (xZ n 11 (L++[(jk (uR u.v v.v) (fun i=>(uR (u.g.getD i z2) (v.g.getD i z2))) n)]) false)),(11,some (yA (L++[(jk (uR u.v v.v) (fun i=>(uR (u.g.getD i z2) (v.g.getD i z2))) n)]))),(1,none),(10,none),(3,none),(4,none),(5,none),(6,none),(7,none),(8,none),(9,none)] (zR (oLx fE)<|zE (oMf [5,3,4])<|zE (oMf [5,3,4])<|zE (oMf [5,3,4])<|zSe (B2:=[(0,some (xZ n 1 L false)),(1,some (yA L)),(5,some (bx (.val (.func (.func 193) #[] #[])))),(3,some (bx (jI (qW u)))),(4,some (bx (jI (qW v))))]) (B2':=[(0,some (xZ n 11 (L++[(jk (uR u.v v.v) (fun i=>(uR (u.g.getD i z2) (v.g.getD i z2))) n)]) false)),(11,some (yA (L++[(jk (uR u.v v.v) (fun i=>(uR (u.g.getD i z2) (v.g.getD i z2))) n)])))]) [0,1,5,3,4,6,7,8,9,10,11] [0,5,3,4] (e_nodeS n L u hu v hv hn hL)<|zF) ?_
 refine ⟨yG (by kernel_rfl),gJ (by kernel_rfl),.inl ⟨_,.nil,?_⟩⟩
 rfl
theorem e_linN(n:Nat)(L:List JV)(bb:Nat)(u:JV)(hu:nZ 1048576 n u)(v:JV)(hv:nZ 1048576 n v)(hn:n<=64)(hL:L.length<=1000):xA Tryz.prog 183 [(.clo 194 [9]),(.ref 2 0),(.ref 3 0),(.ref 4 0)] [(0,some (xZ n 1 L false)),(1,some (yA L)),(2,some [(.refx 0 0 bb)]),(3,some (bx (jI (qW u)))),(4,some (bx (jI (qW v)))),(9,some (bx (jF (jY (gw 0)))))] (.d (.tup [])) [(0,some (xZ n 15 (L++[(jk (uR (gw 0) u.v) (fun i=>(uR (gw 0) (u.g.getD i z2))) n)]) false)),(15,some (yA (L++[(jk (uR (gw 0) u.v) (fun i=>(uR (gw 0) (u.g.getD i z2))) n)]))),(2,some [(.refx 0 0 bb)])]:=by
 refine nA Tryz.func183 rfl cb183 rfl ?_
 refine jB<|kx [(4,(.ref 10 0))] [(10,some [(.clo 194 [9])])] (zH (oBy 10)<|zZ) ?_
 refine kf [(0,.junk)] [(0,some (xZ n 15 (L++[(jk (uR (gw 0) u.v) (fun i=>(uR (gw 0) (u.g.getD i z2))) n)]) false)),(15,some (yA (L++[(jk (uR (gw 0) u.v) (fun i=>(uR (gw 0) (u.g.getD i z2))) n)]))),(1,none),(10,none),(11,none),(12,none),(13,none),(14,none),(3,none),(4,none),(9,none)] (zR (oLx fE)<|zE (oMf [10,3,4])<|zE (oMf [10,3,4])<|zE (oMf [10,3,4])<|zSe (B2:=[(0,some (xZ n 1 L false)),(1,some (yA L)),(10,some [(.clo 194 [9])]),(3,some (bx (jI (qW u)))),(4,some (bx (jI (qW v)))),(9,some (bx (jF (jY (gw 0)))))]) (B2':=[(0,some (xZ n 15 (L++[(jk (uR (gw 0) u.v) (fun i=>(uR (gw 0) (u.g.getD i z2))) n)]) false)),(15,some (yA (L++[(jk (uR (gw 0) u.v) (fun i=>(uR (gw 0) (u.g.getD i z2))) n)])))]) [0,1,10,3,4,9,11,12,13,14,15] [0,10,3,4] (e_nodeN n L u hu v hv hn hL)<|zF) ?_
 refine ⟨yG (by kernel_rfl),gJ (by kernel_rfl),.inl ⟨_,.nil,?_⟩⟩
 rfl
theorem cb126:callB Tryz.prog 126=true:=by kernel_rfl
theorem gB:xV Tryz.prog 83 0=some 0:=by kernel_rfl
theorem mT:xV Tryz.prog 83 2=some 2:=by kernel_rfl
theorem fM:qX Tryz.prog 81=some (false,1):=by kernel_rfl
set_option maxHeartbeats 4000000 in
theorem e_stepN0(x0:qB)(bv:List R2)(hbx:∀ x∈bv,GL 1048576 x)(L:List JV)(hn:bv.length<=64)(hL:L.length<=1000)(hLk:∀ y∈L,nZ 1048576 bv.length y)(hx:aA bv.length L x0):let x:=x0;xA Tryz.prog 126 [(.ref 0 0),(.d (kS x)),(vl 61 8 jF (List.map jY bv))] [(0,some (xZ bv.length 1 (L) false)),(1,some (yA (L)))] (.d (.tup [])) [(0,some (xZ bv.length 18 (L++[nJ bv L x]) false)),(18,some (yA (L++[nJ bv L x])))]:=by
 rcases hx with @⟨p,hp⟩ | @⟨a,ha⟩ | @⟨a,b,ha,hb⟩ | @⟨a,b,ha,hb⟩ | @⟨a,b,ha,hb⟩ | @⟨a,b,ha,hb,hz⟩ | @⟨a,ha⟩ | @⟨a,ha⟩
 all_goals
  intro x
  refine nA Tryz.func126 rfl cb126 rfl ?_
  refine jB<|kx [(3,(.ref 2 0)),(4,(.ref 3 0)),(5,(.ref 4 0))] [(2,some [(.ref 0 0)]),(3,some (bx (kS x))),(4,some (bx (.sl 61 8 (List.map jF (List.map jY bv)))))] (zH (oBy 2)<|zH (uU 3)<|zH (uU 4)<|zZ) ?_
  refine jB<|pwp_fix 2 (k:=0) (o:=0) (h:=fun b0=>?_)
  refine kU (wk (l:=[(0,(.ref 0 0)),(3,(.ref 2 0)),(4,(.ref 3 0)),(5,(.ref 4 0))]) (b:=[(0,some (xZ bv.length 1 L false)),(1,some (yA L)),(2,some [(.refx 0 0 b0)]),(3,some (bx (kS x))),(4,some (bx (.sl 61 8 (List.map jF (List.map jY bv)))))])) ?_
  refine kx [(6,(.ref 5 0))] [(5,some (bx (jF (jY (gw 0)))))] (zE (jV (j_whole ((0:Nat):Int) (by omega) (by omega)))<|zH (qR 5 qJ qL)<|zT (qA jP)<|zZ) ?_
  refine jB<|kx [(7,(.clo 181 [5]))] [] (zE (oMf [5])<|zM<|zZ) ?_
  refine jB<|kx [(8,(.ref 6 0)),(9,(.ref 7 0))] [(6,some (bx (jI (vX.mk (jL.mk kH kH) [] [])))),(7,some (bx (jI (vX.mk (jL.mk kH kH) [] []))))] (zH (qR 6 mE cG)<|zH (qR 7 mE cG)<|zZ) ?_
  refine jB<|kx [(10,(vi (xG x.op)))] [] (zE (kV gB)<|zR (uE fM)<|zE (jV (j_kids x.op))<|zM<|zZ) ?_
  refine jB<|jB ?_
  first
   |(refine kx [(19,(vb true))] [] (zM<|zE (uP true hH (e:=rfl))<|zZ) ?_;refine uI ?_;refine kd [] [(6,some (bx (jI (qW (L.getD a jz)))))] mo (wR (oLx fE)<|wE oNc<|wE (kV cU)<|wR (uE sh143)<|wE (kV gS)<|wR (uE cL)<|wE (oXO dY a (hj:=by first | omega | rfl | (simp only[List.length_map];omega) | (dsimp only;omega)) (h1:=by first | omega | rfl | (simp only[List.length_map];omega) | (dsimp only;omega)))<|wR (oQr (jI ((List.map qW L).getD a (vX.mk (jL.mk kH kH) [] []))) (jI (qW (L.getD a jz))) (oLA gU a (vX.mk (jL.mk kH kH) [] []) (h1:=by first | omega | rfl | (simp only[List.length_map];omega) | (dsimp only;omega))) (by exact (congrArg jI (cP qW L jz _ (by omega)))))<|wT (qA gU)<|wZ) ?_)
   |(refine kx [(19,(vb false))] [] (zM<|zE (uP false hH (e:=rfl))<|zZ) ?_;refine kM ?_;refine jC ?_)
  refine jB<|jB ?_
  first
   |(refine kx [(29,(vb true))] [] (zM<|zE (uP true hH (e:=rfl))<|zZ) ?_;refine uI ?_;refine kd [] [(7,some (bx (jI (qW (L.getD b jz)))))] mo (wR (oLx fE)<|wE oNc<|wE (kV cU)<|wR (uE sh143)<|wE (kV mT)<|wR (uE cL)<|wE (oXO dY b (hj:=by first | omega | rfl | (simp only[List.length_map];omega) | (dsimp only;omega)) (h1:=by first | omega | rfl | (simp only[List.length_map];omega) | (dsimp only;omega)))<|wR (oQr (jI ((List.map qW L).getD b (vX.mk (jL.mk kH kH) [] []))) (jI (qW (L.getD b jz))) (oLA gU b (vX.mk (jL.mk kH kH) [] []) (h1:=by first | omega | rfl | (simp only[List.length_map];omega) | (dsimp only;omega))) (by exact (congrArg jI (cP qW L jz _ (by omega)))))<|wT (qA gU)<|wZ) ?_)
   |(refine kx [(29,(vb false))] [] (zM<|zE (uP false hH (e:=rfl))<|zZ) ?_;refine kM ?_;refine jC ?_)
  refine jB<|kx [(11,(.clo 183 [2,6,7]))] [] (zE (oMf [2,6,7])<|zM<|zZ) ?_
  refine jB<|kx [(40,(vi x.op))] [] (zE (kV gB)<|zR (uE fM)<|zZ) ?_
  refine jH ?_
 all_goals refine jB ?_
 ·rw[show nJ bv L x=(jk (yX p) (fun i=>(gw 0)) bv.length) from by show nJ bv L (qB.mk 0 0 0 (jN p))=_;unfold nJ nV nG;rw[yY];rfl]
  refine kx [(46,(vb true))] [] (zE (uP true xR (e:=rfl))<|zM<|zZ) ?_
  refine uI ?_
  refine kf [] [(0,some (xZ bv.length 18 (L++[(jk (yX p) (fun i=>(gw 0)) bv.length)]) false)),(18,some (yA (L++[(jk (yX p) (fun i=>(gw 0)) bv.length)]))),(1,none),(10,none),(11,none),(12,none),(13,none),(3,none),(5,none),(8,none),(9,none)] (zR (oLx fE)<|zE (oMf [3])<|zE (oMf [5])<|zM<|zSe (B2:=[(0,some (xZ bv.length 1 L false)),(1,some (yA L)),(3,some (bx (kS x))),(5,some (bx (jF (jY (gw 0)))))]) (B2':=[(0,some (xZ bv.length 18 (L++[(jk (yX p) (fun i=>(gw 0)) bv.length)]) false)),(18,some (yA (L++[(jk (yX p) (fun i=>(gw 0)) bv.length)])))]) [0,1,3,5,8,9,10,11,12,13,18] [0,3,5] (e_nodeC bv.length L p hp (gw 0) (gl_w (z:=0) (by omega) (by omega)) hn hL)<|zF) ?_
  refine ⟨yG (by kernel_rfl),gJ (by kernel_rfl),.inl ⟨_,.nil,?_⟩⟩
  rfl
 all_goals
  refine kx [(46,(vb false))] [] (zE (uP false xR (e:=rfl))<|zM<|zZ) ?_
  refine kM ?_
 all_goals refine jB ?_
 ·refine kx [(53,(vb true))] [] (zE (uP true xR (e:=rfl))<|zM<|zZ) ?_
  refine uI ?_
  refine kf [] [(0,some (xZ bv.length 18 (L++[(nJ bv L x)]) false)),(18,some (yA (L++[(nJ bv L x)]))),(1,none),(10,none),(11,none),(12,none),(3,none),(4,none),(5,none),(8,none),(9,none)] (zR (oLx fE)<|zE (oMf [4,3])<|zE (oMf [3,5])<|zM<|zSe (B2:=[(0,some (xZ bv.length 1 L false)),(1,some (yA L)),(4,some (bx (.sl 61 8 (List.map jF (List.map jY bv))))),(3,some (bx (kS x))),(5,some (bx (jF (jY (gw 0)))))]) (B2':=[(0,some (xZ bv.length 18 (L++[(nJ bv L x)]) false)),(18,some (yA (L++[(nJ bv L x)])))]) [0,1,4,3,5,8,9,10,11,12,18] [0,4,3,5] (e_nodeV bv.length L bv hbx a (gw 0) (gl_w (z:=0) (by omega) (by omega)) hn hL ha (by omega))<|zF) ?_
  refine ⟨yG (by kernel_rfl),gJ (by kernel_rfl),.inl ⟨_,.nil,?_⟩⟩
  rfl
 all_goals
  refine kx [(53,(vb false))] [] (zE (uP false xR (e:=rfl))<|zM<|zZ) ?_
  refine kM ?_
 all_goals refine jB ?_
 ·refine kx [(60,(vb true))] [] (zE (uP true xR (e:=rfl))<|zM<|zZ) ?_
  refine uI ?_
  refine kf [] [(0,some (xZ bv.length 18 (L++[(nJ bv L x)]) false)),(18,some (yA (L++[(nJ bv L x)]))),(1,none),(10,none),(11,none),(12,none),(13,none),(2,none),(6,none),(7,none),(8,none),(9,none)] (zM<|zSe (B2:=[(0,some (xZ bv.length 1 L false)),(1,some (yA L)),(2,some [(.refx 0 0 b0)]),(6,some (bx (jI (qW (L.getD a jz))))),(7,some (bx (jI (qW (L.getD b jz)))))]) (B2':=[(0,some (xZ bv.length 18 (L++[(nJ bv L x)]) false)),(18,some (yA (L++[(nJ bv L x)]))),(2,some [(.refx 0 0 b0)])]) [0,1,2,6,7,8,9,10,11,12,13,18] [2,6,7,0] (e_linA bv.length L b0 (L.getD a jz) (cY hLk ha) (L.getD b jz) (cY hLk hb) hn hL) (G:=[0]) (hG:=by exact (.cons (k:=0) (q:=2) (o:=0) (b:=b0) (j:=0) (by kernel_rfl) (by kernel_rfl) (by kernel_rfl) .nil)) (ex:=[.ref 2 0,.ref 6 0,.ref 7 0]) (hy:=.clo (kk:=[2,6,7]) (by kernel_rfl) (by kernel_rfl))<|zF) ?_
  refine ⟨yG (by kernel_rfl),gJ (by kernel_rfl),.inl ⟨_,.nil,?_⟩⟩
  rfl
 all_goals
  refine kx [(60,(vb false))] [] (zE (uP false xR (e:=rfl))<|zM<|zZ) ?_
  refine kM ?_
 all_goals refine jB ?_
 ·refine kx [(64,(vb true))] [] (zE (uP true xR (e:=rfl))<|zM<|zZ) ?_
  refine uI ?_
  refine kf [] [(0,some (xZ bv.length 18 (L++[(nJ bv L x)]) false)),(18,some (yA (L++[(nJ bv L x)]))),(1,none),(10,none),(11,none),(12,none),(13,none),(2,none),(6,none),(7,none),(8,none),(9,none)] (zM<|zSe (B2:=[(0,some (xZ bv.length 1 L false)),(1,some (yA L)),(2,some [(.refx 0 0 b0)]),(6,some (bx (jI (qW (L.getD a jz))))),(7,some (bx (jI (qW (L.getD b jz)))))]) (B2':=[(0,some (xZ bv.length 18 (L++[(nJ bv L x)]) false)),(18,some (yA (L++[(nJ bv L x)]))),(2,some [(.refx 0 0 b0)])]) [0,1,2,6,7,8,9,10,11,12,13,18] [2,6,7,0] (e_linS bv.length L b0 (L.getD a jz) (cY hLk ha) (L.getD b jz) (cY hLk hb) hn hL) (G:=[0]) (hG:=by exact (.cons (k:=0) (q:=2) (o:=0) (b:=b0) (j:=0) (by kernel_rfl) (by kernel_rfl) (by kernel_rfl) .nil)) (ex:=[.ref 2 0,.ref 6 0,.ref 7 0]) (hy:=.clo (kk:=[2,6,7]) (by kernel_rfl) (by kernel_rfl))<|zF) ?_
  refine ⟨yG (by kernel_rfl),gJ (by kernel_rfl),.inl ⟨_,.nil,?_⟩⟩
  rfl
 all_goals
  refine kx [(64,(vb false))] [] (zE (uP false xR (e:=rfl))<|zM<|zZ) ?_
  refine kM ?_
 rotate_left 2
 all_goals refine jB ?_
 ·refine kx [(68,(vb true))] [] (zE (uP true xR (e:=rfl))<|zM<|zZ) ?_
  refine uI ?_
  refine jB<|kx [] [(7,some (bx (jI (qW (L.getD a jz)))))] (zR (oQr (jI (qW (L.getD a jz))) (jI (qW (L.getD a jz))) (kJ gU) (by exact rfl))<|zT (qA gU)<|zZ) ?_
  refine kf [(6,.junk),(7,.junk)] [(0,some (xZ bv.length 18 (L++[(nJ bv L x)]) false)),(18,some (yA (L++[(nJ bv L x)]))),(1,none),(10,none),(11,none),(12,none),(13,none),(14,none),(15,none),(16,none),(2,none),(5,none),(6,none),(7,none),(8,none),(9,none)] (zM<|zE (oMf [5])<|zSe (B2:=[(0,some (xZ bv.length 1 L false)),(1,some (yA L)),(2,some [(.refx 0 0 b0)]),(6,some (bx (jI (qW (L.getD a jz))))),(7,some (bx (jI (qW (L.getD a jz))))),(5,some (bx (jF (jY (gw 0)))))]) (B2':=[(0,some (xZ bv.length 18 (L++[(nJ bv L x)]) false)),(18,some (yA (L++[(nJ bv L x)]))),(2,some [(.refx 0 0 b0)])]) [0,1,2,6,7,8,9,10,11,5,12,13,14,15,16,18] [2,6,7,0] (e_linN bv.length L b0 (L.getD a jz) (cY hLk ha) (L.getD a jz) (cY hLk ha) hn hL) (G:=[0]) (hG:=by exact (.cons (k:=0) (q:=2) (o:=0) (b:=b0) (j:=0) (by kernel_rfl) (by kernel_rfl) (by kernel_rfl) .nil)) (ex:=[.ref 2 0,.ref 6 0,.ref 7 0]) (hy:=.clo (kk:=[2,6,7]) (by kernel_rfl) (by kernel_rfl))<|zF) ?_
  refine ⟨yG (by kernel_rfl),gJ (by kernel_rfl),.inl ⟨_,.nil,?_⟩⟩
  rfl
 all_goals
  refine kx [(68,(vb false))] [] (zE (uP false xR (e:=rfl))<|zM<|zZ) ?_
  refine kM ?_
 rotate_left 1
 all_goals refine jB ?_
 ·refine kx [(74,(vb true))] [] (zE (uP true xR (e:=rfl))<|zM<|zZ) ?_
  refine uI ?_
  refine kf [] [(0,some (xZ bv.length 18 (L++[(nJ bv L x)]) false)),(18,some (yA (L++[(nJ bv L x)]))),(1,none),(10,none),(11,none),(12,none),(13,none),(6,none),(7,none),(8,none),(9,none)] (zR (oLx fE)<|zE (oMf [6,7])<|zE (oMf [6,7])<|zE (oMf [6,7])<|zSe (B2:=[(0,some (xZ bv.length 1 L false)),(1,some (yA L)),(6,some (bx (jI (qW (L.getD a jz))))),(7,some (bx (jI (qW (L.getD b jz)))))]) (B2':=[(0,some (xZ bv.length 18 (L++[(nJ bv L x)]) false)),(18,some (yA (L++[(nJ bv L x)])))]) [0,1,6,7,8,9,10,11,12,13,18] [0,6,7] (e_nodeM bv.length L (L.getD a jz) (cY hLk ha) (L.getD b jz) (cY hLk hb) hn hL)<|zF) ?_
  refine ⟨yG (by kernel_rfl),gJ (by kernel_rfl),.inl ⟨_,.nil,?_⟩⟩
  rfl
 all_goals
  refine kx [(74,(vb false))] [] (zE (uP false xR (e:=rfl))<|zM<|zZ) ?_
  refine kM ?_
 rotate_left 1
 all_goals refine jB ?_
 ·refine kx [(81,(vb true))] [] (zE (uP true xR (e:=rfl))<|zM<|zZ) ?_
  refine uI ?_
  refine jB<|kx [(12,(.ref 8 0))] [(8,some (bx (jF (jY (gw 2)))))] (zE (jV (j_whole ((2:Nat):Int) (by omega) (by omega)))<|zH (qR 8 qJ qL)<|zT (qA jP)<|zZ) ?_
  refine kf [] [(0,some (xZ bv.length 18 (L++[(nJ bv L x)]) false)),(18,some (yA (L++[(nJ bv L x)]))),(1,none),(10,none),(11,none),(12,none),(13,none),(14,none),(6,none),(8,none),(9,none)] (zR (oLx fE)<|zE (oMf [6])<|zE (oMf [8,6])<|zE (oMf [6,8])<|zSe (B2:=[(0,some (xZ bv.length 1 L false)),(1,some (yA L)),(6,some (bx (jI (qW (L.getD a jz))))),(8,some (bx (jF (jY (gw 2)))))]) (B2':=[(0,some (xZ bv.length 18 (L++[(nJ bv L x)]) false)),(18,some (yA (L++[(nJ bv L x)])))]) [0,1,6,8,9,10,11,12,13,14,18] [0,6,8] (e_nodeQ bv.length L (L.getD a jz) (cY hLk ha) (gw 2) (gl_w (z:=2) (by omega) (by omega)) hn hL)<|zF) ?_
  refine ⟨yG (by kernel_rfl),gJ (by kernel_rfl),.inl ⟨_,.nil,?_⟩⟩
  rfl
 all_goals
  refine kx [(81,(vb false))] [] (zE (uP false xR (e:=rfl))<|zM<|zZ) ?_
  refine kM ?_
 ·refine kf [] [(0,some (xZ bv.length 18 (L++[(nJ bv L x)]) false)),(18,some (yA (L++[(nJ bv L x)]))),(1,none),(10,none),(11,none),(12,none),(2,none),(6,none),(7,none),(8,none),(9,none)] (zR (oLx fE)<|zE (oMf [2,6,7])<|zE (oMf [2,6,7])<|zE (oMf [6,7,2])<|zSe (B2:=[(0,some (xZ bv.length 1 L false)),(1,some (yA L)),(2,some [(.refx 0 0 b0)]),(6,some (bx (jI (qW (L.getD a jz))))),(7,some (bx (jI (qW (L.getD b jz)))))]) (B2':=[(0,some (xZ bv.length 18 (L++[(nJ bv L x)]) false)),(18,some (yA (L++[(nJ bv L x)])))]) [0,1,2,6,7,8,9,10,11,12,18] [0,2,6,7] (e_nodeD bv.length L b0 (L.getD a jz) (cY hLk ha) (L.getD b jz) (cY hLk hb) hn hL hz)<|zF) ?_
  refine ⟨yG (by kernel_rfl),gJ (by kernel_rfl),.inl ⟨_,.nil,?_⟩⟩
  rfl
end Go.Proofs.YtnajallgoaiahaaGreatDoor
