/- Part 25 of a proof: rules, plain facts, and functions walked. -/
import Derived.Test.YtnajallgoaiahaaGreatDoorM24
set_option linter.all false
set_option maxRecDepth 4000
namespace Go.Proofs.YtnajallgoaiahaaGreatDoor
open Go.Fid
theorem by61:yL Tryz.prog 61=some 128:=by kernel_rfl
theorem by95:yL Tryz.prog 95=some 176:=by kernel_rfl
theorem cb184:callB Tryz.prog 184=true:=by kernel_rfl
theorem dR:vM Tryz.prog 143=some (95,10):=by kernel_rfl
theorem fo161_0:zG Tryz.prog 161 0=some 0:=by kernel_rfl
theorem fo161_1:zG Tryz.prog 161 1=some 1:=by kernel_rfl
theorem cM:zG Tryz.prog 161 3=some 3:=by kernel_rfl
theorem pl95:eS Tryz.prog 95=some [(0,8),(8,1),(9,1)]:=by kernel_rfl
theorem nL:qW Tryz.prog 95=some (true,10):=by kernel_rfl
theorem sh143:qW Tryz.prog 143=some (false,1):=by kernel_rfl
theorem cZ:yE Tryz.prog 95=some [.bool false,.slice none 0 0,.bool false,.slice none 0 0,.bool false,.slice none 0 0,.bool false,.slice none 0 0,.slice none 0 0,.slice none 0 0]:=by kernel_rfl
theorem zn95:bA [.bool false,.slice none 0 0,.bool false,.slice none 0 0,.bool false,.slice none 0 0,.bool false,.slice none 0 0,.slice none 0 0,.slice none 0 0] [.val (.bool false),.val (.slice none 0 0),.val (.bool false),.val (.slice none 0 0),.val (.bool false),.val (.slice none 0 0),.val (.bool false),.val (.slice none 0 0),.val (.slice none 0 0),.val (.slice none 0 0)]:=by simp [bA,Value.oneCell']
theorem fK:bA [.bool false,.slice none 0 0,.bool false,.slice none 0 0,.bool false,.slice none 0 0,.bool false,.slice none 0 0,.slice none 0 0,.slice none 0 0] [.val (.bool false),.sl 140 1 [],.val (.bool false),.sl 140 1 [],.val (.bool false),.sl 140 1 [],.val (.bool false),.sl 140 1 [],.sl 61 8 [],.sl 86 1 []]:=by simp [bA,Value.oneCell']
structure NKD where
 c1:SV
 c2:SV
 c3:SV
 X:BS
 v:R2
 g:Nat→R2
 k:List Nat
 b:List VBlk
inductive NK (n:Nat) (L:List JV):Type
 |C (p:Rat) (hp:QL p 1048576) (zz:R2) (hzz:GL 3 zz):NK n L
 |V (bv:List R2) (hbx:∀ x∈bv,GL 1048576 x) (a:Nat) (zz:R2) (hzz:GL 3 zz) (ha:a<bv.length) (hbl:bv.length≤1000000):NK n L
 |A (u:JV) (hu:nQ 1048576 n u) (v:JV) (hv:nQ 1048576 n v):NK n L
 |S (u:JV) (hu:nQ 1048576 n u) (v:JV) (hv:nQ 1048576 n v):NK n L
 |N (u:JV) (hu:nQ 1048576 n u) (v:JV) (hv:nQ 1048576 n v):NK n L
 |M (u:JV) (hu:nQ 1048576 n u) (v:JV) (hv:nQ 1048576 n v):NK n L
 |Q (u:JV) (hu:nQ 1048576 n u) (tt:R2) (htt:GL 3 tt):NK n L
 |D (bb:Nat) (u:JV) (hu:nQ 1048576 n u) (v:JV) (hv:nQ 1048576 n v) (hz:yV v.v.1 v.v.2=false):NK n L
def NK.d{n:Nat}{L:List JV}:NK n L→NKD
 |.C p hp zz hzz=>⟨(.clo 188 [2]),(.clo 189 [3]),(.clo 181 [3]),[(2,some (bx (kM (kV.mk 0 0 0 (jN p))))),(3,some (bx (jF (kC zz))))],(yF p),(fun i=>zz),[2],[(3,(bx (jF (kC zz))),(jX.cells (jF (kC zz))))]⟩
 |.V bv hbx a zz hzz ha hbl=>⟨(.clo 190 [2,3]),(.clo 191 [3,4]),(.clo 181 [4]),[(2,some (bx (.sl 61 8 (List.map jF (List.map kC bv))))),(3,some (bx (kM (kV.mk 1 ((a:Nat):Int) 0 kZ)))),(4,some (bx (jF (kC zz))))],(bv.getD a z2),(fun i=>(if ((i:Nat):Int)=((a:Nat):Int) then gw 1 else zz)),[2,3],[(4,(bx (jF (kC zz))),(jX.cells (jF (kC zz)))),(3,(bx (kM (kV.mk 1 ((a:Nat):Int) 0 kZ))),(jX.cells (kM (kV.mk 1 ((a:Nat):Int) 0 kZ))))]⟩
 |.A u hu v hv=>⟨(.clo 185 [2,3,4]),(.clo 186 [2,3,4]),(.clo 187 [2,3,4]),[(2,some (bx (.val (.func (.func 192) #[] #[])))),(3,some (bx (jL (qJ u)))),(4,some (bx (jL (qJ v))))],(xO u.v v.v),(fun i=>(xO (u.g.getD i z2) (v.g.getD i z2))),[2,3,4],[(4,(bx (jL (qJ v))),(jX.cells (jL (qJ v)))),(3,(bx (jL (qJ u))),(jX.cells (jL (qJ u)))),(2,(bx (.val (.func (.func 192) #[] #[]))),(jX.cells (.val (.func (.func 192) #[] #[]))))]⟩
 |.S u hu v hv=>⟨(.clo 185 [2,3,4]),(.clo 186 [2,3,4]),(.clo 187 [2,3,4]),[(2,some (bx (.val (.func (.func 193) #[] #[])))),(3,some (bx (jL (qJ u)))),(4,some (bx (jL (qJ v))))],(uO u.v v.v),(fun i=>(uO (u.g.getD i z2) (v.g.getD i z2))),[2,3,4],[(4,(bx (jL (qJ v))),(jX.cells (jL (qJ v)))),(3,(bx (jL (qJ u))),(jX.cells (jL (qJ u)))),(2,(bx (.val (.func (.func 193) #[] #[]))),(jX.cells (.val (.func (.func 193) #[] #[]))))]⟩
 |.N u hu v hv=>⟨(.clo 185 [2,3,4]),(.clo 186 [2,3,4]),(.clo 187 [2,3,4]),[(2,some [(.clo 194 [5])]),(3,some (bx (jL (qJ u)))),(4,some (bx (jL (qJ v)))),(5,some (bx (jF (kC (gw 0)))))],(uO (gw 0) u.v),(fun i=>(uO (gw 0) (u.g.getD i z2))),[4,3,2,5],[(4,(bx (jL (qJ v))),(jX.cells (jL (qJ v)))),(3,(bx (jL (qJ u))),(jX.cells (jL (qJ u)))),(2,[(.clo 194 [5])],[(.clo 194 [(.cptr 1000000 (jX.cells (jF (kC (gw 0)))) 0)])]),(5,(bx (jF (kC (gw 0)))),(jX.cells (jF (kC (gw 0)))))]⟩
 |.M u hu v hv=>⟨(.clo 195 [2,3]),(.clo 197 [2,3]),(.clo 198 [2,3]),[(2,some (bx (jL (qJ u)))),(3,some (bx (jL (qJ v))))],(uF u.v v.v),(fun i=>(xO (uF u.v (v.g.getD i z2)) (uF v.v (u.g.getD i z2)))),[2,3],[(3,(bx (jL (qJ v))),(jX.cells (jL (qJ v)))),(2,(bx (jL (qJ u))),(jX.cells (jL (qJ u))))]⟩
 |.Q u hu tt htt=>⟨(.clo 199 [2]),(.clo 201 [3,2]),(.clo 202 [2,3]),[(2,some (bx (jL (qJ u)))),(3,some (bx (jF (kC tt))))],(gsq u.v),(fun i=>(uF tt (uF u.v (u.g.getD i z2)))),[2],[(2,(bx (jL (qJ u))),(jX.cells (jL (qJ u)))),(3,(bx (jF (kC tt))),(jX.cells (jF (kC tt))))]⟩
 |.D bb u hu v hv hz=>⟨(.clo 203 [2,3,4]),(.clo 205 [2,3,4]),(.clo 206 [3,4,2]),[(2,some [(.refx 0 0 bb)]),(3,some (bx (jL (qJ u)))),(4,some (bx (jL (qJ v))))],(mY u.v v.v),(fun i=>(mY (uO (u.g.getD i z2) (uF (mY u.v v.v) (v.g.getD i z2))) v.v)),[4,3,2,0,1],[(4,(bx (jL (qJ v))),(jX.cells (jL (qJ v)))),(3,(bx (jL (qJ u))),(jX.cells (jL (qJ u)))),(2,[(.refx 0 0 bb)],[(.cptr 1000000 (jX.cells (mcA n (.sl 1000000 10 (List.map jL (List.map qJ L))) false)) 0)]),(0,(xP n 1 L false),(jX.cells (mcA n (.sl 1000000 10 (List.map jL (List.map qJ L))) false))),(1,(xY L),(qE (List.map jL (List.map qJ L))))]⟩
theorem NK.hv{n:Nat}{L:List JV}(K:NK n L):GL 67108864 K.d.v:=match K with
 |.C p hp zz hzz=>(qD (gl_pt hp) (by decide))
 |.V bv hbx a zz hzz ha hbl=>(qD (uU hbx (by decide) a) (by decide))
 |.A u hu v hv=>(qD (gl_add (k:=2097153) hu.1 hv.1 (by decide)) (by decide))
 |.S u hu v hv=>(qD (fS (k:=2097153) hu.1 hv.1 (by decide)) (by decide))
 |.N u hu v hv=>(qD (fS (k:=1048580) (gl_w (z:=0) (by omega) (by omega)) hu.1 (by decide)) (by decide))
 |.M u hu v hv=>(qD (yY (k:=2097152) hu.1 hv.1 (by decide)) (by decide))
 |.Q u hu tt htt=>(qD (gl_sq (k:=2097152) hu.1 (by decide)) (by decide))
 |.D bb u hu v hv hz=>(qD (gl_div (k:=2097152) hu.1 hv.1 (by decide)) (by decide))
theorem NK.hg{n:Nat}{L:List JV}(K:NK n L)(i:Nat)(hi:i<n):GL 67108864 (K.d.g i):=match K with
 |.C p hp zz hzz=>(qD hzz (by decide))
 |.V bv hbx a zz hzz ha hbl=>(qD (gl_ite (gl_w (z:=1) (by omega) (by omega)) hzz) (by decide))
 |.A u hu v hv=>(qD (gl_add (k:=2097153) (uU hu.2.1 (by decide) i) (uU hv.2.1 (by decide) i) (by decide)) (by decide))
 |.S u hu v hv=>(qD (fS (k:=2097153) (uU hu.2.1 (by decide) i) (uU hv.2.1 (by decide) i) (by decide)) (by decide))
 |.N u hu v hv=>(qD (fS (k:=1048580) (gl_w (z:=0) (by omega) (by omega)) (uU hu.2.1 (by decide) i) (by decide)) (by decide))
 |.M u hu v hv=>(qD (gl_add (k:=4194305) (yY (k:=2097152) hu.1 (uU hv.2.1 (by decide) i) (by decide)) (yY (k:=2097152) hv.1 (uU hu.2.1 (by decide) i) (by decide)) (by decide)) (by decide))
 |.Q u hu tt htt=>(qD (yY (k:=2097155) htt (yY (k:=2097152) hu.1 (uU hu.2.1 (by decide) i) (by decide)) (by decide)) (by decide))
 |.D bb u hu v hv hz=>(qD (gl_div (k:=5242881) (fS (k:=4194305) (uU hu.2.1 (by decide) i) (yY (k:=3145728) (gl_div (k:=2097152) hu.1 hv.1 (by decide)) (uU hv.2.1 (by decide) i) (by decide)) (by decide)) hv.1 (by decide)) (by decide))
theorem nk_v{n:Nat}{L:List JV}(K:NK n L){o:Oper}{S:SL}{B:BS}{y:Operand}{ats:Array TypeId}(ho:o.op=.call { callee:=.value y,args:=#[],argTypes:=ats })(hy:ev (kJ S) y=K.d.c1)(hb:K.d.k.map (fun k=>kD B k)=K.d.k.map (fun k=>kD ([(0,some (xP n 1 L false)),(1,some (xY L))]++K.d.X) k)):RKs Tryz.prog o S B K.d.k (.d (jF (kC K.d.v))):=match K with
 |.C p hp zz hzz=>oCc (ds:=[]) [2] [(jX.cells (kM (kV.mk 0 0 0 (jN p))))] (j_vC p hp) (xW (by decide) _) (ho:=ho) (hy:=hy) (hx:=rfl) (uA:=rfl) (hb:=hb)
 |.V bv hbx a zz hzz ha hbl=>oCc (ds:=[]) [2,3] [(jX.cells (.sl 61 8 (List.map jF (List.map kC bv)))),(jX.cells (kM (kV.mk 1 ((a:Nat):Int) 0 kZ)))] (j_vV bv hbx a ha hbl) (xW (by decide) _) (ho:=ho) (hy:=hy) (hx:=rfl) (uA:=rfl) (hb:=hb)
 |.A u hu v hv=>oCc (ds:=[]) [2,3,4] [(jX.cells (.val (.func (.func 192) #[] #[]))),(jX.cells (jL (qJ u))),(jX.cells (jL (qJ v)))] (j_vAdd n u hu v hv) (xW (by decide) _) (ho:=ho) (hy:=hy) (hx:=rfl) (uA:=rfl) (hb:=hb)
 |.S u hu v hv=>oCc (ds:=[]) [2,3,4] [(jX.cells (.val (.func (.func 193) #[] #[]))),(jX.cells (jL (qJ u))),(jX.cells (jL (qJ v)))] (j_vSub n u hu v hv) (xW (by decide) _) (ho:=ho) (hy:=hy) (hx:=rfl) (uA:=rfl) (hb:=hb)
 |.N u hu v hv=>oCh [(4,(bx (jL (qJ v))),(jX.cells (jL (qJ v)))),(3,(bx (jL (qJ u))),(jX.cells (jL (qJ u)))),(2,[(.clo 194 [5])],[(.clo 194 [(.cptr 1000000 (jX.cells (jF (kC (gw 0)))) 0)])]),(5,(bx (jF (kC (gw 0)))),(jX.cells (jF (kC (gw 0)))))] [.ref 2 0,.ref 3 0,.ref 4 0] (j_vNeg n u hu v hv) (.cons (.r (.tail _ (.tail _ (.head _)))) (.cons (.r (.tail _ (.head _))) (.cons (.r (.head _)) .nil))) (.cons (.all rfl) (.cons (.all rfl) (.cons (.cons (.f (css:=[(jX.cells (jF (kC (gw 0))))]) (.cons (.head _) .nil)) .nil) (.cons (.all rfl) .nil)))) (xW (by decide) _) (ex:=[.ref 2 0,.ref 3 0,.ref 4 0]) (xs:=[]) (ho:=ho) (hy:=.clo (kk:=[2,3,4]) hy rfl) (hx:=rfl) (hb:=hb)
 |.M u hu v hv=>oCc (ds:=[]) [2,3] [(jX.cells (jL (qJ u))),(jX.cells (jL (qJ v)))] (j_vM n u hu v hv) (xW (by decide) _) (ho:=ho) (hy:=hy) (hx:=rfl) (uA:=rfl) (hb:=hb)
 |.Q u hu tt htt=>oCc (ds:=[]) [2] [(jX.cells (jL (qJ u)))] (j_vQ n u hu) (xW (by decide) _) (ho:=ho) (hy:=hy) (hx:=rfl) (uA:=rfl) (hb:=hb)
 |.D bb u hu v hv hz=>oCh [(4,(bx (jL (qJ v))),(jX.cells (jL (qJ v)))),(3,(bx (jL (qJ u))),(jX.cells (jL (qJ u)))),(2,[(.refx 0 0 bb)],[(.cptr 1000000 (jX.cells (mcA n (.sl 1000000 10 (List.map jL (List.map qJ L))) false)) 0)]),(0,(xP n 1 L false),(jX.cells (mcA n (.sl 1000000 10 (List.map jL (List.map qJ L))) false))),(1,(xY L),(qE (List.map jL (List.map qJ L))))] [.ref 2 0,.ref 3 0,.ref 4 0] (j_vD n (.sl 1000000 10 (List.map jL (List.map qJ L))) u hu v hv hz) (.cons (.r (.tail _ (.tail _ (.head _)))) (.cons (.r (.tail _ (.head _))) (.cons (.r (.head _)) .nil))) (.cons (.all rfl) (.cons (.all rfl) (.cons (.cons (.x (.head _)) .nil) (.cons (.cons .d (.cons .d (.cons .d (.cons (aK (F:=jL) (L:=(List.map qJ L)) (.head _) (fun _=>rfl) rfl) (.cons .d .nil))))) (.cons (.all (by exact rfl)) .nil))))) (xW (by decide) _) (ex:=[.ref 2 0,.ref 3 0,.ref 4 0]) (xs:=[]) (ho:=ho) (hy:=.clo (kk:=[2,3,4]) hy rfl) (hx:=rfl) (hb:=hb)
def nk_bl{n:Nat}{L:List JV}(K:NK n L)(gl:List jV):List VBlk:=K.d.b++[(6,(bx (jF (kC K.d.v))++[(.own 7 61 8 gl.length),(.own 8 86 1 0)]),(jX.cells (.agg (jX.cells (jF (kC K.d.v))++[(.sl 1000000 8 (List.map jF gl)),(.sl 1000000 1 (List.map uL []))])))),(8,(bm uL []),(qE (List.map uL []))),(7,(yG jF gl),(qE (List.map jF gl)))]
theorem nk_vb(v:R2)(gl:List jV):VBlks 1000000 [(6,(bx (jF (kC v))++[(.own 7 61 8 gl.length),(.own 8 86 1 0)]),(jX.cells (.agg (jX.cells (jF (kC v))++[(.sl 1000000 8 (List.map jF gl)),(.sl 1000000 1 (List.map uL []))])))),(8,(bm uL []),(qE (List.map uL []))),(7,(yG jF gl),(qE (List.map jF gl)))]:=(.cons (.cons .d (.cons .d (.cons .d (.cons .d (.cons .d (.cons .d (.cons .d (.cons .d (.cons (aK (F:=jF) (L:=gl) (.tail _ (.head _)) (fun _=>rfl) rfl) (.cons (aK (F:=uL) (L:=[]) (.head _) (fun _=>rfl) rfl) .nil)))))))))) (.cons (sees_bm (fun _=>rfl)) (.cons (.all (by exact rfl)) .nil)))
theorem nk_g{n:Nat}{L:List JV}(K:NK n L){i:Nat}(hi:i<n)(gl:List jV){o:Oper}{S:SL}{B:BS}{y:Operand}{xs:List Operand}{ats:Array TypeId}(ho:o.op=.call { callee:=.value y,args:=xs.toArray,argTypes:=ats })(hy:ev (kJ S) y=K.d.c2)(hx:xs.map (ev (kJ S))=[.ref 6 0,jP i])(hb:(nk_bl K gl).map (fun p=>kD B p.1)=(nk_bl K gl).map (fun p=>some p.2.1)):RKs Tryz.prog o S B (K.d.b.map (·.1)++[6,8,7]) (.d (jF (kC (K.d.g i)))):=match K with
 |.C p hp zz hzz=>oCh (nk_bl (.C p hp zz hzz) gl) [(.ref 6 0),(jP i),.ref 3 0] (j_gC _ i zz hzz) (.cons (.r (.tail _ (.head _))) (.cons .d (.cons (.r (.head _)) .nil))) (.cons (.all rfl) (nk_vb _ gl)) (xW (by decide) _) (ex:=[.ref 3 0]) (ho:=ho) (hy:=.clo (kk:=[3]) hy rfl) (hx:=by rw[hx];rfl) (hb:=hb)
 |.V bv hbx a zz hzz ha hbl=>oCh (nk_bl (.V bv hbx a zz hzz ha hbl) gl) [(.ref 6 0),(jP i),.ref 3 0,.ref 4 0] (j_gV _ i a zz hzz) (.cons (.r (.tail _ (.tail _ (.head _)))) (.cons .d (.cons (.r (.tail _ (.head _))) (.cons (.r (.head _)) .nil)))) (.cons (.all rfl) (.cons (.all rfl) (nk_vb _ gl))) (xW (by decide) _) (ex:=[.ref 3 0,.ref 4 0]) (ho:=ho) (hy:=.clo (kk:=[3,4]) hy rfl) (hx:=by rw[hx];rfl) (hb:=hb)
 |.A u hu v hv=>oCh (nk_bl (.A u hu v hv) gl) [(.ref 6 0),(jP i),.ref 2 0,.ref 3 0,.ref 4 0] (j_gAdd _ i n u hu v hv (by omega)) (.cons (.r (.tail _ (.tail _ (.tail _ (.head _))))) (.cons .d (.cons (.r (.tail _ (.tail _ (.head _)))) (.cons (.r (.tail _ (.head _))) (.cons (.r (.head _)) .nil))))) (.cons (.all rfl) (.cons (.all rfl) (.cons (.all rfl) (nk_vb _ gl)))) (xW (by decide) _) (ex:=[.ref 2 0,.ref 3 0,.ref 4 0]) (ho:=ho) (hy:=.clo (kk:=[2,3,4]) hy rfl) (hx:=by rw[hx];rfl) (hb:=hb)
 |.S u hu v hv=>oCh (nk_bl (.S u hu v hv) gl) [(.ref 6 0),(jP i),.ref 2 0,.ref 3 0,.ref 4 0] (j_gSub _ i n u hu v hv (by omega)) (.cons (.r (.tail _ (.tail _ (.tail _ (.head _))))) (.cons .d (.cons (.r (.tail _ (.tail _ (.head _)))) (.cons (.r (.tail _ (.head _))) (.cons (.r (.head _)) .nil))))) (.cons (.all rfl) (.cons (.all rfl) (.cons (.all rfl) (nk_vb _ gl)))) (xW (by decide) _) (ex:=[.ref 2 0,.ref 3 0,.ref 4 0]) (ho:=ho) (hy:=.clo (kk:=[2,3,4]) hy rfl) (hx:=by rw[hx];rfl) (hb:=hb)
 |.N u hu v hv=>oCh (nk_bl (.N u hu v hv) gl) [(.ref 6 0),(jP i),.ref 2 0,.ref 3 0,.ref 4 0] (j_gNeg _ i n u hu v hv (by omega)) (.cons (.r (.tail _ (.tail _ (.tail _ (.tail _ (.head _)))))) (.cons .d (.cons (.r (.tail _ (.tail _ (.head _)))) (.cons (.r (.tail _ (.head _))) (.cons (.r (.head _)) .nil))))) (.cons (.all rfl) (.cons (.all rfl) (.cons (.cons (.f (css:=[(jX.cells (jF (kC (gw 0))))]) (.cons (.head _) .nil)) .nil) (.cons (.all rfl) (nk_vb _ gl))))) (xW (by decide) _) (ex:=[.ref 2 0,.ref 3 0,.ref 4 0]) (ho:=ho) (hy:=.clo (kk:=[2,3,4]) hy rfl) (hx:=by rw[hx];rfl) (hb:=hb)
 |.M u hu v hv=>oCh (nk_bl (.M u hu v hv) gl) [(.ref 6 0),(jP i),.ref 2 0,.ref 3 0] (j_gM _ i n u hu v hv (by omega)) (.cons (.r (.tail _ (.tail _ (.head _)))) (.cons .d (.cons (.r (.tail _ (.head _))) (.cons (.r (.head _)) .nil)))) (.cons (.all rfl) (.cons (.all rfl) (nk_vb _ gl))) (xW (by decide) _) (ex:=[.ref 2 0,.ref 3 0]) (ho:=ho) (hy:=.clo (kk:=[2,3]) hy rfl) (hx:=by rw[hx];rfl) (hb:=hb)
 |.Q u hu tt htt=>oCh (nk_bl (.Q u hu tt htt) gl) [(.ref 6 0),(jP i),.ref 3 0,.ref 2 0] (j_gQ _ i tt htt n u hu (by omega)) (.cons (.r (.tail _ (.tail _ (.head _)))) (.cons .d (.cons (.r (.tail _ (.head _))) (.cons (.r (.head _)) .nil)))) (.cons (.all rfl) (.cons (.all rfl) (nk_vb _ gl))) (xW (by decide) _) (ex:=[.ref 3 0,.ref 2 0]) (ho:=ho) (hy:=.clo (kk:=[3,2]) hy rfl) (hx:=by rw[hx];rfl) (hb:=hb)
 |.D bb u hu v hv hz=>oCh (nk_bl (.D bb u hu v hv hz) gl) [(.ref 6 0),(jP i),.ref 2 0,.ref 3 0,.ref 4 0] (j_gD (mY u.v v.v) (gl_div (k:=2097152) hu.1 hv.1 (by decide)) (.sl 1000000 8 (List.map jF gl)) (.sl 1000000 1 (List.map uL [])) i n (.sl 1000000 10 (List.map jL (List.map qJ L))) u hu v hv hz (by omega)) (.cons (.r (.tail _ (.tail _ (.tail _ (.tail _ (.tail _ (.head _))))))) (.cons .d (.cons (.r (.tail _ (.tail _ (.head _)))) (.cons (.r (.tail _ (.head _))) (.cons (.r (.head _)) .nil))))) (.cons (.all rfl) (.cons (.all rfl) (.cons (.cons (.x (.head _)) .nil) (.cons (.cons .d (.cons .d (.cons .d (.cons (aK (F:=jL) (L:=(List.map qJ L)) (.head _) (fun _=>rfl) rfl) (.cons .d .nil))))) (.cons (.all (by exact rfl)) (nk_vb _ gl)))))) (xW (by decide) _) (ex:=[.ref 2 0,.ref 3 0,.ref 4 0]) (ho:=ho) (hy:=.clo (kk:=[2,3,4]) hy rfl) (hx:=by rw[hx];rfl) (hb:=hb)
set_option maxHeartbeats 4000000 in
theorem aS(n:Nat)(L:List JV)(K0:NK n L)(hn:n≤64)(hL:L.length≤1000):let K:=K0;xH Tryz.prog 184 [(.ref 0 0),K.d.c1,K.d.c2,K.d.c3] ([(0,some (xP n 1 L false)),(1,some (xY L))]++K.d.X) (.d (.tup [])) [(0,some (xP n 10 (L++[(jk K.d.v (fun i=>(K.d.g i)) n)]) false)),(10,some (xY (L++[(jk K.d.v (fun i=>(K.d.g i)) n)])))]:=by
 cases K0
 all_goals
  intro K
  refine nN Tryz.func184 rfl cb184 rfl ?_
  show qG _ _ _ _ ⟨[(0,(.ref 0 0)),(1,K.d.c1),(2,K.d.c2),(3,K.d.c3)],([(0,some (xP n 1 L false)),(1,some (xY L))]++K.d.X)⟩
  refine jB<|kx [(8,(.ref 6 0))] [(6,some (bx (.agg (jX.cells (jF (kC K.d.v))++[(.val (.slice none 0 0)),(.val (.slice none 0 0))]))))] (zM<|zM<|zC (nk_v K (by exact rfl) (by kernel_rfl) (by kernel_rfl))<|zC (oCh [(0,(xP n 1 L false),(jX.cells (mcA n (.sl 1000000 10 (List.map jL (List.map qJ L))) false))),(1,(xY L),(qE (List.map jL (List.map qJ L))))] [(.ref 0 0),(.d (jF (kC K.d.v)))] (j_round n (.sl 1000000 10 (List.map jL (List.map qJ L))) K.d.v K.hv) (.cons (.r (.head _)) (.cons .d .nil)) (.cons (.cons .d (.cons .d (.cons .d (.cons (aK (F:=jL) (L:=(List.map qJ L)) (.head _) (fun _=>rfl) rfl) (.cons .d .nil))))) (.cons (.all (by exact rfl)) .nil)) (xW (by decide) _) (ex:=[]))<|zE (eX pl95 cZ zn95)<|zH (qV 6 cZ fK)<|zT (qA nL)<|zZ) ?_
  refine jB<|jB<|kx [(22,(vb true))] [] (zM<|zE oNc<|zE (kY fo161_1)<|zR (uM cH)<|zE (vW true mL)<|zZ) ?_
  refine uY ?_
  refine jB<|aI 6 8 7 61 8 (cs:=(bx (.agg (jX.cells (jF (kC K.d.v))++[(.val (.slice none 0 0)),(.val (.slice none 0 0))])))) (h:=?_)
  refine kS (wk (l:=[(0,(.ref 0 0)),(1,K.d.c1),(2,K.d.c2),(3,K.d.c3),(8,(.ref 6 0)),(22,(vb true))]) (b:=([(0,some (xP n 1 L false)),(1,some (xY L)),(6,some (bx (jF (kC K.d.v))++[(.own 7 61 8 0),(.d (.val (.slice none 0 0)))])),(7,some (yG jF []))]++K.d.X))) ?_
  refine aI 6 9 8 86 1 (cs:=(bx (jF (kC K.d.v))++[(.own 7 61 8 0),(.d (.val (.slice none 0 0)))])) (h:=?_)
  refine kS (wk (l:=[(0,(.ref 0 0)),(1,K.d.c1),(2,K.d.c2),(3,K.d.c3),(8,(.ref 6 0)),(22,(vb true))]) (b:=([(0,some (xP n 1 L false)),(1,some (xY L)),(6,some (bx (jF (kC K.d.v))++[(.own 7 61 8 0),(.own 8 86 1 0)])),(7,some (yG jF [])),(8,some (bm uL []))]++K.d.X))) ?_
  refine kx [(26,(jP n)),(27,(jP 0))] [] (zM<|zE oNc<|zE (kY fo161_0)<|zR (uM cH)<|zM<|zZ) ?_
  refine jH<|kA (α:=Nat × List jV) (fun (i,gl)=>⟨[(0,(.ref 0 0)),(1,K.d.c1),(2,K.d.c2),(3,K.d.c3),(8,(.ref 6 0)),(26,(jP n)),(27,(jP i))],([(0,some (xP n 1 L false)),(1,some (xY L)),(6,some (bx (jF (kC K.d.v))++[(.own 7 61 8 gl.length),(.own 8 86 1 0)])),(7,some (yG jF gl)),(8,some (bm uL []))]++K.d.X)⟩) (fun (i,gl)=>i≤n∧gl=List.map kC (List.map (fun (i:Nat)=>(K.d.g i)) (List.range i))) (fun (i,gl)=>n-i) (0,[]) wk ⟨Nat.zero_le _,rfl⟩ ?_
  rintro ⟨i,gl⟩ ⟨hi,hg⟩
  have hgl:gl.length=i:=jk_len (G:=(fun (i:Nat)=>(K.d.g i))) hg
  refine jB<|kx [(28,(vb (decide (((i:Nat):Int)<((n:Nat):Int)))))] [] (zE xK<|zZ) ?_
  refine jB<|jG rfl (fun h1=>?_) (fun h1=>?_)
  ·replace h1:=uP h1
   refine jD<|jB<|jH<|jB<|kx [(9,(jP i))] [] (zM<|zM<|zZ) ?_
   refine kd [] [(6,some (bx (jF (kC K.d.v))++[(.own 9 61 8 ((gl++[(kC (K.d.g i))]).length)),(.own 8 86 1 0)])),(9,some (yG jF (gl++[(kC (K.d.g i))]))),(7,none)] mo (wE (kY xV)<|wR (uM cJ)<|wM<|wM<|wM<|wC (nk_g K (Int.ofNat_lt.1 h1) gl (by exact rfl) (by kernel_rfl) (by kernel_rfl) (by kernel_rfl))<|wC (oCh [(0,(xP n 1 L false),(jX.cells (mcA n (.sl 1000000 10 (List.map jL (List.map qJ L))) false))),(1,(xY L),(qE (List.map jL (List.map qJ L))))] [(.ref 0 0),(.d (jF (kC (K.d.g i))))] (j_round n (.sl 1000000 10 (List.map jL (List.map qJ L))) (K.d.g i) (K.hg i (by omega))) (.cons (.r (.head _)) (.cons .d .nil)) (.cons (.cons .d (.cons .d (.cons .d (.cons (aK (F:=jL) (L:=(List.map qJ L)) (.head _) (fun _=>rfl) rfl) (.cons .d .nil))))) (.cons (.all (by exact rfl)) .nil)) (xW (by decide) _) (ex:=[]))<|wE (cN xI qO qS)<|wAS (k:=7) 9 jF gl [(kC (K.d.g i))] rfl xI qO by61<|wE (kY xV)<|wT (oSx cJ)<|wZ) ?_
   refine kS (wk (l:=[(0,(.ref 0 0)),(1,K.d.c1),(2,K.d.c2),(3,K.d.c3),(8,(.ref 6 0)),(26,(jP n)),(27,(jP i))]) (b:=([(0,some (xP n 1 L false)),(1,some (xY L)),(6,some (bx (jF (kC K.d.v))++[(.own 9 61 8 ((gl++[(kC (K.d.g i))]).length)),(.own 8 86 1 0)])),(8,some (bm uL [])),(9,some (yG jF (gl++[(kC (K.d.g i))])))]++K.d.X))) ?_
   refine kS (bN (S':=[(0,(.ref 0 0)),(1,K.d.c1),(2,K.d.c2),(3,K.d.c3),(8,(.ref 6 0)),(26,(jP n)),(27,(jP i))]) (B':=([(0,some (xP n 1 L false)),(1,some (xY L)),(6,some (bx (jF (kC K.d.v))++[(.own 7 61 8 ((gl++[(kC (K.d.g i))]).length)),(.own 8 86 1 0)])),(7,some (yG jF (gl++[(kC (K.d.g i))]))),(8,some (bm uL []))]++K.d.X)) 7 9 6) ?_
   refine kx [(27,(jP (i+1)))] [] (zE (vC (i+1))<|zM<|zZ) ?_
   exact ⟨(i+1,gl++[kC (K.d.g i)]),wk,⟨by omega,jk_push (G:=(fun (i:Nat)=>(K.d.g i))) hg⟩,(by first|omega|(dsimp only;omega))⟩
  ·replace h1:=uR h1
   refine kB<|jB<|jB<|kx [(45,(vb false))] [] (zM<|zE oNc<|zE (kY fo161_1)<|zR (uM cH)<|zE (vW false mL)<|zZ) ?_
   refine kU ?_
   refine jD<|kS (eD (j:=6) (k:=7) (pre:=(bx (jF (kC K.d.v)))) (post:=[(.own 8 86 1 0)]) (es:=List.map jF gl) rfl (by decide) rfl (zL _ _ (fun _=>rfl)) (uJ _ _ rfl) (yS jF gl (fun _=>rfl) rfl)) ?_
   refine kS (wk (l:=[(0,(.ref 0 0)),(1,K.d.c1),(2,K.d.c2),(3,K.d.c3),(8,(.ref 6 0)),(45,(vb false))]) (b:=([(0,some (xP n 1 L false)),(1,some (xY L)),(6,some (bx (jF (kC K.d.v))++[(vl 61 8 jF gl),(.own 8 86 1 0)])),(8,some (bm uL []))]++K.d.X))) ?_
   refine kS (eD (j:=6) (k:=8) (pre:=(bx (jF (kC K.d.v))++[(vl 61 8 jF gl)])) (post:=[]) (es:=List.map uL []) rfl (by decide) rfl (uQ _ _ (fun _=>rfl)) (uJ _ _ rfl) (vQ _ _ (fun _=>rfl) rfl)) ?_
   refine kS (wk (l:=[(0,(.ref 0 0)),(1,K.d.c1),(2,K.d.c2),(3,K.d.c3),(8,(.ref 6 0)),(45,(vb false))]) (b:=([(0,some (xP n 1 L false)),(1,some (xY L)),(6,some (bx (jL (xL.mk (kC K.d.v) gl []))))]++K.d.X))) ?_
   refine kd [] [(0,some [(jP n),(jP 1),(vi (-1)),(.own 10 95 10 (((List.map qJ L)++[(xL.mk (kC K.d.v) gl [])]).length)),(vb false)]),(10,some (yG jL ((List.map qJ L)++[(xL.mk (kC K.d.v) gl [])]))),(1,none)] mo (wM<|wM<|wE oNc<|wE (kY cM)<|wR (uM sh143)<|wR (kK nL)<|wE (cN dR cZ fK)<|wAS (k:=1) 10 jL (List.map qJ L) [(xL.mk (kC K.d.v) gl [])] rfl dR cZ by95<|wE oNc<|wE (kY cM)<|wT (oSx sh143)<|wZ) ?_
   have hJ:List.map qJ (L++[(jk K.d.v (fun i=>(K.d.g i)) n)])=List.map qJ L++[xL.mk (kC K.d.v) gl []]:=by rw[List.map_append,hg,show i=n by omega];rfl
   unfold xP xY
   rw[hJ]
   refine ⟨yO (by kernel_rfl),gN (by kernel_rfl),.inl ⟨_,.nil,?_⟩⟩
   rfl
theorem e_nodeC(n:Nat)(L:List JV)(p:Rat)(hp:QL p 1048576)(zz:R2)(hzz:GL 3 zz)(hn:n≤64)(hL:L.length≤1000):xH Tryz.prog 184 [(.ref 0 0),(.clo 188 [2]),(.clo 189 [3]),(.clo 181 [3])] [(0,some (xP n 1 L false)),(1,some (xY L)),(2,some (bx (kM (kV.mk 0 0 0 (jN p))))),(3,some (bx (jF (kC zz))))] (.d (.tup [])) [(0,some (xP n 10 (L++[(jk (yF p) (fun i=>zz) n)]) false)),(10,some (xY (L++[(jk (yF p) (fun i=>zz) n)])))]:=aS n L (.C p hp zz hzz) hn hL
theorem e_nodeV(n:Nat)(L:List JV)(bv:List R2)(hbx:∀ x∈bv,GL 1048576 x)(a:Nat)(zz:R2)(hzz:GL 3 zz)(hn:n≤64)(hL:L.length≤1000)(ha:a<bv.length)(hbl:bv.length≤1000000):xH Tryz.prog 184 [(.ref 0 0),(.clo 190 [2,3]),(.clo 191 [3,4]),(.clo 181 [4])] [(0,some (xP n 1 L false)),(1,some (xY L)),(2,some (bx (.sl 61 8 (List.map jF (List.map kC bv))))),(3,some (bx (kM (kV.mk 1 ((a:Nat):Int) 0 kZ)))),(4,some (bx (jF (kC zz))))] (.d (.tup [])) [(0,some (xP n 10 (L++[(jk (bv.getD a z2) (fun i=>(if ((i:Nat):Int)=((a:Nat):Int) then gw 1 else zz)) n)]) false)),(10,some (xY (L++[(jk (bv.getD a z2) (fun i=>(if ((i:Nat):Int)=((a:Nat):Int) then gw 1 else zz)) n)])))]:=aS n L (.V bv hbx a zz hzz ha hbl) hn hL
theorem e_nodeA(n:Nat)(L:List JV)(u:JV)(hu:nQ 1048576 n u)(v:JV)(hv:nQ 1048576 n v)(hn:n≤64)(hL:L.length≤1000):xH Tryz.prog 184 [(.ref 0 0),(.clo 185 [2,3,4]),(.clo 186 [2,3,4]),(.clo 187 [2,3,4])] [(0,some (xP n 1 L false)),(1,some (xY L)),(2,some (bx (.val (.func (.func 192) #[] #[])))),(3,some (bx (jL (qJ u)))),(4,some (bx (jL (qJ v))))] (.d (.tup [])) [(0,some (xP n 10 (L++[(jk (xO u.v v.v) (fun i=>(xO (u.g.getD i z2) (v.g.getD i z2))) n)]) false)),(10,some (xY (L++[(jk (xO u.v v.v) (fun i=>(xO (u.g.getD i z2) (v.g.getD i z2))) n)])))]:=aS n L (.A u hu v hv) hn hL
theorem e_nodeS(n:Nat)(L:List JV)(u:JV)(hu:nQ 1048576 n u)(v:JV)(hv:nQ 1048576 n v)(hn:n≤64)(hL:L.length≤1000):xH Tryz.prog 184 [(.ref 0 0),(.clo 185 [2,3,4]),(.clo 186 [2,3,4]),(.clo 187 [2,3,4])] [(0,some (xP n 1 L false)),(1,some (xY L)),(2,some (bx (.val (.func (.func 193) #[] #[])))),(3,some (bx (jL (qJ u)))),(4,some (bx (jL (qJ v))))] (.d (.tup [])) [(0,some (xP n 10 (L++[(jk (uO u.v v.v) (fun i=>(uO (u.g.getD i z2) (v.g.getD i z2))) n)]) false)),(10,some (xY (L++[(jk (uO u.v v.v) (fun i=>(uO (u.g.getD i z2) (v.g.getD i z2))) n)])))]:=aS n L (.S u hu v hv) hn hL
theorem e_nodeN(n:Nat)(L:List JV)(u:JV)(hu:nQ 1048576 n u)(v:JV)(hv:nQ 1048576 n v)(hn:n≤64)(hL:L.length≤1000):xH Tryz.prog 184 [(.ref 0 0),(.clo 185 [2,3,4]),(.clo 186 [2,3,4]),(.clo 187 [2,3,4])] [(0,some (xP n 1 L false)),(1,some (xY L)),(2,some [(.clo 194 [5])]),(3,some (bx (jL (qJ u)))),(4,some (bx (jL (qJ v)))),(5,some (bx (jF (kC (gw 0)))))] (.d (.tup [])) [(0,some (xP n 10 (L++[(jk (uO (gw 0) u.v) (fun i=>(uO (gw 0) (u.g.getD i z2))) n)]) false)),(10,some (xY (L++[(jk (uO (gw 0) u.v) (fun i=>(uO (gw 0) (u.g.getD i z2))) n)])))]:=aS n L (.N u hu v hv) hn hL
theorem e_nodeM(n:Nat)(L:List JV)(u:JV)(hu:nQ 1048576 n u)(v:JV)(hv:nQ 1048576 n v)(hn:n≤64)(hL:L.length≤1000):xH Tryz.prog 184 [(.ref 0 0),(.clo 195 [2,3]),(.clo 197 [2,3]),(.clo 198 [2,3])] [(0,some (xP n 1 L false)),(1,some (xY L)),(2,some (bx (jL (qJ u)))),(3,some (bx (jL (qJ v))))] (.d (.tup [])) [(0,some (xP n 10 (L++[(jk (uF u.v v.v) (fun i=>(xO (uF u.v (v.g.getD i z2)) (uF v.v (u.g.getD i z2)))) n)]) false)),(10,some (xY (L++[(jk (uF u.v v.v) (fun i=>(xO (uF u.v (v.g.getD i z2)) (uF v.v (u.g.getD i z2)))) n)])))]:=aS n L (.M u hu v hv) hn hL
theorem e_nodeQ(n:Nat)(L:List JV)(u:JV)(hu:nQ 1048576 n u)(tt:R2)(htt:GL 3 tt)(hn:n≤64)(hL:L.length≤1000):xH Tryz.prog 184 [(.ref 0 0),(.clo 199 [2]),(.clo 201 [3,2]),(.clo 202 [2,3])] [(0,some (xP n 1 L false)),(1,some (xY L)),(2,some (bx (jL (qJ u)))),(3,some (bx (jF (kC tt))))] (.d (.tup [])) [(0,some (xP n 10 (L++[(jk (gsq u.v) (fun i=>(uF tt (uF u.v (u.g.getD i z2)))) n)]) false)),(10,some (xY (L++[(jk (gsq u.v) (fun i=>(uF tt (uF u.v (u.g.getD i z2)))) n)])))]:=aS n L (.Q u hu tt htt) hn hL
theorem e_nodeD(n:Nat)(L:List JV)(bb:Nat)(u:JV)(hu:nQ 1048576 n u)(v:JV)(hv:nQ 1048576 n v)(hn:n≤64)(hL:L.length≤1000)(hz:yV v.v.1 v.v.2=false):xH Tryz.prog 184 [(.ref 0 0),(.clo 203 [2,3,4]),(.clo 205 [2,3,4]),(.clo 206 [3,4,2])] [(0,some (xP n 1 L false)),(1,some (xY L)),(2,some [(.refx 0 0 bb)]),(3,some (bx (jL (qJ u)))),(4,some (bx (jL (qJ v))))] (.d (.tup [])) [(0,some (xP n 10 (L++[(jk (mY u.v v.v) (fun i=>(mY (uO (u.g.getD i z2) (uF (mY u.v v.v) (v.g.getD i z2))) v.v)) n)]) false)),(10,some (xY (L++[(jk (mY u.v v.v) (fun i=>(mY (uO (u.g.getD i z2) (uF (mY u.v v.v) (v.g.getD i z2))) v.v)) n)])))]:=aS n L (.D bb u hu v hv hz) hn hL
theorem cb183:callB Tryz.prog 183=true:=by kernel_rfl
theorem e_linA(n:Nat)(L:List JV)(bb:Nat)(u:JV)(hu:nQ 1048576 n u)(v:JV)(hv:nQ 1048576 n v)(hn:n≤64)(hL:L.length≤1000):xH Tryz.prog 183 [(.d (.val (.func (.func 192) #[] #[]))),(.ref 2 0),(.ref 3 0),(.ref 4 0)] [(0,some (xP n 1 L false)),(1,some (xY L)),(2,some [(.refx 0 0 bb)]),(3,some (bx (jL (qJ u)))),(4,some (bx (jL (qJ v))))] (.d (.tup [])) [(0,some (xP n 11 (L++[(jk (xO u.v v.v) (fun i=>(xO (u.g.getD i z2) (v.g.getD i z2))) n)]) false)),(11,some (xY (L++[(jk (xO u.v v.v) (fun i=>(xO (u.g.getD i z2) (v.g.getD i z2))) n)]))),(2,some [(.refx 0 0 bb)])]:=by
 refine nN Tryz.func183 rfl cb183 rfl ?_
 show qG _ _ _ _ ⟨[(0,(.d (.val (.func (.func 192) #[] #[])))),(1,(.ref 2 0)),(2,(.ref 3 0)),(3,(.ref 4 0))],[(0,some (xP n 1 L false)),(1,some (xY L)),(2,some [(.refx 0 0 bb)]),(3,some (bx (jL (qJ u)))),(4,some (bx (jL (qJ v))))]⟩
 refine jB<|kx [(4,(.ref 5 0))] [(5,some (bx (.val (.func (.func 192) #[] #[]))))] (zH (vA 5)<|zZ) ?_
 refine kf [] [(0,some (xP n 11 (L++[(jk (xO u.v v.v) (fun i=>(xO (u.g.getD i z2) (v.g.getD i z2))) n)]) false)),(11,some (xY (L++[(jk (xO u.v v.v) (fun i=>(xO (u.g.getD i z2) (v.g.getD i z2))) n)]))),(1,none),(10,none),(3,none),(4,none),(5,none),(6,none),(7,none),(8,none),(9,none)] (zR (oLx eT)<|zE (oMf [5,3,4])<|zE (oMf [5,3,4])<|zE (oMf [5,3,4])<|zSe (B2:=[(0,some (xP n 1 L false)),(1,some (xY L)),(5,some (bx (.val (.func (.func 192) #[] #[])))),(3,some (bx (jL (qJ u)))),(4,some (bx (jL (qJ v))))]) (B2':=[(0,some (xP n 11 (L++[(jk (xO u.v v.v) (fun i=>(xO (u.g.getD i z2) (v.g.getD i z2))) n)]) false)),(11,some (xY (L++[(jk (xO u.v v.v) (fun i=>(xO (u.g.getD i z2) (v.g.getD i z2))) n)])))]) [0,1,5,3,4,6,7,8,9,10,11] [0,5,3,4] (e_nodeA n L u hu v hv hn hL)<|zF) ?_
 refine ⟨yO (by kernel_rfl),gN (by kernel_rfl),.inl ⟨_,.nil,?_⟩⟩
 rfl
theorem e_linS(n:Nat)(L:List JV)(bb:Nat)(u:JV)(hu:nQ 1048576 n u)(v:JV)(hv:nQ 1048576 n v)(hn:n≤64)(hL:L.length≤1000):xH Tryz.prog 183 [(.d (.val (.func (.func 193) #[] #[]))),(.ref 2 0),(.ref 3 0),(.ref 4 0)] [(0,some (xP n 1 L false)),(1,some (xY L)),(2,some [(.refx 0 0 bb)]),(3,some (bx (jL (qJ u)))),(4,some (bx (jL (qJ v))))] (.d (.tup [])) [(0,some (xP n 11 (L++[(jk (uO u.v v.v) (fun i=>(uO (u.g.getD i z2) (v.g.getD i z2))) n)]) false)),(11,some (xY (L++[(jk (uO u.v v.v) (fun i=>(uO (u.g.getD i z2) (v.g.getD i z2))) n)]))),(2,some [(.refx 0 0 bb)])]:=by
 refine nN Tryz.func183 rfl cb183 rfl ?_
 show qG _ _ _ _ ⟨[(0,(.d (.val (.func (.func 193) #[] #[])))),(1,(.ref 2 0)),(2,(.ref 3 0)),(3,(.ref 4 0))],[(0,some (xP n 1 L false)),(1,some (xY L)),(2,some [(.refx 0 0 bb)]),(3,some (bx (jL (qJ u)))),(4,some (bx (jL (qJ v))))]⟩
 refine jB<|kx [(4,(.ref 5 0))] [(5,some (bx (.val (.func (.func 193) #[] #[]))))] (zH (vA 5)<|zZ) ?_
 refine kf [] [(0,some (xP n 11 (L++[(jk (uO u.v v.v) (fun i=>(uO (u.g.getD i z2) (v.g.getD i z2))) n)]) false)),(11,some (xY (L++[(jk (uO u.v v.v) (fun i=>(uO (u.g.getD i z2) (v.g.getD i z2))) n)]))),(1,none),(10,none),(3,none),(4,none),(5,none),(6,none),(7,none),(8,none),(9,none)] (zR (oLx eT)<|zE (oMf [5,3,4])<|zE (oMf [5,3,4])<|zE (oMf [5,3,4])<|zSe (B2:=[(0,some (xP n 1 L false)),(1,some (xY L)),(5,some (bx (.val (.func (.func 193) #[] #[])))),(3,some (bx (jL (qJ u)))),(4,some (bx (jL (qJ v))))]) (B2':=[(0,some (xP n 11 (L++[(jk (uO u.v v.v) (fun i=>(uO (u.g.getD i z2) (v.g.getD i z2))) n)]) false)),(11,some (xY (L++[(jk (uO u.v v.v) (fun i=>(uO (u.g.getD i z2) (v.g.getD i z2))) n)])))]) [0,1,5,3,4,6,7,8,9,10,11] [0,5,3,4] (e_nodeS n L u hu v hv hn hL)<|zF) ?_
 refine ⟨yO (by kernel_rfl),gN (by kernel_rfl),.inl ⟨_,.nil,?_⟩⟩
 rfl
theorem e_linN(n:Nat)(L:List JV)(bb:Nat)(u:JV)(hu:nQ 1048576 n u)(v:JV)(hv:nQ 1048576 n v)(hn:n≤64)(hL:L.length≤1000):xH Tryz.prog 183 [(.clo 194 [9]),(.ref 2 0),(.ref 3 0),(.ref 4 0)] [(0,some (xP n 1 L false)),(1,some (xY L)),(2,some [(.refx 0 0 bb)]),(3,some (bx (jL (qJ u)))),(4,some (bx (jL (qJ v)))),(9,some (bx (jF (kC (gw 0)))))] (.d (.tup [])) [(0,some (xP n 15 (L++[(jk (uO (gw 0) u.v) (fun i=>(uO (gw 0) (u.g.getD i z2))) n)]) false)),(15,some (xY (L++[(jk (uO (gw 0) u.v) (fun i=>(uO (gw 0) (u.g.getD i z2))) n)]))),(2,some [(.refx 0 0 bb)])]:=by
 refine nN Tryz.func183 rfl cb183 rfl ?_
 show qG _ _ _ _ ⟨[(0,(.clo 194 [9])),(1,(.ref 2 0)),(2,(.ref 3 0)),(3,(.ref 4 0))],[(0,some (xP n 1 L false)),(1,some (xY L)),(2,some [(.refx 0 0 bb)]),(3,some (bx (jL (qJ u)))),(4,some (bx (jL (qJ v)))),(9,some (bx (jF (kC (gw 0)))))]⟩
 refine jB<|kx [(4,(.ref 10 0))] [(10,some [(.clo 194 [9])])] (zH (oBy 10)<|zZ) ?_
 refine kf [(0,.junk)] [(0,some (xP n 15 (L++[(jk (uO (gw 0) u.v) (fun i=>(uO (gw 0) (u.g.getD i z2))) n)]) false)),(15,some (xY (L++[(jk (uO (gw 0) u.v) (fun i=>(uO (gw 0) (u.g.getD i z2))) n)]))),(1,none),(10,none),(11,none),(12,none),(13,none),(14,none),(3,none),(4,none),(9,none)] (zR (oLx eT)<|zE (oMf [10,3,4])<|zE (oMf [10,3,4])<|zE (oMf [10,3,4])<|zSe (B2:=[(0,some (xP n 1 L false)),(1,some (xY L)),(10,some [(.clo 194 [9])]),(3,some (bx (jL (qJ u)))),(4,some (bx (jL (qJ v)))),(9,some (bx (jF (kC (gw 0)))))]) (B2':=[(0,some (xP n 15 (L++[(jk (uO (gw 0) u.v) (fun i=>(uO (gw 0) (u.g.getD i z2))) n)]) false)),(15,some (xY (L++[(jk (uO (gw 0) u.v) (fun i=>(uO (gw 0) (u.g.getD i z2))) n)])))]) [0,1,10,3,4,9,11,12,13,14,15] [0,10,3,4] (e_nodeN n L u hu v hv hn hL)<|zF) ?_
 refine ⟨yO (by kernel_rfl),gN (by kernel_rfl),.inl ⟨_,.nil,?_⟩⟩
 rfl
theorem cb126:callB Tryz.prog 126=true:=by kernel_rfl
theorem yW:zG Tryz.prog 83 0=some 0:=by kernel_rfl
theorem mK:zG Tryz.prog 83 2=some 2:=by kernel_rfl
theorem fC:qW Tryz.prog 81=some (false,1):=by kernel_rfl
set_option maxHeartbeats 4000000 in
theorem e_stepN0(x0:kV)(bv:List R2)(hbx:∀ x∈bv,GL 1048576 x)(L:List JV)(hn:bv.length≤64)(hL:L.length≤1000)(hLk:∀ y∈L,nQ 1048576 bv.length y)(hx:fG bv.length L x0):let x:=x0;xH Tryz.prog 126 [(.ref 0 0),(.d (kM x)),(vl 61 8 jF (List.map kC bv))] [(0,some (xP bv.length 1 (L) false)),(1,some (xY (L)))] (.d (.tup [])) [(0,some (xP bv.length 18 (L++[nJ bv L x]) false)),(18,some (xY (L++[nJ bv L x])))]:=by
 rcases hx with @⟨p,hp⟩ | @⟨a,ha⟩ | @⟨a,b,ha,hb⟩ | @⟨a,b,ha,hb⟩ | @⟨a,b,ha,hb⟩ | @⟨a,b,ha,hb,hz⟩ | @⟨a,ha⟩ | @⟨a,ha⟩
 all_goals
  intro x
  refine nN Tryz.func126 rfl cb126 rfl ?_
  show qG _ _ _ _ ⟨[(0,(.ref 0 0)),(1,(.d (kM x))),(2,(vl 61 8 jF (List.map kC bv)))],[(0,some (xP bv.length 1 L false)),(1,some (xY L))]⟩
  refine jB<|kx [(3,(.ref 2 0)),(4,(.ref 3 0)),(5,(.ref 4 0))] [(2,some [(.ref 0 0)]),(3,some (bx (kM x))),(4,some (bx (.sl 61 8 (List.map jF (List.map kC bv)))))] (zH (oBy 2)<|zH (vA 3)<|zH (vA 4)<|zZ) ?_
  refine jB<|pwp_fix 2 (k:=0) (o:=0) (h:=fun b0=>?_)
  refine kS (wk (l:=[(0,(.ref 0 0)),(3,(.ref 2 0)),(4,(.ref 3 0)),(5,(.ref 4 0))]) (b:=[(0,some (xP bv.length 1 L false)),(1,some (xY L)),(2,some [(.refx 0 0 b0)]),(3,some (bx (kM x))),(4,some (bx (.sl 61 8 (List.map jF (List.map kC bv)))))])) ?_
  refine kx [(6,(.ref 5 0))] [(5,some (bx (jF (kC (gw 0)))))] (zE (jY (j_whole ((0:Nat):Int) (by omega) (by omega)))<|zH (qV 5 qO qS)<|zT (qA jW)<|zZ) ?_
  refine jB<|kx [(7,(.clo 181 [5]))] [] (zE (oMf [5])<|zM<|zZ) ?_
  refine jB<|kx [(8,(.ref 6 0)),(9,(.ref 7 0))] [(6,some (bx (jL (xL.mk (jV.mk kZ kZ) [] [])))),(7,some (bx (jL (xL.mk (jV.mk kZ kZ) [] []))))] (zH (qV 6 cZ fK)<|zH (qV 7 cZ fK)<|zZ) ?_
  refine jB<|kx [(10,(vi (xM x.op)))] [] (zE (kY yW)<|zR (uM fC)<|zE (jY (j_kids x.op))<|zM<|zZ) ?_
  refine jB<|jB ?_
  first
   |(refine kx [(19,(vb true))] [] (zM<|zE (vW true mL (e:=rfl))<|zZ) ?_;refine uY ?_;refine kd [] [(6,some (bx (jL (qJ (L.getD a jz)))))] mo (wR (oLx eT)<|wE oNc<|wE (kY cM)<|wR (uM sh143)<|wE (kY gK)<|wR (uM cH)<|wE (oXO dR a (hj:=by first | omega | rfl | (simp only[List.length_map];omega) | (dsimp only;omega)) (h1:=by first | omega | rfl | (simp only[List.length_map];omega) | (dsimp only;omega)))<|wR (oQr (jL ((List.map qJ L).getD a (xL.mk (jV.mk kZ kZ) [] []))) (jL (qJ (L.getD a jz))) (oLA nL a (xL.mk (jV.mk kZ kZ) [] []) (h1:=by first | omega | rfl | (simp only[List.length_map];omega) | (dsimp only;omega))) (by exact (congrArg jL (bR qJ L jz _ (by omega)))))<|wT (qA nL)<|wZ) ?_)
   |(refine kx [(19,(vb false))] [] (zM<|zE (vW false mL (e:=rfl))<|zZ) ?_;refine kU ?_;refine jD ?_)
  refine jB<|jB ?_
  first
   |(refine kx [(29,(vb true))] [] (zM<|zE (vW true mL (e:=rfl))<|zZ) ?_;refine uY ?_;refine kd [] [(7,some (bx (jL (qJ (L.getD b jz)))))] mo (wR (oLx eT)<|wE oNc<|wE (kY cM)<|wR (uM sh143)<|wE (kY mK)<|wR (uM cH)<|wE (oXO dR b (hj:=by first | omega | rfl | (simp only[List.length_map];omega) | (dsimp only;omega)) (h1:=by first | omega | rfl | (simp only[List.length_map];omega) | (dsimp only;omega)))<|wR (oQr (jL ((List.map qJ L).getD b (xL.mk (jV.mk kZ kZ) [] []))) (jL (qJ (L.getD b jz))) (oLA nL b (xL.mk (jV.mk kZ kZ) [] []) (h1:=by first | omega | rfl | (simp only[List.length_map];omega) | (dsimp only;omega))) (by exact (congrArg jL (bR qJ L jz _ (by omega)))))<|wT (qA nL)<|wZ) ?_)
   |(refine kx [(29,(vb false))] [] (zM<|zE (vW false mL (e:=rfl))<|zZ) ?_;refine kU ?_;refine jD ?_)
  refine jB<|kx [(11,(.clo 183 [2,6,7]))] [] (zE (oMf [2,6,7])<|zM<|zZ) ?_
  refine jB<|kx [(40,(vi x.op))] [] (zE (kY yW)<|zR (uM fC)<|zZ) ?_
  refine jH ?_
 all_goals refine jB ?_
 ·rw[show nJ bv L x=(jk (yF p) (fun i=>(gw 0)) bv.length) from by show nJ bv L (kV.mk 0 0 0 (jN p))=_;unfold nJ nV nG;rw[gP];rfl]
  refine kx [(46,(vb true))] [] (zE (vW true xR (e:=rfl))<|zM<|zZ) ?_
  refine uY ?_
  refine kf [] [(0,some (xP bv.length 18 (L++[(jk (yF p) (fun i=>(gw 0)) bv.length)]) false)),(18,some (xY (L++[(jk (yF p) (fun i=>(gw 0)) bv.length)]))),(1,none),(10,none),(11,none),(12,none),(13,none),(3,none),(5,none),(8,none),(9,none)] (zR (oLx eT)<|zE (oMf [3])<|zE (oMf [5])<|zM<|zSe (B2:=[(0,some (xP bv.length 1 L false)),(1,some (xY L)),(3,some (bx (kM x))),(5,some (bx (jF (kC (gw 0)))))]) (B2':=[(0,some (xP bv.length 18 (L++[(jk (yF p) (fun i=>(gw 0)) bv.length)]) false)),(18,some (xY (L++[(jk (yF p) (fun i=>(gw 0)) bv.length)])))]) [0,1,3,5,8,9,10,11,12,13,18] [0,3,5] (e_nodeC bv.length L p hp (gw 0) (gl_w (z:=0) (by omega) (by omega)) hn hL)<|zF) ?_
  refine ⟨yO (by kernel_rfl),gN (by kernel_rfl),.inl ⟨_,.nil,?_⟩⟩
  rfl
 all_goals
  refine kx [(46,(vb false))] [] (zE (vW false xR (e:=rfl))<|zM<|zZ) ?_
  refine kU ?_
 all_goals refine jB ?_
 ·refine kx [(53,(vb true))] [] (zE (vW true xR (e:=rfl))<|zM<|zZ) ?_
  refine uY ?_
  refine kf [] [(0,some (xP bv.length 18 (L++[(nJ bv L x)]) false)),(18,some (xY (L++[(nJ bv L x)]))),(1,none),(10,none),(11,none),(12,none),(3,none),(4,none),(5,none),(8,none),(9,none)] (zR (oLx eT)<|zE (oMf [4,3])<|zE (oMf [3,5])<|zM<|zSe (B2:=[(0,some (xP bv.length 1 L false)),(1,some (xY L)),(4,some (bx (.sl 61 8 (List.map jF (List.map kC bv))))),(3,some (bx (kM x))),(5,some (bx (jF (kC (gw 0)))))]) (B2':=[(0,some (xP bv.length 18 (L++[(nJ bv L x)]) false)),(18,some (xY (L++[(nJ bv L x)])))]) [0,1,4,3,5,8,9,10,11,12,18] [0,4,3,5] (e_nodeV bv.length L bv hbx a (gw 0) (gl_w (z:=0) (by omega) (by omega)) hn hL ha (by omega))<|zF) ?_
  refine ⟨yO (by kernel_rfl),gN (by kernel_rfl),.inl ⟨_,.nil,?_⟩⟩
  rfl
 all_goals
  refine kx [(53,(vb false))] [] (zE (vW false xR (e:=rfl))<|zM<|zZ) ?_
  refine kU ?_
 all_goals refine jB ?_
 ·refine kx [(60,(vb true))] [] (zE (vW true xR (e:=rfl))<|zM<|zZ) ?_
  refine uY ?_
  refine kf [] [(0,some (xP bv.length 18 (L++[(nJ bv L x)]) false)),(18,some (xY (L++[(nJ bv L x)]))),(1,none),(10,none),(11,none),(12,none),(13,none),(2,none),(6,none),(7,none),(8,none),(9,none)] (zM<|zSe (B2:=[(0,some (xP bv.length 1 L false)),(1,some (xY L)),(2,some [(.refx 0 0 b0)]),(6,some (bx (jL (qJ (L.getD a jz))))),(7,some (bx (jL (qJ (L.getD b jz)))))]) (B2':=[(0,some (xP bv.length 18 (L++[(nJ bv L x)]) false)),(18,some (xY (L++[(nJ bv L x)]))),(2,some [(.refx 0 0 b0)])]) [0,1,2,6,7,8,9,10,11,12,13,18] [2,6,7,0] (e_linA bv.length L b0 (L.getD a jz) (cT hLk ha) (L.getD b jz) (cT hLk hb) hn hL) (G:=[0]) (hG:=by exact (.cons (k:=0) (q:=2) (o:=0) (b:=b0) (j:=0) (by kernel_rfl) (by kernel_rfl) (by kernel_rfl) .nil)) (ex:=[.ref 2 0,.ref 6 0,.ref 7 0]) (hy:=.clo (kk:=[2,6,7]) (by kernel_rfl) (by kernel_rfl))<|zF) ?_
  refine ⟨yO (by kernel_rfl),gN (by kernel_rfl),.inl ⟨_,.nil,?_⟩⟩
  rfl
 all_goals
  refine kx [(60,(vb false))] [] (zE (vW false xR (e:=rfl))<|zM<|zZ) ?_
  refine kU ?_
 all_goals refine jB ?_
 ·refine kx [(64,(vb true))] [] (zE (vW true xR (e:=rfl))<|zM<|zZ) ?_
  refine uY ?_
  refine kf [] [(0,some (xP bv.length 18 (L++[(nJ bv L x)]) false)),(18,some (xY (L++[(nJ bv L x)]))),(1,none),(10,none),(11,none),(12,none),(13,none),(2,none),(6,none),(7,none),(8,none),(9,none)] (zM<|zSe (B2:=[(0,some (xP bv.length 1 L false)),(1,some (xY L)),(2,some [(.refx 0 0 b0)]),(6,some (bx (jL (qJ (L.getD a jz))))),(7,some (bx (jL (qJ (L.getD b jz)))))]) (B2':=[(0,some (xP bv.length 18 (L++[(nJ bv L x)]) false)),(18,some (xY (L++[(nJ bv L x)]))),(2,some [(.refx 0 0 b0)])]) [0,1,2,6,7,8,9,10,11,12,13,18] [2,6,7,0] (e_linS bv.length L b0 (L.getD a jz) (cT hLk ha) (L.getD b jz) (cT hLk hb) hn hL) (G:=[0]) (hG:=by exact (.cons (k:=0) (q:=2) (o:=0) (b:=b0) (j:=0) (by kernel_rfl) (by kernel_rfl) (by kernel_rfl) .nil)) (ex:=[.ref 2 0,.ref 6 0,.ref 7 0]) (hy:=.clo (kk:=[2,6,7]) (by kernel_rfl) (by kernel_rfl))<|zF) ?_
  refine ⟨yO (by kernel_rfl),gN (by kernel_rfl),.inl ⟨_,.nil,?_⟩⟩
  rfl
 all_goals
  refine kx [(64,(vb false))] [] (zE (vW false xR (e:=rfl))<|zM<|zZ) ?_
  refine kU ?_
 rotate_left 2
 all_goals refine jB ?_
 ·refine kx [(68,(vb true))] [] (zE (vW true xR (e:=rfl))<|zM<|zZ) ?_
  refine uY ?_
  refine jB<|kx [] [(7,some (bx (jL (qJ (L.getD a jz)))))] (zR (oQr (jL (qJ (L.getD a jz))) (jL (qJ (L.getD a jz))) (kK nL) (by exact rfl))<|zT (qA nL)<|zZ) ?_
  refine kf [(6,.junk),(7,.junk)] [(0,some (xP bv.length 18 (L++[(nJ bv L x)]) false)),(18,some (xY (L++[(nJ bv L x)]))),(1,none),(10,none),(11,none),(12,none),(13,none),(14,none),(15,none),(16,none),(2,none),(5,none),(6,none),(7,none),(8,none),(9,none)] (zM<|zE (oMf [5])<|zSe (B2:=[(0,some (xP bv.length 1 L false)),(1,some (xY L)),(2,some [(.refx 0 0 b0)]),(6,some (bx (jL (qJ (L.getD a jz))))),(7,some (bx (jL (qJ (L.getD a jz))))),(5,some (bx (jF (kC (gw 0)))))]) (B2':=[(0,some (xP bv.length 18 (L++[(nJ bv L x)]) false)),(18,some (xY (L++[(nJ bv L x)]))),(2,some [(.refx 0 0 b0)])]) [0,1,2,6,7,8,9,10,11,5,12,13,14,15,16,18] [2,6,7,0] (e_linN bv.length L b0 (L.getD a jz) (cT hLk ha) (L.getD a jz) (cT hLk ha) hn hL) (G:=[0]) (hG:=by exact (.cons (k:=0) (q:=2) (o:=0) (b:=b0) (j:=0) (by kernel_rfl) (by kernel_rfl) (by kernel_rfl) .nil)) (ex:=[.ref 2 0,.ref 6 0,.ref 7 0]) (hy:=.clo (kk:=[2,6,7]) (by kernel_rfl) (by kernel_rfl))<|zF) ?_
  refine ⟨yO (by kernel_rfl),gN (by kernel_rfl),.inl ⟨_,.nil,?_⟩⟩
  rfl
 all_goals
  refine kx [(68,(vb false))] [] (zE (vW false xR (e:=rfl))<|zM<|zZ) ?_
  refine kU ?_
 rotate_left 1
 all_goals refine jB ?_
 ·refine kx [(74,(vb true))] [] (zE (vW true xR (e:=rfl))<|zM<|zZ) ?_
  refine uY ?_
  refine kf [] [(0,some (xP bv.length 18 (L++[(nJ bv L x)]) false)),(18,some (xY (L++[(nJ bv L x)]))),(1,none),(10,none),(11,none),(12,none),(13,none),(6,none),(7,none),(8,none),(9,none)] (zR (oLx eT)<|zE (oMf [6,7])<|zE (oMf [6,7])<|zE (oMf [6,7])<|zSe (B2:=[(0,some (xP bv.length 1 L false)),(1,some (xY L)),(6,some (bx (jL (qJ (L.getD a jz))))),(7,some (bx (jL (qJ (L.getD b jz)))))]) (B2':=[(0,some (xP bv.length 18 (L++[(nJ bv L x)]) false)),(18,some (xY (L++[(nJ bv L x)])))]) [0,1,6,7,8,9,10,11,12,13,18] [0,6,7] (e_nodeM bv.length L (L.getD a jz) (cT hLk ha) (L.getD b jz) (cT hLk hb) hn hL)<|zF) ?_
  refine ⟨yO (by kernel_rfl),gN (by kernel_rfl),.inl ⟨_,.nil,?_⟩⟩
  rfl
 all_goals
  refine kx [(74,(vb false))] [] (zE (vW false xR (e:=rfl))<|zM<|zZ) ?_
  refine kU ?_
 rotate_left 1
 all_goals refine jB ?_
 ·refine kx [(81,(vb true))] [] (zE (vW true xR (e:=rfl))<|zM<|zZ) ?_
  refine uY ?_
  refine jB<|kx [(12,(.ref 8 0))] [(8,some (bx (jF (kC (gw 2)))))] (zE (jY (j_whole ((2:Nat):Int) (by omega) (by omega)))<|zH (qV 8 qO qS)<|zT (qA jW)<|zZ) ?_
  refine kf [] [(0,some (xP bv.length 18 (L++[(nJ bv L x)]) false)),(18,some (xY (L++[(nJ bv L x)]))),(1,none),(10,none),(11,none),(12,none),(13,none),(14,none),(6,none),(8,none),(9,none)] (zR (oLx eT)<|zE (oMf [6])<|zE (oMf [8,6])<|zE (oMf [6,8])<|zSe (B2:=[(0,some (xP bv.length 1 L false)),(1,some (xY L)),(6,some (bx (jL (qJ (L.getD a jz))))),(8,some (bx (jF (kC (gw 2)))))]) (B2':=[(0,some (xP bv.length 18 (L++[(nJ bv L x)]) false)),(18,some (xY (L++[(nJ bv L x)])))]) [0,1,6,8,9,10,11,12,13,14,18] [0,6,8] (e_nodeQ bv.length L (L.getD a jz) (cT hLk ha) (gw 2) (gl_w (z:=2) (by omega) (by omega)) hn hL)<|zF) ?_
  refine ⟨yO (by kernel_rfl),gN (by kernel_rfl),.inl ⟨_,.nil,?_⟩⟩
  rfl
 all_goals
  refine kx [(81,(vb false))] [] (zE (vW false xR (e:=rfl))<|zM<|zZ) ?_
  refine kU ?_
 ·refine kf [] [(0,some (xP bv.length 18 (L++[(nJ bv L x)]) false)),(18,some (xY (L++[(nJ bv L x)]))),(1,none),(10,none),(11,none),(12,none),(2,none),(6,none),(7,none),(8,none),(9,none)] (zR (oLx eT)<|zE (oMf [2,6,7])<|zE (oMf [2,6,7])<|zE (oMf [6,7,2])<|zSe (B2:=[(0,some (xP bv.length 1 L false)),(1,some (xY L)),(2,some [(.refx 0 0 b0)]),(6,some (bx (jL (qJ (L.getD a jz))))),(7,some (bx (jL (qJ (L.getD b jz)))))]) (B2':=[(0,some (xP bv.length 18 (L++[(nJ bv L x)]) false)),(18,some (xY (L++[(nJ bv L x)])))]) [0,1,2,6,7,8,9,10,11,12,18] [0,2,6,7] (e_nodeD bv.length L b0 (L.getD a jz) (cT hLk ha) (L.getD b jz) (cT hLk hb) hn hL hz)<|zF) ?_
  refine ⟨yO (by kernel_rfl),gN (by kernel_rfl),.inl ⟨_,.nil,?_⟩⟩
  rfl
end Go.Proofs.YtnajallgoaiahaaGreatDoor
