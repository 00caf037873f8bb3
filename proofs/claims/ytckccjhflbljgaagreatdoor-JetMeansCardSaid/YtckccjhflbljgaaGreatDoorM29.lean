/- Part 29 of a proof: rules, plain facts, and functions walked. -/
import Derived.Test.YtckccjhflbljgaaGreatDoorM28
set_option linter.all false
set_option maxRecDepth 4000
namespace Go.Proofs.YtckccjhflbljgaaGreatDoor
open Go.Fid
theorem by42:zD Tryz.prog 42=some 128:=by kernel_rfl
theorem by46:zD Tryz.prog 46=some 176:=by kernel_rfl
theorem cb123:callB Tryz.prog 123=true:=by kernel_rfl
theorem el88:uS Tryz.prog 88=some (46,10):=by kernel_rfl
theorem fo113_0:uY Tryz.prog 113 0=some 0:=by kernel_rfl
theorem fo113_1:uY Tryz.prog 113 1=some 1:=by kernel_rfl
theorem mX:uY Tryz.prog 113 3=some 3:=by kernel_rfl
theorem pl46:dX Tryz.prog 46=some [(0,8),(8,1),(9,1)]:=by kernel_rfl
theorem dP:kZ Tryz.prog 46=some (true,10):=by kernel_rfl
theorem sh88:kZ Tryz.prog 88=some (false,1):=by kernel_rfl
theorem iB:xB Tryz.prog 46=some [.bool false,.slice none 0 0,.bool false,.slice none 0 0,.bool false,.slice none 0 0,.bool false,.slice none 0 0,.slice none 0 0,.slice none 0 0]:=by kernel_rfl
theorem zn46:dR [.bool false,.slice none 0 0,.bool false,.slice none 0 0,.bool false,.slice none 0 0,.bool false,.slice none 0 0,.slice none 0 0,.slice none 0 0] [.val (.bool false),.val (.slice none 0 0),.val (.bool false),.val (.slice none 0 0),.val (.bool false),.val (.slice none 0 0),.val (.bool false),.val (.slice none 0 0),.val (.slice none 0 0),.val (.slice none 0 0)]:=by simp [dR,Value.oneCell']
theorem zo46:dR [.bool false,.slice none 0 0,.bool false,.slice none 0 0,.bool false,.slice none 0 0,.bool false,.slice none 0 0,.slice none 0 0,.slice none 0 0] [.val (.bool false),.sl 107 1 [],.val (.bool false),.sl 107 1 [],.val (.bool false),.sl 107 1 [],.val (.bool false),.sl 107 1 [],.sl 42 8 [],.sl 43 1 []]:=by simp [dR,Value.oneCell']
structure NKD where
 c1:SV
 c2:SV
 c3:SV
 X:BS
 v:R2
 g:Nat->R2
 k:List Nat
 b:List bN
inductive NK (n:Nat) (L:List JV):Type
 |C (p:Rat) (hp:QL p 1048576) (zz:R2) (hzz:GL 3 zz):NK n L
 |V (bv:List R2) (hbx:∀ x∈bv,GL 1048576 x) (a:Nat) (zz:R2) (hzz:GL 3 zz) (ha:a<bv.length) (hbl:bv.length<=1000000):NK n L
 |A (u:JV) (hu:nS 1048576 n u) (v:JV) (hv:nS 1048576 n v):NK n L
 |S (u:JV) (hu:nS 1048576 n u) (v:JV) (hv:nS 1048576 n v):NK n L
 |N (u:JV) (hu:nS 1048576 n u) (v:JV) (hv:nS 1048576 n v):NK n L
 |M (u:JV) (hu:nS 1048576 n u) (v:JV) (hv:nS 1048576 n v):NK n L
 |Q (u:JV) (hu:nS 1048576 n u) (tt:R2) (htt:GL 3 tt):NK n L
 |D (bb:Nat) (u:JV) (hu:nS 1048576 n u) (v:JV) (hv:nS 1048576 n v) (hz:xI v.v.1 v.v.2=false):NK n L
def NK.d{n:Nat}{L:List JV}:NK n L->NKD
 |.C p hp zz hzz=>⟨(.clo 127 [2]),(.clo 128 [3]),(.clo 121 [3]),[(2,some (bx (jO (kC.mk 0 0 0 (jN p))))),(3,some (bx (jG (kK zz))))],(gpt p),(fun i=>zz),[2],[(3,(bx (jG (kK zz))),(jQ.cells (jG (kK zz))))]⟩
 |.V bv hbx a zz hzz ha hbl=>⟨(.clo 129 [2,3]),(.clo 130 [3,4]),(.clo 121 [4]),[(2,some (bx (.sl 42 8 (List.map jG (List.map kK bv))))),(3,some (bx (jO (kC.mk 1 ((a:Nat):Int) 0 kO)))),(4,some (bx (jG (kK zz))))],(bv.getD a z2),(fun i=>(if ((i:Nat):Int)=((a:Nat):Int) then gw 1 else zz)),[2,3],[(4,(bx (jG (kK zz))),(jQ.cells (jG (kK zz)))),(3,(bx (jO (kC.mk 1 ((a:Nat):Int) 0 kO))),(jQ.cells (jO (kC.mk 1 ((a:Nat):Int) 0 kO))))]⟩
 |.A u hu v hv=>⟨(.clo 124 [2,3,4]),(.clo 125 [2,3,4]),(.clo 126 [2,3,4]),[(2,some (bx (.val (.func (.func 131) #[] #[])))),(3,some (bx (jI (qK u)))),(4,some (bx (jI (qK v))))],(yI u.v v.v),(fun i=>(yI (u.g.getD i z2) (v.g.getD i z2))),[2,3,4],[(4,(bx (jI (qK v))),(jQ.cells (jI (qK v)))),(3,(bx (jI (qK u))),(jQ.cells (jI (qK u)))),(2,(bx (.val (.func (.func 131) #[] #[]))),(jQ.cells (.val (.func (.func 131) #[] #[]))))]⟩
 |.S u hu v hv=>⟨(.clo 124 [2,3,4]),(.clo 125 [2,3,4]),(.clo 126 [2,3,4]),[(2,some (bx (.val (.func (.func 132) #[] #[])))),(3,some (bx (jI (qK u)))),(4,some (bx (jI (qK v))))],(qZ u.v v.v),(fun i=>(qZ (u.g.getD i z2) (v.g.getD i z2))),[2,3,4],[(4,(bx (jI (qK v))),(jQ.cells (jI (qK v)))),(3,(bx (jI (qK u))),(jQ.cells (jI (qK u)))),(2,(bx (.val (.func (.func 132) #[] #[]))),(jQ.cells (.val (.func (.func 132) #[] #[]))))]⟩
 |.N u hu v hv=>⟨(.clo 124 [2,3,4]),(.clo 125 [2,3,4]),(.clo 126 [2,3,4]),[(2,some [(.clo 133 [5])]),(3,some (bx (jI (qK u)))),(4,some (bx (jI (qK v)))),(5,some (bx (jG (kK (gw 0)))))],(qZ (gw 0) u.v),(fun i=>(qZ (gw 0) (u.g.getD i z2))),[4,3,2,5],[(4,(bx (jI (qK v))),(jQ.cells (jI (qK v)))),(3,(bx (jI (qK u))),(jQ.cells (jI (qK u)))),(2,[(.clo 133 [5])],[(.clo 133 [(.cptr 1000000 (jQ.cells (jG (kK (gw 0)))) 0)])]),(5,(bx (jG (kK (gw 0)))),(jQ.cells (jG (kK (gw 0)))))]⟩
 |.M u hu v hv=>⟨(.clo 134 [2,3]),(.clo 136 [2,3]),(.clo 137 [2,3]),[(2,some (bx (jI (qK u)))),(3,some (bx (jI (qK v))))],(uR u.v v.v),(fun i=>(yI (uR u.v (v.g.getD i z2)) (uR v.v (u.g.getD i z2)))),[2,3],[(3,(bx (jI (qK v))),(jQ.cells (jI (qK v)))),(2,(bx (jI (qK u))),(jQ.cells (jI (qK u))))]⟩
 |.Q u hu tt htt=>⟨(.clo 138 [2]),(.clo 140 [3,2]),(.clo 141 [2,3]),[(2,some (bx (jI (qK u)))),(3,some (bx (jG (kK tt))))],(gsq u.v),(fun i=>(uR tt (uR u.v (u.g.getD i z2)))),[2],[(2,(bx (jI (qK u))),(jQ.cells (jI (qK u)))),(3,(bx (jG (kK tt))),(jQ.cells (jG (kK tt))))]⟩
 |.D bb u hu v hv hz=>⟨(.clo 142 [2,3,4]),(.clo 144 [2,3,4]),(.clo 145 [3,4,2]),[(2,some [(.refx 0 0 bb)]),(3,some (bx (jI (qK u)))),(4,some (bx (jI (qK v))))],(mK u.v v.v),(fun i=>(mK (qZ (u.g.getD i z2) (uR (mK u.v v.v) (v.g.getD i z2))) v.v)),[4,3,2,0,1],[(4,(bx (jI (qK v))),(jQ.cells (jI (qK v)))),(3,(bx (jI (qK u))),(jQ.cells (jI (qK u)))),(2,[(.refx 0 0 bb)],[(.cptr 1000000 (jQ.cells (mcA n (.sl 1000000 10 (List.map jI (List.map qK L))) false)) 0)]),(0,(xL n 1 L false),(jQ.cells (mcA n (.sl 1000000 10 (List.map jI (List.map qK L))) false))),(1,(xT L),(qD (List.map jI (List.map qK L))))]⟩
theorem NK.hv{n:Nat}{L:List JV}(K:NK n L):GL 67108864 K.d.v:=match K with
 |.C p hp zz hzz=>(qQ (gl_pt hp))
 |.V bv hbx a zz hzz ha hbl=>(qQ (qC hbx (by decide) a))
 |.A u hu v hv=>(qQ (gl_add (k:=2097153) hu.1 hv.1))
 |.S u hu v hv=>(qQ (aX (k:=2097153) hu.1 hv.1))
 |.N u hu v hv=>(qQ (aX (k:=1048580) (gl_w (z:=0) (by omega) (by omega)) hu.1))
 |.M u hu v hv=>(qQ (gX (k:=2097152) hu.1 hv.1))
 |.Q u hu tt htt=>(qQ (gl_sq (k:=2097152) hu.1 (by decide)))
 |.D bb u hu v hv hz=>(qQ (gl_div (k:=2097152) hu.1 hv.1))
theorem NK.hg{n:Nat}{L:List JV}(K:NK n L)(i:Nat)(hi:i<n):GL 67108864 (K.d.g i):=match K with
 |.C p hp zz hzz=>(qQ hzz)
 |.V bv hbx a zz hzz ha hbl=>(qQ (gl_ite (gl_w (z:=1) (by omega) (by omega)) hzz))
 |.A u hu v hv=>(qQ (gl_add (k:=2097153) (qC hu.2.1 (by decide) i) (qC hv.2.1 (by decide) i)))
 |.S u hu v hv=>(qQ (aX (k:=2097153) (qC hu.2.1 (by decide) i) (qC hv.2.1 (by decide) i)))
 |.N u hu v hv=>(qQ (aX (k:=1048580) (gl_w (z:=0) (by omega) (by omega)) (qC hu.2.1 (by decide) i)))
 |.M u hu v hv=>(qQ (gl_add (k:=4194305) (gX (k:=2097152) hu.1 (qC hv.2.1 (by decide) i)) (gX (k:=2097152) hv.1 (qC hu.2.1 (by decide) i))))
 |.Q u hu tt htt=>(qQ (gX (k:=2097155) htt (gX (k:=2097152) hu.1 (qC hu.2.1 (by decide) i))))
 |.D bb u hu v hv hz=>(qQ (gl_div (k:=5242881) (aX (k:=4194305) (qC hu.2.1 (by decide) i) (gX (k:=3145728) (gl_div (k:=2097152) hu.1 hv.1) (qC hv.2.1 (by decide) i))) hv.1))
theorem nk_v{n:Nat}{L:List JV}(K:NK n L){o:Oper}{S:SL}{B:BS}{y:Operand}{ats:Array TypeId}(ho:o.op=.call { callee:=.value y,args:=#[],argTypes:=ats })(hy:ev (kA S) y=K.d.c1)(hb:K.d.k.map (fun k=>jZ B k)=K.d.k.map (fun k=>jZ ([(0,some (xL n 1 L false)),(1,some (xT L))]++K.d.X) k)):RKs Tryz.prog o S B K.d.k (.d (jG (kK K.d.v))):=match K with
 |.C p hp zz hzz=>oCc (ds:=[]) [2] [(jQ.cells (jO (kC.mk 0 0 0 (jN p))))] (j_vC p hp) (xK (by decide) _) (ho:=ho) (hy:=hy) (hx:=rfl) (qO:=rfl) (hb:=hb)
 |.V bv hbx a zz hzz ha hbl=>oCc (ds:=[]) [2,3] [(jQ.cells (.sl 42 8 (List.map jG (List.map kK bv)))),(jQ.cells (jO (kC.mk 1 ((a:Nat):Int) 0 kO)))] (j_vV bv hbx a ha hbl) (xK (by decide) _) (ho:=ho) (hy:=hy) (hx:=rfl) (qO:=rfl) (hb:=hb)
 |.A u hu v hv=>oCc (ds:=[]) [2,3,4] [(jQ.cells (.val (.func (.func 131) #[] #[]))),(jQ.cells (jI (qK u))),(jQ.cells (jI (qK v)))] (j_vAdd n u hu v hv) (xK (by decide) _) (ho:=ho) (hy:=hy) (hx:=rfl) (qO:=rfl) (hb:=hb)
 |.S u hu v hv=>oCc (ds:=[]) [2,3,4] [(jQ.cells (.val (.func (.func 132) #[] #[]))),(jQ.cells (jI (qK u))),(jQ.cells (jI (qK v)))] (j_vSub n u hu v hv) (xK (by decide) _) (ho:=ho) (hy:=hy) (hx:=rfl) (qO:=rfl) (hb:=hb)
 |.N u hu v hv=>oCh [(4,(bx (jI (qK v))),(jQ.cells (jI (qK v)))),(3,(bx (jI (qK u))),(jQ.cells (jI (qK u)))),(2,[(.clo 133 [5])],[(.clo 133 [(.cptr 1000000 (jQ.cells (jG (kK (gw 0)))) 0)])]),(5,(bx (jG (kK (gw 0)))),(jQ.cells (jG (kK (gw 0)))))] [.ref 2 0,.ref 3 0,.ref 4 0] (j_vNeg n u hu v hv) (.cons (.r (.tail _ (.tail _ (.head _)))) (.cons (.r (.tail _ (.head _))) (.cons (.r (.head _)) .nil))) (.cons (.all rfl) (.cons (.all rfl) (.cons (.cons (.f (css:=[(jQ.cells (jG (kK (gw 0))))]) (.cons (.head _) .nil)) .nil) (.cons (.all rfl) .nil)))) (xK (by decide) _) (ex:=[.ref 2 0,.ref 3 0,.ref 4 0]) (xs:=[]) (ho:=ho) (hy:=.clo (kk:=[2,3,4]) hy rfl) (hx:=rfl) (hb:=hb)
 |.M u hu v hv=>oCc (ds:=[]) [2,3] [(jQ.cells (jI (qK u))),(jQ.cells (jI (qK v)))] (j_vM n u hu v hv) (xK (by decide) _) (ho:=ho) (hy:=hy) (hx:=rfl) (qO:=rfl) (hb:=hb)
 |.Q u hu tt htt=>oCc (ds:=[]) [2] [(jQ.cells (jI (qK u)))] (j_vQ n u hu) (xK (by decide) _) (ho:=ho) (hy:=hy) (hx:=rfl) (qO:=rfl) (hb:=hb)
 |.D bb u hu v hv hz=>oCh [(4,(bx (jI (qK v))),(jQ.cells (jI (qK v)))),(3,(bx (jI (qK u))),(jQ.cells (jI (qK u)))),(2,[(.refx 0 0 bb)],[(.cptr 1000000 (jQ.cells (mcA n (.sl 1000000 10 (List.map jI (List.map qK L))) false)) 0)]),(0,(xL n 1 L false),(jQ.cells (mcA n (.sl 1000000 10 (List.map jI (List.map qK L))) false))),(1,(xT L),(qD (List.map jI (List.map qK L))))] [.ref 2 0,.ref 3 0,.ref 4 0] (j_vD n (.sl 1000000 10 (List.map jI (List.map qK L))) u hu v hv hz) (.cons (.r (.tail _ (.tail _ (.head _)))) (.cons (.r (.tail _ (.head _))) (.cons (.r (.head _)) .nil))) (.cons (.all rfl) (.cons (.all rfl) (.cons (.cons (.x (.head _)) .nil) (.cons (.cons .d (.cons .d (.cons .d (.cons (aM (F:=jI) (L:=(List.map qK L)) (.head _) (fun _=>rfl) rfl) (.cons .d .nil))))) (.cons (.all (by exact rfl)) .nil))))) (xK (by decide) _) (ex:=[.ref 2 0,.ref 3 0,.ref 4 0]) (xs:=[]) (ho:=ho) (hy:=.clo (kk:=[2,3,4]) hy rfl) (hx:=rfl) (hb:=hb)
def nk_bl{n:Nat}{L:List JV}(K:NK n L)(gl:List jM):List bN:=K.d.b++[(6,(bx (jG (kK K.d.v))++[(.own 7 42 8 gl.length),(.own 8 43 1 0)]),(jQ.cells (.agg (jQ.cells (jG (kK K.d.v))++[(.sl 1000000 8 (List.map jG gl)),(.sl 1000000 1 (List.map vC []))])))),(8,(bm vC []),(qD (List.map vC []))),(7,(qS jG gl),(qD (List.map jG gl)))]
theorem nk_vb(v:R2)(gl:List jM):VBlks 1000000 [(6,(bx (jG (kK v))++[(.own 7 42 8 gl.length),(.own 8 43 1 0)]),(jQ.cells (.agg (jQ.cells (jG (kK v))++[(.sl 1000000 8 (List.map jG gl)),(.sl 1000000 1 (List.map vC []))])))),(8,(bm vC []),(qD (List.map vC []))),(7,(qS jG gl),(qD (List.map jG gl)))]:=(.cons (.cons .d (.cons .d (.cons .d (.cons .d (.cons .d (.cons .d (.cons .d (.cons .d (.cons (aM (F:=jG) (L:=gl) (.tail _ (.head _)) (fun _=>rfl) rfl) (.cons (aM (F:=vC) (L:=[]) (.head _) (fun _=>rfl) rfl) .nil)))))))))) (.cons (sees_bm (fun _=>rfl)) (.cons (.all (by exact rfl)) .nil)))
theorem nk_g{n:Nat}{L:List JV}(K:NK n L){i:Nat}(hi:i<n)(gl:List jM){o:Oper}{S:SL}{B:BS}{y:Operand}{xs:List Operand}{ats:Array TypeId}(ho:o.op=.call { callee:=.value y,args:=xs.toArray,argTypes:=ats })(hy:ev (kA S) y=K.d.c2)(hx:xs.map (ev (kA S))=[.ref 6 0,jT i])(hb:(nk_bl K gl).map (fun p=>jZ B p.1)=(nk_bl K gl).map (fun p=>some p.2.1)):RKs Tryz.prog o S B (K.d.b.map (·.1)++[6,8,7]) (.d (jG (kK (K.d.g i)))):=match K with
 |.C p hp zz hzz=>oCh (nk_bl (.C p hp zz hzz) gl) [(.ref 6 0),(jT i),.ref 3 0] (j_gC _ i zz hzz) (.cons (.r (.tail _ (.head _))) (.cons .d (.cons (.r (.head _)) .nil))) (.cons (.all rfl) (nk_vb _ gl)) (xK (by decide) _) (ex:=[.ref 3 0]) (ho:=ho) (hy:=.clo (kk:=[3]) hy rfl) (hx:=by rw[hx];rfl) (hb:=hb)
 |.V bv hbx a zz hzz ha hbl=>oCh (nk_bl (.V bv hbx a zz hzz ha hbl) gl) [(.ref 6 0),(jT i),.ref 3 0,.ref 4 0] (j_gV _ i a zz hzz) (.cons (.r (.tail _ (.tail _ (.head _)))) (.cons .d (.cons (.r (.tail _ (.head _))) (.cons (.r (.head _)) .nil)))) (.cons (.all rfl) (.cons (.all rfl) (nk_vb _ gl))) (xK (by decide) _) (ex:=[.ref 3 0,.ref 4 0]) (ho:=ho) (hy:=.clo (kk:=[3,4]) hy rfl) (hx:=by rw[hx];rfl) (hb:=hb)
 |.A u hu v hv=>oCh (nk_bl (.A u hu v hv) gl) [(.ref 6 0),(jT i),.ref 2 0,.ref 3 0,.ref 4 0] (j_gAdd _ i n u hu v hv (by omega)) (.cons (.r (.tail _ (.tail _ (.tail _ (.head _))))) (.cons .d (.cons (.r (.tail _ (.tail _ (.head _)))) (.cons (.r (.tail _ (.head _))) (.cons (.r (.head _)) .nil))))) (.cons (.all rfl) (.cons (.all rfl) (.cons (.all rfl) (nk_vb _ gl)))) (xK (by decide) _) (ex:=[.ref 2 0,.ref 3 0,.ref 4 0]) (ho:=ho) (hy:=.clo (kk:=[2,3,4]) hy rfl) (hx:=by rw[hx];rfl) (hb:=hb)
 |.S u hu v hv=>oCh (nk_bl (.S u hu v hv) gl) [(.ref 6 0),(jT i),.ref 2 0,.ref 3 0,.ref 4 0] (j_gSub _ i n u hu v hv (by omega)) (.cons (.r (.tail _ (.tail _ (.tail _ (.head _))))) (.cons .d (.cons (.r (.tail _ (.tail _ (.head _)))) (.cons (.r (.tail _ (.head _))) (.cons (.r (.head _)) .nil))))) (.cons (.all rfl) (.cons (.all rfl) (.cons (.all rfl) (nk_vb _ gl)))) (xK (by decide) _) (ex:=[.ref 2 0,.ref 3 0,.ref 4 0]) (ho:=ho) (hy:=.clo (kk:=[2,3,4]) hy rfl) (hx:=by rw[hx];rfl) (hb:=hb)
 |.N u hu v hv=>oCh (nk_bl (.N u hu v hv) gl) [(.ref 6 0),(jT i),.ref 2 0,.ref 3 0,.ref 4 0] (j_gNeg _ i n u hu v hv (by omega)) (.cons (.r (.tail _ (.tail _ (.tail _ (.tail _ (.head _)))))) (.cons .d (.cons (.r (.tail _ (.tail _ (.head _)))) (.cons (.r (.tail _ (.head _))) (.cons (.r (.head _)) .nil))))) (.cons (.all rfl) (.cons (.all rfl) (.cons (.cons (.f (css:=[(jQ.cells (jG (kK (gw 0))))]) (.cons (.head _) .nil)) .nil) (.cons (.all rfl) (nk_vb _ gl))))) (xK (by decide) _) (ex:=[.ref 2 0,.ref 3 0,.ref 4 0]) (ho:=ho) (hy:=.clo (kk:=[2,3,4]) hy rfl) (hx:=by rw[hx];rfl) (hb:=hb)
 |.M u hu v hv=>oCh (nk_bl (.M u hu v hv) gl) [(.ref 6 0),(jT i),.ref 2 0,.ref 3 0] (j_gM _ i n u hu v hv (by omega)) (.cons (.r (.tail _ (.tail _ (.head _)))) (.cons .d (.cons (.r (.tail _ (.head _))) (.cons (.r (.head _)) .nil)))) (.cons (.all rfl) (.cons (.all rfl) (nk_vb _ gl))) (xK (by decide) _) (ex:=[.ref 2 0,.ref 3 0]) (ho:=ho) (hy:=.clo (kk:=[2,3]) hy rfl) (hx:=by rw[hx];rfl) (hb:=hb)
 |.Q u hu tt htt=>oCh (nk_bl (.Q u hu tt htt) gl) [(.ref 6 0),(jT i),.ref 3 0,.ref 2 0] (j_gQ _ i tt htt n u hu (by omega)) (.cons (.r (.tail _ (.tail _ (.head _)))) (.cons .d (.cons (.r (.tail _ (.head _))) (.cons (.r (.head _)) .nil)))) (.cons (.all rfl) (.cons (.all rfl) (nk_vb _ gl))) (xK (by decide) _) (ex:=[.ref 3 0,.ref 2 0]) (ho:=ho) (hy:=.clo (kk:=[3,2]) hy rfl) (hx:=by rw[hx];rfl) (hb:=hb)
 |.D bb u hu v hv hz=>oCh (nk_bl (.D bb u hu v hv hz) gl) [(.ref 6 0),(jT i),.ref 2 0,.ref 3 0,.ref 4 0] (j_gD (mK u.v v.v) (gl_div (k:=2097152) hu.1 hv.1) (.sl 1000000 8 (List.map jG gl)) (.sl 1000000 1 (List.map vC [])) i n (.sl 1000000 10 (List.map jI (List.map qK L))) u hu v hv hz (by omega)) (.cons (.r (.tail _ (.tail _ (.tail _ (.tail _ (.tail _ (.head _))))))) (.cons .d (.cons (.r (.tail _ (.tail _ (.head _)))) (.cons (.r (.tail _ (.head _))) (.cons (.r (.head _)) .nil))))) (.cons (.all rfl) (.cons (.all rfl) (.cons (.cons (.x (.head _)) .nil) (.cons (.cons .d (.cons .d (.cons .d (.cons (aM (F:=jI) (L:=(List.map qK L)) (.head _) (fun _=>rfl) rfl) (.cons .d .nil))))) (.cons (.all (by exact rfl)) (nk_vb _ gl)))))) (xK (by decide) _) (ex:=[.ref 2 0,.ref 3 0,.ref 4 0]) (ho:=ho) (hy:=.clo (kk:=[2,3,4]) hy rfl) (hx:=by rw[hx];rfl) (hb:=hb)
set_option maxHeartbeats 4000000 in
theorem aG(n:Nat)(L:List JV)(K0:NK n L)(hn:n<=64)(hL:L.length<=1000):let K:=K0;uI Tryz.prog 123 [(.ref 0 0),K.d.c1,K.d.c2,K.d.c3] ([(0,some (xL n 1 L false)),(1,some (xT L))]++K.d.X) (.d (.tup [])) [(0,some (xL n 10 (L++[(jk K.d.v (fun i=>(K.d.g i)) n)]) false)),(10,some (xT (L++[(jk K.d.v (fun i=>(K.d.g i)) n)])))]:=by
 cases K0
 all_goals
  intro K
  refine xE Tryz.func123 rfl cb123 rfl ?_
  show cZ _ _ _ _ ⟨[(0,(.ref 0 0)),(1,K.d.c1),(2,K.d.c2),(3,K.d.c3)],([(0,some (xL n 1 L false)),(1,some (xT L))]++K.d.X)⟩
  refine jB<|kx [(8,(.ref 6 0))] [(6,some (bx (.agg (jQ.cells (jG (kK K.d.v))++[(.val (.slice none 0 0)),(.val (.slice none 0 0))]))))] (zM<|zM<|zC (nk_v K (by exact rfl) (by kernel_rfl) (by kernel_rfl))<|zC (oCh [(0,(xL n 1 L false),(jQ.cells (mcA n (.sl 1000000 10 (List.map jI (List.map qK L))) false))),(1,(xT L),(qD (List.map jI (List.map qK L))))] [(.ref 0 0),(.d (jG (kK K.d.v)))] (j_round n (.sl 1000000 10 (List.map jI (List.map qK L))) K.d.v K.hv) (.cons (.r (.head _)) (.cons .d .nil)) (.cons (.cons .d (.cons .d (.cons .d (.cons (aM (F:=jI) (L:=(List.map qK L)) (.head _) (fun _=>rfl) rfl) (.cons .d .nil))))) (.cons (.all (by exact rfl)) .nil)) (xK (by decide) _) (ex:=[]))<|zE (bH pl46 iB zn46)<|zH (uJ 6 iB zo46)<|zT (qM dP)<|zZ) ?_
  refine jB<|jB<|kx [(22,(vb true))] [] (zM<|zE eM<|zE (kN fo113_1)<|zR (qJ uT)<|zE (gU true cI)<|zZ) ?_
  refine xQ ?_
  refine jB<|aU 6 8 7 42 8 (cs:=(bx (.agg (jQ.cells (jG (kK K.d.v))++[(.val (.slice none 0 0)),(.val (.slice none 0 0))])))) (h:=?_)
  refine kG (wk (l:=[(0,(.ref 0 0)),(1,K.d.c1),(2,K.d.c2),(3,K.d.c3),(8,(.ref 6 0)),(22,(vb true))]) (b:=([(0,some (xL n 1 L false)),(1,some (xT L)),(6,some (bx (jG (kK K.d.v))++[(.own 7 42 8 0),(.d (.val (.slice none 0 0)))])),(7,some (qS jG []))]++K.d.X))) ?_
  refine aU 6 9 8 43 1 (cs:=(bx (jG (kK K.d.v))++[(.own 7 42 8 0),(.d (.val (.slice none 0 0)))])) (h:=?_)
  refine kG (wk (l:=[(0,(.ref 0 0)),(1,K.d.c1),(2,K.d.c2),(3,K.d.c3),(8,(.ref 6 0)),(22,(vb true))]) (b:=([(0,some (xL n 1 L false)),(1,some (xT L)),(6,some (bx (jG (kK K.d.v))++[(.own 7 42 8 0),(.own 8 43 1 0)])),(7,some (qS jG [])),(8,some (bm vC []))]++K.d.X))) ?_
  refine kx [(26,(jT n)),(27,(jT 0))] [] (zM<|zE eM<|zE (kN fo113_0)<|zR (qJ uT)<|zM<|zZ) ?_
  refine jH<|kQ (α:=Nat × List jM) (fun (i,gl)=>⟨[(0,(.ref 0 0)),(1,K.d.c1),(2,K.d.c2),(3,K.d.c3),(8,(.ref 6 0)),(26,(jT n)),(27,(jT i))],([(0,some (xL n 1 L false)),(1,some (xT L)),(6,some (bx (jG (kK K.d.v))++[(.own 7 42 8 gl.length),(.own 8 43 1 0)])),(7,some (qS jG gl)),(8,some (bm vC []))]++K.d.X)⟩) (fun (i,gl)=>i<=n/\gl=List.map kK (List.map (fun (i:Nat)=>(K.d.g i)) (List.range i))) (fun (i,gl)=>n-i) (0,[]) wk ⟨Nat.zero_le _,rfl⟩ ?_
  rintro ⟨i,gl⟩ ⟨hi,hg⟩
  have hgl:gl.length=i:=jk_len (G:=(fun (i:Nat)=>(K.d.g i))) hg
  refine jB<|kx [(28,(vb (decide (((i:Nat):Int)<((n:Nat):Int)))))] [] (zE yY<|zZ) ?_
  refine jB<|jF rfl (fun h1=>?_) (fun h1=>?_)
  ·replace h1:=vT h1
   refine jE<|jB<|jH<|jB<|kx [(9,(jT i))] [] (zM<|zM<|zZ) ?_
   refine kd [] [(6,some (bx (jG (kK K.d.v))++[(.own 9 42 8 ((gl++[(kK (K.d.g i))]).length)),(.own 8 43 1 0)])),(9,some (qS jG (gl++[(kK (K.d.g i))]))),(7,none)] mo (wE (kN gD)<|wR (qJ fO)<|wM<|wM<|wM<|wC (nk_g K (Int.ofNat_lt.1 h1) gl (by exact rfl) (by kernel_rfl) (by kernel_rfl) (by kernel_rfl))<|wC (oCh [(0,(xL n 1 L false),(jQ.cells (mcA n (.sl 1000000 10 (List.map jI (List.map qK L))) false))),(1,(xT L),(qD (List.map jI (List.map qK L))))] [(.ref 0 0),(.d (jG (kK (K.d.g i))))] (j_round n (.sl 1000000 10 (List.map jI (List.map qK L))) (K.d.g i) (K.hg i (by omega))) (.cons (.r (.head _)) (.cons .d .nil)) (.cons (.cons .d (.cons .d (.cons .d (.cons (aM (F:=jI) (L:=(List.map qK L)) (.head _) (fun _=>rfl) rfl) (.cons .d .nil))))) (.cons (.all (by exact rfl)) .nil)) (xK (by decide) _) (ex:=[]))<|wE (fF zU uK uO)<|wAS (k:=7) 9 jG gl [(kK (K.d.g i))] rfl zU uK by42<|wE (kN gD)<|wT (oSx fO)<|wZ) ?_
   refine kG (wk (l:=[(0,(.ref 0 0)),(1,K.d.c1),(2,K.d.c2),(3,K.d.c3),(8,(.ref 6 0)),(26,(jT n)),(27,(jT i))]) (b:=([(0,some (xL n 1 L false)),(1,some (xT L)),(6,some (bx (jG (kK K.d.v))++[(.own 9 42 8 ((gl++[(kK (K.d.g i))]).length)),(.own 8 43 1 0)])),(8,some (bm vC [])),(9,some (qS jG (gl++[(kK (K.d.g i))])))]++K.d.X))) ?_
   refine kG (mW (S':=[(0,(.ref 0 0)),(1,K.d.c1),(2,K.d.c2),(3,K.d.c3),(8,(.ref 6 0)),(26,(jT n)),(27,(jT i))]) (B':=([(0,some (xL n 1 L false)),(1,some (xT L)),(6,some (bx (jG (kK K.d.v))++[(.own 7 42 8 ((gl++[(kK (K.d.g i))]).length)),(.own 8 43 1 0)])),(7,some (qS jG (gl++[(kK (K.d.g i))]))),(8,some (bm vC []))]++K.d.X)) 7 9 6) ?_
   refine kx [(27,(jT (i+1)))] [] (zE (xD (i+1))<|zM<|zZ) ?_
   exact ⟨(i+1,gl++[kK (K.d.g i)]),wk,⟨by omega,jk_push (G:=(fun (i:Nat)=>(K.d.g i))) hg⟩,(by first|omega|(dsimp only;omega))⟩
  ·replace h1:=xC h1
   refine kL<|jB<|jB<|kx [(45,(vb false))] [] (zM<|zE eM<|zE (kN fo113_1)<|zR (qJ uT)<|zE (gU false cI)<|zZ) ?_
   refine qH ?_
   refine jE<|kG (bQ (j:=6) (k:=7) (pre:=(bx (jG (kK K.d.v)))) (post:=[(.own 8 43 1 0)]) (es:=List.map jG gl) rfl (by decide) rfl (mA _ _ (fun _=>rfl)) (vS _ _ rfl) (cH jG gl (fun _=>rfl) rfl)) ?_
   refine kG (wk (l:=[(0,(.ref 0 0)),(1,K.d.c1),(2,K.d.c2),(3,K.d.c3),(8,(.ref 6 0)),(45,(vb false))]) (b:=([(0,some (xL n 1 L false)),(1,some (xT L)),(6,some (bx (jG (kK K.d.v))++[(vl 42 8 jG gl),(.own 8 43 1 0)])),(8,some (bm vC []))]++K.d.X))) ?_
   refine kG (bQ (j:=6) (k:=8) (pre:=(bx (jG (kK K.d.v))++[(vl 42 8 jG gl)])) (post:=[]) (es:=List.map vC []) rfl (by decide) rfl (vQ _ _ (fun _=>rfl)) (vS _ _ rfl) (xP _ _ (fun _=>rfl) rfl)) ?_
   refine kG (wk (l:=[(0,(.ref 0 0)),(1,K.d.c1),(2,K.d.c2),(3,K.d.c3),(8,(.ref 6 0)),(45,(vb false))]) (b:=([(0,some (xL n 1 L false)),(1,some (xT L)),(6,some (bx (jI (gL.mk (kK K.d.v) gl []))))]++K.d.X))) ?_
   refine kd [] [(0,some [(jT n),(jT 1),(vi (-1)),(.own 10 46 10 (((List.map qK L)++[(gL.mk (kK K.d.v) gl [])]).length)),(vb false)]),(10,some (qS jI ((List.map qK L)++[(gL.mk (kK K.d.v) gl [])]))),(1,none)] mo (wM<|wM<|wE eM<|wE (kN mX)<|wR (qJ sh88)<|wR (kR dP)<|wE (fF el88 iB zo46)<|wAS (k:=1) 10 jI (List.map qK L) [(gL.mk (kK K.d.v) gl [])] rfl el88 iB by46<|wE eM<|wE (kN mX)<|wT (oSx sh88)<|wZ) ?_
   have hJ:List.map qK (L++[(jk K.d.v (fun i=>(K.d.g i)) n)])=List.map qK L++[gL.mk (kK K.d.v) gl []]:=by rw[List.map_append,hg,show i=n by omega];rfl
   unfold xL xT
   rw[hJ]
   refine ⟨qR (by kernel_rfl),uH (by kernel_rfl),.inl ⟨_,.nil,?_⟩⟩
   rfl
theorem e_nodeC(n:Nat)(L:List JV)(p:Rat)(hp:QL p 1048576)(zz:R2)(hzz:GL 3 zz)(hn:n<=64)(hL:L.length<=1000):uI Tryz.prog 123 [(.ref 0 0),(.clo 127 [2]),(.clo 128 [3]),(.clo 121 [3])] [(0,some (xL n 1 L false)),(1,some (xT L)),(2,some (bx (jO (kC.mk 0 0 0 (jN p))))),(3,some (bx (jG (kK zz))))] (.d (.tup [])) [(0,some (xL n 10 (L++[(jk (gpt p) (fun i=>zz) n)]) false)),(10,some (xT (L++[(jk (gpt p) (fun i=>zz) n)])))]:=aG n L (.C p hp zz hzz) hn hL
theorem e_nodeV(n:Nat)(L:List JV)(bv:List R2)(hbx:∀ x∈bv,GL 1048576 x)(a:Nat)(zz:R2)(hzz:GL 3 zz)(hn:n<=64)(hL:L.length<=1000)(ha:a<bv.length)(hbl:bv.length<=1000000):uI Tryz.prog 123 [(.ref 0 0),(.clo 129 [2,3]),(.clo 130 [3,4]),(.clo 121 [4])] [(0,some (xL n 1 L false)),(1,some (xT L)),(2,some (bx (.sl 42 8 (List.map jG (List.map kK bv))))),(3,some (bx (jO (kC.mk 1 ((a:Nat):Int) 0 kO)))),(4,some (bx (jG (kK zz))))] (.d (.tup [])) [(0,some (xL n 10 (L++[(jk (bv.getD a z2) (fun i=>(if ((i:Nat):Int)=((a:Nat):Int) then gw 1 else zz)) n)]) false)),(10,some (xT (L++[(jk (bv.getD a z2) (fun i=>(if ((i:Nat):Int)=((a:Nat):Int) then gw 1 else zz)) n)])))]:=aG n L (.V bv hbx a zz hzz ha hbl) hn hL
theorem e_nodeA(n:Nat)(L:List JV)(u:JV)(hu:nS 1048576 n u)(v:JV)(hv:nS 1048576 n v)(hn:n<=64)(hL:L.length<=1000):uI Tryz.prog 123 [(.ref 0 0),(.clo 124 [2,3,4]),(.clo 125 [2,3,4]),(.clo 126 [2,3,4])] [(0,some (xL n 1 L false)),(1,some (xT L)),(2,some (bx (.val (.func (.func 131) #[] #[])))),(3,some (bx (jI (qK u)))),(4,some (bx (jI (qK v))))] (.d (.tup [])) [(0,some (xL n 10 (L++[(jk (yI u.v v.v) (fun i=>(yI (u.g.getD i z2) (v.g.getD i z2))) n)]) false)),(10,some (xT (L++[(jk (yI u.v v.v) (fun i=>(yI (u.g.getD i z2) (v.g.getD i z2))) n)])))]:=aG n L (.A u hu v hv) hn hL
theorem e_nodeS(n:Nat)(L:List JV)(u:JV)(hu:nS 1048576 n u)(v:JV)(hv:nS 1048576 n v)(hn:n<=64)(hL:L.length<=1000):uI Tryz.prog 123 [(.ref 0 0),(.clo 124 [2,3,4]),(.clo 125 [2,3,4]),(.clo 126 [2,3,4])] [(0,some (xL n 1 L false)),(1,some (xT L)),(2,some (bx (.val (.func (.func 132) #[] #[])))),(3,some (bx (jI (qK u)))),(4,some (bx (jI (qK v))))] (.d (.tup [])) [(0,some (xL n 10 (L++[(jk (qZ u.v v.v) (fun i=>(qZ (u.g.getD i z2) (v.g.getD i z2))) n)]) false)),(10,some (xT (L++[(jk (qZ u.v v.v) (fun i=>(qZ (u.g.getD i z2) (v.g.getD i z2))) n)])))]:=aG n L (.S u hu v hv) hn hL
theorem e_nodeN(n:Nat)(L:List JV)(u:JV)(hu:nS 1048576 n u)(v:JV)(hv:nS 1048576 n v)(hn:n<=64)(hL:L.length<=1000):uI Tryz.prog 123 [(.ref 0 0),(.clo 124 [2,3,4]),(.clo 125 [2,3,4]),(.clo 126 [2,3,4])] [(0,some (xL n 1 L false)),(1,some (xT L)),(2,some [(.clo 133 [5])]),(3,some (bx (jI (qK u)))),(4,some (bx (jI (qK v)))),(5,some (bx (jG (kK (gw 0)))))] (.d (.tup [])) [(0,some (xL n 10 (L++[(jk (qZ (gw 0) u.v) (fun i=>(qZ (gw 0) (u.g.getD i z2))) n)]) false)),(10,some (xT (L++[(jk (qZ (gw 0) u.v) (fun i=>(qZ (gw 0) (u.g.getD i z2))) n)])))]:=aG n L (.N u hu v hv) hn hL
theorem e_nodeM(n:Nat)(L:List JV)(u:JV)(hu:nS 1048576 n u)(v:JV)(hv:nS 1048576 n v)(hn:n<=64)(hL:L.length<=1000):uI Tryz.prog 123 [(.ref 0 0),(.clo 134 [2,3]),(.clo 136 [2,3]),(.clo 137 [2,3])] [(0,some (xL n 1 L false)),(1,some (xT L)),(2,some (bx (jI (qK u)))),(3,some (bx (jI (qK v))))] (.d (.tup [])) [(0,some (xL n 10 (L++[(jk (uR u.v v.v) (fun i=>(yI (uR u.v (v.g.getD i z2)) (uR v.v (u.g.getD i z2)))) n)]) false)),(10,some (xT (L++[(jk (uR u.v v.v) (fun i=>(yI (uR u.v (v.g.getD i z2)) (uR v.v (u.g.getD i z2)))) n)])))]:=aG n L (.M u hu v hv) hn hL
theorem e_nodeQ(n:Nat)(L:List JV)(u:JV)(hu:nS 1048576 n u)(tt:R2)(htt:GL 3 tt)(hn:n<=64)(hL:L.length<=1000):uI Tryz.prog 123 [(.ref 0 0),(.clo 138 [2]),(.clo 140 [3,2]),(.clo 141 [2,3])] [(0,some (xL n 1 L false)),(1,some (xT L)),(2,some (bx (jI (qK u)))),(3,some (bx (jG (kK tt))))] (.d (.tup [])) [(0,some (xL n 10 (L++[(jk (gsq u.v) (fun i=>(uR tt (uR u.v (u.g.getD i z2)))) n)]) false)),(10,some (xT (L++[(jk (gsq u.v) (fun i=>(uR tt (uR u.v (u.g.getD i z2)))) n)])))]:=aG n L (.Q u hu tt htt) hn hL
theorem e_nodeD(n:Nat)(L:List JV)(bb:Nat)(u:JV)(hu:nS 1048576 n u)(v:JV)(hv:nS 1048576 n v)(hn:n<=64)(hL:L.length<=1000)(hz:xI v.v.1 v.v.2=false):uI Tryz.prog 123 [(.ref 0 0),(.clo 142 [2,3,4]),(.clo 144 [2,3,4]),(.clo 145 [3,4,2])] [(0,some (xL n 1 L false)),(1,some (xT L)),(2,some [(.refx 0 0 bb)]),(3,some (bx (jI (qK u)))),(4,some (bx (jI (qK v))))] (.d (.tup [])) [(0,some (xL n 10 (L++[(jk (mK u.v v.v) (fun i=>(mK (qZ (u.g.getD i z2) (uR (mK u.v v.v) (v.g.getD i z2))) v.v)) n)]) false)),(10,some (xT (L++[(jk (mK u.v v.v) (fun i=>(mK (qZ (u.g.getD i z2) (uR (mK u.v v.v) (v.g.getD i z2))) v.v)) n)])))]:=aG n L (.D bb u hu v hv hz) hn hL
theorem cb122:callB Tryz.prog 122=true:=by kernel_rfl
theorem e_linA(n:Nat)(L:List JV)(bb:Nat)(u:JV)(hu:nS 1048576 n u)(v:JV)(hv:nS 1048576 n v)(hn:n<=64)(hL:L.length<=1000):uI Tryz.prog 122 [(.d (.val (.func (.func 131) #[] #[]))),(.ref 2 0),(.ref 3 0),(.ref 4 0)] [(0,some (xL n 1 L false)),(1,some (xT L)),(2,some [(.refx 0 0 bb)]),(3,some (bx (jI (qK u)))),(4,some (bx (jI (qK v))))] (.d (.tup [])) [(0,some (xL n 11 (L++[(jk (yI u.v v.v) (fun i=>(yI (u.g.getD i z2) (v.g.getD i z2))) n)]) false)),(11,some (xT (L++[(jk (yI u.v v.v) (fun i=>(yI (u.g.getD i z2) (v.g.getD i z2))) n)]))),(2,some [(.refx 0 0 bb)])]:=by
 refine xE Tryz.func122 rfl cb122 rfl ?_
 refine jB<|kx [(4,(.ref 5 0))] [(5,some (bx (.val (.func (.func 131) #[] #[]))))] (zH (vX 5)<|zZ) ?_
 refine kf [] [(0,some (xL n 11 (L++[(jk (yI u.v v.v) (fun i=>(yI (u.g.getD i z2) (v.g.getD i z2))) n)]) false)),(11,some (xT (L++[(jk (yI u.v v.v) (fun i=>(yI (u.g.getD i z2) (v.g.getD i z2))) n)]))),(1,none),(10,none),(3,none),(4,none),(5,none),(6,none),(7,none),(8,none),(9,none)] (zR (oLx eJ)<|zE (oMf [5,3,4])<|zE (oMf [5,3,4])<|zE (oMf [5,3,4])<|iF (B2:=[(0,some (xL n 1 L false)),(1,some (xT L)),(5,some (bx (.val (.func (.func 131) #[] #[])))),(3,some (bx (jI (qK u)))),(4,some (bx (jI (qK v))))]) (B2':=[(0,some (xL n 11 (L++[(jk (yI u.v v.v) (fun i=>(yI (u.g.getD i z2) (v.g.getD i z2))) n)]) false)),(11,some (xT (L++[(jk (yI u.v v.v) (fun i=>(yI (u.g.getD i z2) (v.g.getD i z2))) n)])))]) [0,1,5,3,4,6,7,8,9,10,11] [0,5,3,4] (e_nodeA n L u hu v hv hn hL)<|zF) ?_
 refine ⟨qR (by kernel_rfl),uH (by kernel_rfl),.inl ⟨_,.nil,?_⟩⟩
 rfl
theorem e_linS(n:Nat)(L:List JV)(bb:Nat)(u:JV)(hu:nS 1048576 n u)(v:JV)(hv:nS 1048576 n v)(hn:n<=64)(hL:L.length<=1000):uI Tryz.prog 122 [(.d (.val (.func (.func 132) #[] #[]))),(.ref 2 0),(.ref 3 0),(.ref 4 0)] [(0,some (xL n 1 L false)),(1,some (xT L)),(2,some [(.refx 0 0 bb)]),(3,some (bx (jI (qK u)))),(4,some (bx (jI (qK v))))] (.d (.tup [])) [(0,some (xL n 11 (L++[(jk (qZ u.v v.v) (fun i=>(qZ (u.g.getD i z2) (v.g.getD i z2))) n)]) false)),(11,some (xT (L++[(jk (qZ u.v v.v) (fun i=>(qZ (u.g.getD i z2) (v.g.getD i z2))) n)]))),(2,some [(.refx 0 0 bb)])]:=by
 refine xE Tryz.func122 rfl cb122 rfl ?_
 refine jB<|kx [(4,(.ref 5 0))] [(5,some (bx (.val (.func (.func 132) #[] #[]))))] (zH (vX 5)<|zZ) ?_
 refine kf [] [(0,some (xL n 11 (L++[(jk (qZ u.v v.v) (fun i=>(qZ (u.g.getD i z2) (v.g.getD i z2))) n)]) false)),(11,some (xT (L++[(jk (qZ u.v v.v) (fun i=>(qZ (u.g.getD i z2) (v.g.getD i z2))) n)]))),(1,none),(10,none),(3,none),(4,none),(5,none),(6,none),(7,none),(8,none),(9,none)] (zR (oLx eJ)<|zE (oMf [5,3,4])<|zE (oMf [5,3,4])<|zE (oMf [5,3,4])<|iF (B2:=[(0,some (xL n 1 L false)),(1,some (xT L)),(5,some (bx (.val (.func (.func 132) #[] #[])))),(3,some (bx (jI (qK u)))),(4,some (bx (jI (qK v))))]) (B2':=[(0,some (xL n 11 (L++[(jk (qZ u.v v.v) (fun i=>(qZ (u.g.getD i z2) (v.g.getD i z2))) n)]) false)),(11,some (xT (L++[(jk (qZ u.v v.v) (fun i=>(qZ (u.g.getD i z2) (v.g.getD i z2))) n)])))]) [0,1,5,3,4,6,7,8,9,10,11] [0,5,3,4] (e_nodeS n L u hu v hv hn hL)<|zF) ?_
 refine ⟨qR (by kernel_rfl),uH (by kernel_rfl),.inl ⟨_,.nil,?_⟩⟩
 rfl
theorem e_linN(n:Nat)(L:List JV)(bb:Nat)(u:JV)(hu:nS 1048576 n u)(v:JV)(hv:nS 1048576 n v)(hn:n<=64)(hL:L.length<=1000):uI Tryz.prog 122 [(.clo 133 [9]),(.ref 2 0),(.ref 3 0),(.ref 4 0)] [(0,some (xL n 1 L false)),(1,some (xT L)),(2,some [(.refx 0 0 bb)]),(3,some (bx (jI (qK u)))),(4,some (bx (jI (qK v)))),(9,some (bx (jG (kK (gw 0)))))] (.d (.tup [])) [(0,some (xL n 15 (L++[(jk (qZ (gw 0) u.v) (fun i=>(qZ (gw 0) (u.g.getD i z2))) n)]) false)),(15,some (xT (L++[(jk (qZ (gw 0) u.v) (fun i=>(qZ (gw 0) (u.g.getD i z2))) n)]))),(2,some [(.refx 0 0 bb)])]:=by
 refine xE Tryz.func122 rfl cb122 rfl ?_
 refine jB<|kx [(4,(.ref 10 0))] [(10,some [(.clo 133 [9])])] (zH (oBy 10)<|zZ) ?_
 refine kf [(0,.junk)] [(0,some (xL n 15 (L++[(jk (qZ (gw 0) u.v) (fun i=>(qZ (gw 0) (u.g.getD i z2))) n)]) false)),(15,some (xT (L++[(jk (qZ (gw 0) u.v) (fun i=>(qZ (gw 0) (u.g.getD i z2))) n)]))),(1,none),(10,none),(11,none),(12,none),(13,none),(14,none),(3,none),(4,none),(9,none)] (zR (oLx eJ)<|zE (oMf [10,3,4])<|zE (oMf [10,3,4])<|zE (oMf [10,3,4])<|iF (B2:=[(0,some (xL n 1 L false)),(1,some (xT L)),(10,some [(.clo 133 [9])]),(3,some (bx (jI (qK u)))),(4,some (bx (jI (qK v)))),(9,some (bx (jG (kK (gw 0)))))]) (B2':=[(0,some (xL n 15 (L++[(jk (qZ (gw 0) u.v) (fun i=>(qZ (gw 0) (u.g.getD i z2))) n)]) false)),(15,some (xT (L++[(jk (qZ (gw 0) u.v) (fun i=>(qZ (gw 0) (u.g.getD i z2))) n)])))]) [0,1,10,3,4,9,11,12,13,14,15] [0,10,3,4] (e_nodeN n L u hu v hv hn hL)<|zF) ?_
 refine ⟨qR (by kernel_rfl),uH (by kernel_rfl),.inl ⟨_,.nil,?_⟩⟩
 rfl
theorem cb77:callB Tryz.prog 77=true:=by kernel_rfl
set_option maxHeartbeats 4000000 in
theorem e_stepN0(x0:kC)(bv:List R2)(hbx:∀ x∈bv,GL 1048576 x)(L:List JV)(hn:bv.length<=64)(hL:L.length<=1000)(hLk:∀ y∈L,nS 1048576 bv.length y)(hx:bI bv.length L x0):let x:=x0;uI Tryz.prog 77 [(.ref 0 0),(.d (jO x)),(vl 42 8 jG (List.map kK bv))] [(0,some (xL bv.length 1 (L) false)),(1,some (xT (L)))] (.d (.tup [])) [(0,some (xL bv.length 18 (L++[nJ bv L x]) false)),(18,some (xT (L++[nJ bv L x])))]:=by
 rcases hx with @⟨p,hp⟩ | @⟨a,ha⟩ | @⟨a,b,ha,hb⟩ | @⟨a,b,ha,hb⟩ | @⟨a,b,ha,hb⟩ | @⟨a,b,ha,hb,hz⟩ | @⟨a,ha⟩ | @⟨a,ha⟩
 all_goals
  intro x
  refine xE Tryz.func77 rfl cb77 rfl ?_
  refine jB<|kx [(3,(.ref 2 0)),(4,(.ref 3 0)),(5,(.ref 4 0))] [(2,some [(.ref 0 0)]),(3,some (bx (jO x))),(4,some (bx (.sl 42 8 (List.map jG (List.map kK bv)))))] (zH (oBy 2)<|zH (vX 3)<|zH (vX 4)<|zZ) ?_
  refine jB<|pwp_fix 2 (k:=0) (o:=0) (h:=fun b0=>?_)
  refine kG (wk (l:=[(0,(.ref 0 0)),(3,(.ref 2 0)),(4,(.ref 3 0)),(5,(.ref 4 0))]) (b:=[(0,some (xL bv.length 1 L false)),(1,some (xT L)),(2,some [(.refx 0 0 b0)]),(3,some (bx (jO x))),(4,some (bx (.sl 42 8 (List.map jG (List.map kK bv)))))])) ?_
  refine kx [(6,(.ref 5 0))] [(5,some (bx (jG (kK (gw 0)))))] (zE (kB (j_whole ((0:Nat):Int) (by omega) (by omega)))<|zH (uJ 5 uK uO)<|zT (qM kF)<|zZ) ?_
  refine jB<|kx [(7,(.clo 121 [5]))] [] (zE (oMf [5])<|zM<|zZ) ?_
  refine jB<|kx [(8,(.ref 6 0)),(9,(.ref 7 0))] [(6,some (bx (jI (gL.mk (jM.mk kO kO) [] [])))),(7,some (bx (jI (gL.mk (jM.mk kO kO) [] []))))] (zH (uJ 6 iB zo46)<|zH (uJ 7 iB zo46)<|zZ) ?_
  refine jB<|kx [(10,(vi (uA x.op)))] [] (zE (kN yA)<|zR (qJ eI)<|zE (kB (j_kids x.op))<|zM<|zZ) ?_
  refine jB<|jB ?_
  first
   |(refine kx [(19,(vb true))] [] (zM<|zE (gU true cI (e:=rfl))<|zZ) ?_;refine xQ ?_;refine kd [] [(6,some (bx (jI (qK (L.getD a jz)))))] mo (wR (oLx eJ)<|wE eM<|wE (kN mX)<|wR (qJ sh88)<|wE (kN qU)<|wR (qJ uT)<|wE (oXO el88 a (hj:=by first | omega | rfl | (simp only[List.length_map];omega) | (dsimp only;omega)) (h1:=by first | omega | rfl | (simp only[List.length_map];omega) | (dsimp only;omega)))<|wR (dF (jI ((List.map qK L).getD a (gL.mk (jM.mk kO kO) [] []))) (jI (qK (L.getD a jz))) (oLA dP a (gL.mk (jM.mk kO kO) [] []) (h1:=by first | omega | rfl | (simp only[List.length_map];omega) | (dsimp only;omega))) (by exact (congrArg jI (eF qK L jz _ (by omega)))))<|wT (qM dP)<|wZ) ?_)
   |(refine kx [(19,(vb false))] [] (zM<|zE (gU false cI (e:=rfl))<|zZ) ?_;refine qH ?_;refine jE ?_)
  refine jB<|jB ?_
  first
   |(refine kx [(29,(vb true))] [] (zM<|zE (gU true cI (e:=rfl))<|zZ) ?_;refine xQ ?_;refine kd [] [(7,some (bx (jI (qK (L.getD b jz)))))] mo (wR (oLx eJ)<|wE eM<|wE (kN mX)<|wR (qJ sh88)<|wE (kN vM)<|wR (qJ uT)<|wE (oXO el88 b (hj:=by first | omega | rfl | (simp only[List.length_map];omega) | (dsimp only;omega)) (h1:=by first | omega | rfl | (simp only[List.length_map];omega) | (dsimp only;omega)))<|wR (dF (jI ((List.map qK L).getD b (gL.mk (jM.mk kO kO) [] []))) (jI (qK (L.getD b jz))) (oLA dP b (gL.mk (jM.mk kO kO) [] []) (h1:=by first | omega | rfl | (simp only[List.length_map];omega) | (dsimp only;omega))) (by exact (congrArg jI (eF qK L jz _ (by omega)))))<|wT (qM dP)<|wZ) ?_)
   |(refine kx [(29,(vb false))] [] (zM<|zE (gU false cI (e:=rfl))<|zZ) ?_;refine qH ?_;refine jE ?_)
  refine jB<|kx [(11,(.clo 122 [2,6,7]))] [] (zE (oMf [2,6,7])<|zM<|zZ) ?_
  refine jB<|kx [(40,(vi x.op))] [] (zE (kN yA)<|zR (qJ eI)<|zZ) ?_
  refine jH ?_
 all_goals refine jB ?_
 ·rw[show nJ bv L x=(jk (gpt p) (fun i=>(gw 0)) bv.length) from by show nJ bv L (kC.mk 0 0 0 (jN p))=_;unfold nJ nV nG;rw[eV];rfl]
  refine kx [(46,(vb true))] [] (zE (gU true yP (e:=rfl))<|zM<|zZ) ?_
  refine xQ ?_
  refine kf [] [(0,some (xL bv.length 18 (L++[(jk (gpt p) (fun i=>(gw 0)) bv.length)]) false)),(18,some (xT (L++[(jk (gpt p) (fun i=>(gw 0)) bv.length)]))),(1,none),(10,none),(11,none),(12,none),(13,none),(3,none),(5,none),(8,none),(9,none)] (zR (oLx eJ)<|zE (oMf [3])<|zE (oMf [5])<|zM<|iF (B2:=[(0,some (xL bv.length 1 L false)),(1,some (xT L)),(3,some (bx (jO x))),(5,some (bx (jG (kK (gw 0)))))]) (B2':=[(0,some (xL bv.length 18 (L++[(jk (gpt p) (fun i=>(gw 0)) bv.length)]) false)),(18,some (xT (L++[(jk (gpt p) (fun i=>(gw 0)) bv.length)])))]) [0,1,3,5,8,9,10,11,12,13,18] [0,3,5] (e_nodeC bv.length L p hp (gw 0) (gl_w (z:=0) (by omega) (by omega)) hn hL)<|zF) ?_
  refine ⟨qR (by kernel_rfl),uH (by kernel_rfl),.inl ⟨_,.nil,?_⟩⟩
  rfl
 all_goals
  refine kx [(46,(vb false))] [] (zE (gU false yP (e:=rfl))<|zM<|zZ) ?_
  refine qH ?_
 all_goals refine jB ?_
 ·refine kx [(53,(vb true))] [] (zE (gU true yP (e:=rfl))<|zM<|zZ) ?_
  refine xQ ?_
  refine kf [] [(0,some (xL bv.length 18 (L++[(nJ bv L x)]) false)),(18,some (xT (L++[(nJ bv L x)]))),(1,none),(10,none),(11,none),(12,none),(3,none),(4,none),(5,none),(8,none),(9,none)] (zR (oLx eJ)<|zE (oMf [4,3])<|zE (oMf [3,5])<|zM<|iF (B2:=[(0,some (xL bv.length 1 L false)),(1,some (xT L)),(4,some (bx (.sl 42 8 (List.map jG (List.map kK bv))))),(3,some (bx (jO x))),(5,some (bx (jG (kK (gw 0)))))]) (B2':=[(0,some (xL bv.length 18 (L++[(nJ bv L x)]) false)),(18,some (xT (L++[(nJ bv L x)])))]) [0,1,4,3,5,8,9,10,11,12,18] [0,4,3,5] (e_nodeV bv.length L bv hbx a (gw 0) (gl_w (z:=0) (by omega) (by omega)) hn hL ha (by omega))<|zF) ?_
  refine ⟨qR (by kernel_rfl),uH (by kernel_rfl),.inl ⟨_,.nil,?_⟩⟩
  rfl
 all_goals
  refine kx [(53,(vb false))] [] (zE (gU false yP (e:=rfl))<|zM<|zZ) ?_
  refine qH ?_
 all_goals refine jB ?_
 ·refine kx [(60,(vb true))] [] (zE (gU true yP (e:=rfl))<|zM<|zZ) ?_
  refine xQ ?_
  refine kf [] [(0,some (xL bv.length 18 (L++[(nJ bv L x)]) false)),(18,some (xT (L++[(nJ bv L x)]))),(1,none),(10,none),(11,none),(12,none),(13,none),(2,none),(6,none),(7,none),(8,none),(9,none)] (zM<|iF (B2:=[(0,some (xL bv.length 1 L false)),(1,some (xT L)),(2,some [(.refx 0 0 b0)]),(6,some (bx (jI (qK (L.getD a jz))))),(7,some (bx (jI (qK (L.getD b jz)))))]) (B2':=[(0,some (xL bv.length 18 (L++[(nJ bv L x)]) false)),(18,some (xT (L++[(nJ bv L x)]))),(2,some [(.refx 0 0 b0)])]) [0,1,2,6,7,8,9,10,11,12,13,18] [2,6,7,0] (e_linA bv.length L b0 (L.getD a jz) (dM hLk ha) (L.getD b jz) (dM hLk hb) hn hL) (G:=[0]) (hG:=by exact (.cons (k:=0) (q:=2) (o:=0) (b:=b0) (j:=0) (by kernel_rfl) (by kernel_rfl) (by kernel_rfl) .nil)) (ex:=[.ref 2 0,.ref 6 0,.ref 7 0]) (hy:=.clo (kk:=[2,6,7]) (by kernel_rfl) (by kernel_rfl))<|zF) ?_
  refine ⟨qR (by kernel_rfl),uH (by kernel_rfl),.inl ⟨_,.nil,?_⟩⟩
  rfl
 all_goals
  refine kx [(60,(vb false))] [] (zE (gU false yP (e:=rfl))<|zM<|zZ) ?_
  refine qH ?_
 all_goals refine jB ?_
 ·refine kx [(64,(vb true))] [] (zE (gU true yP (e:=rfl))<|zM<|zZ) ?_
  refine xQ ?_
  refine kf [] [(0,some (xL bv.length 18 (L++[(nJ bv L x)]) false)),(18,some (xT (L++[(nJ bv L x)]))),(1,none),(10,none),(11,none),(12,none),(13,none),(2,none),(6,none),(7,none),(8,none),(9,none)] (zM<|iF (B2:=[(0,some (xL bv.length 1 L false)),(1,some (xT L)),(2,some [(.refx 0 0 b0)]),(6,some (bx (jI (qK (L.getD a jz))))),(7,some (bx (jI (qK (L.getD b jz)))))]) (B2':=[(0,some (xL bv.length 18 (L++[(nJ bv L x)]) false)),(18,some (xT (L++[(nJ bv L x)]))),(2,some [(.refx 0 0 b0)])]) [0,1,2,6,7,8,9,10,11,12,13,18] [2,6,7,0] (e_linS bv.length L b0 (L.getD a jz) (dM hLk ha) (L.getD b jz) (dM hLk hb) hn hL) (G:=[0]) (hG:=by exact (.cons (k:=0) (q:=2) (o:=0) (b:=b0) (j:=0) (by kernel_rfl) (by kernel_rfl) (by kernel_rfl) .nil)) (ex:=[.ref 2 0,.ref 6 0,.ref 7 0]) (hy:=.clo (kk:=[2,6,7]) (by kernel_rfl) (by kernel_rfl))<|zF) ?_
  refine ⟨qR (by kernel_rfl),uH (by kernel_rfl),.inl ⟨_,.nil,?_⟩⟩
  rfl
 all_goals
  refine kx [(64,(vb false))] [] (zE (gU false yP (e:=rfl))<|zM<|zZ) ?_
  refine qH ?_
 rotate_left 2
 all_goals refine jB ?_
 ·refine kx [(68,(vb true))] [] (zE (gU true yP (e:=rfl))<|zM<|zZ) ?_
  refine xQ ?_
  refine jB<|kx [] [(7,some (bx (jI (qK (L.getD a jz)))))] (zR (dF (jI (qK (L.getD a jz))) (jI (qK (L.getD a jz))) (kR dP) (by exact rfl))<|zT (qM dP)<|zZ) ?_
  refine kf [(6,.junk),(7,.junk)] [(0,some (xL bv.length 18 (L++[(nJ bv L x)]) false)),(18,some (xT (L++[(nJ bv L x)]))),(1,none),(10,none),(11,none),(12,none),(13,none),(14,none),(15,none),(16,none),(2,none),(5,none),(6,none),(7,none),(8,none),(9,none)] (zM<|zE (oMf [5])<|iF (B2:=[(0,some (xL bv.length 1 L false)),(1,some (xT L)),(2,some [(.refx 0 0 b0)]),(6,some (bx (jI (qK (L.getD a jz))))),(7,some (bx (jI (qK (L.getD a jz))))),(5,some (bx (jG (kK (gw 0)))))]) (B2':=[(0,some (xL bv.length 18 (L++[(nJ bv L x)]) false)),(18,some (xT (L++[(nJ bv L x)]))),(2,some [(.refx 0 0 b0)])]) [0,1,2,6,7,8,9,10,11,5,12,13,14,15,16,18] [2,6,7,0] (e_linN bv.length L b0 (L.getD a jz) (dM hLk ha) (L.getD a jz) (dM hLk ha) hn hL) (G:=[0]) (hG:=by exact (.cons (k:=0) (q:=2) (o:=0) (b:=b0) (j:=0) (by kernel_rfl) (by kernel_rfl) (by kernel_rfl) .nil)) (ex:=[.ref 2 0,.ref 6 0,.ref 7 0]) (hy:=.clo (kk:=[2,6,7]) (by kernel_rfl) (by kernel_rfl))<|zF) ?_
  refine ⟨qR (by kernel_rfl),uH (by kernel_rfl),.inl ⟨_,.nil,?_⟩⟩
  rfl
 all_goals
  refine kx [(68,(vb false))] [] (zE (gU false yP (e:=rfl))<|zM<|zZ) ?_
  refine qH ?_
 rotate_left 1
 all_goals refine jB ?_
 ·refine kx [(74,(vb true))] [] (zE (gU true yP (e:=rfl))<|zM<|zZ) ?_
  refine xQ ?_
  refine kf [] [(0,some (xL bv.length 18 (L++[(nJ bv L x)]) false)),(18,some (xT (L++[(nJ bv L x)]))),(1,none),(10,none),(11,none),(12,none),(13,none),(6,none),(7,none),(8,none),(9,none)] (zR (oLx eJ)<|zE (oMf [6,7])<|zE (oMf [6,7])<|zE (oMf [6,7])<|iF (B2:=[(0,some (xL bv.length 1 L false)),(1,some (xT L)),(6,some (bx (jI (qK (L.getD a jz))))),(7,some (bx (jI (qK (L.getD b jz)))))]) (B2':=[(0,some (xL bv.length 18 (L++[(nJ bv L x)]) false)),(18,some (xT (L++[(nJ bv L x)])))]) [0,1,6,7,8,9,10,11,12,13,18] [0,6,7] (e_nodeM bv.length L (L.getD a jz) (dM hLk ha) (L.getD b jz) (dM hLk hb) hn hL)<|zF) ?_
  refine ⟨qR (by kernel_rfl),uH (by kernel_rfl),.inl ⟨_,.nil,?_⟩⟩
  rfl
 all_goals
  refine kx [(74,(vb false))] [] (zE (gU false yP (e:=rfl))<|zM<|zZ) ?_
  refine qH ?_
 rotate_left 1
 all_goals refine jB ?_
 ·refine kx [(81,(vb true))] [] (zE (gU true yP (e:=rfl))<|zM<|zZ) ?_
  refine xQ ?_
  refine jB<|kx [(12,(.ref 8 0))] [(8,some (bx (jG (kK (gw 2)))))] (zE (kB (j_whole ((2:Nat):Int) (by omega) (by omega)))<|zH (uJ 8 uK uO)<|zT (qM kF)<|zZ) ?_
  refine kf [] [(0,some (xL bv.length 18 (L++[(nJ bv L x)]) false)),(18,some (xT (L++[(nJ bv L x)]))),(1,none),(10,none),(11,none),(12,none),(13,none),(14,none),(6,none),(8,none),(9,none)] (zR (oLx eJ)<|zE (oMf [6])<|zE (oMf [8,6])<|zE (oMf [6,8])<|iF (B2:=[(0,some (xL bv.length 1 L false)),(1,some (xT L)),(6,some (bx (jI (qK (L.getD a jz))))),(8,some (bx (jG (kK (gw 2)))))]) (B2':=[(0,some (xL bv.length 18 (L++[(nJ bv L x)]) false)),(18,some (xT (L++[(nJ bv L x)])))]) [0,1,6,8,9,10,11,12,13,14,18] [0,6,8] (e_nodeQ bv.length L (L.getD a jz) (dM hLk ha) (gw 2) (gl_w (z:=2) (by omega) (by omega)) hn hL)<|zF) ?_
  refine ⟨qR (by kernel_rfl),uH (by kernel_rfl),.inl ⟨_,.nil,?_⟩⟩
  rfl
 all_goals
  refine kx [(81,(vb false))] [] (zE (gU false yP (e:=rfl))<|zM<|zZ) ?_
  refine qH ?_
 ·refine kf [] [(0,some (xL bv.length 18 (L++[(nJ bv L x)]) false)),(18,some (xT (L++[(nJ bv L x)]))),(1,none),(10,none),(11,none),(12,none),(2,none),(6,none),(7,none),(8,none),(9,none)] (zR (oLx eJ)<|zE (oMf [2,6,7])<|zE (oMf [2,6,7])<|zE (oMf [6,7,2])<|iF (B2:=[(0,some (xL bv.length 1 L false)),(1,some (xT L)),(2,some [(.refx 0 0 b0)]),(6,some (bx (jI (qK (L.getD a jz))))),(7,some (bx (jI (qK (L.getD b jz)))))]) (B2':=[(0,some (xL bv.length 18 (L++[(nJ bv L x)]) false)),(18,some (xT (L++[(nJ bv L x)])))]) [0,1,2,6,7,8,9,10,11,12,18] [0,2,6,7] (e_nodeD bv.length L b0 (L.getD a jz) (dM hLk ha) (L.getD b jz) (dM hLk hb) hn hL hz)<|zF) ?_
  refine ⟨qR (by kernel_rfl),uH (by kernel_rfl),.inl ⟨_,.nil,?_⟩⟩
  rfl
end Go.Proofs.YtckccjhflbljgaaGreatDoor
