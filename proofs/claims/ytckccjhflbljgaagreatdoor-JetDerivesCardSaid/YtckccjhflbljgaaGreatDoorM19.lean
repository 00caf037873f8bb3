/- Part 19 of a proof: rules, plain facts, and functions walked. -/
import Derived.Test.YtckccjhflbljgaaGreatDoorM18
set_option linter.all false
set_option maxRecDepth 4000
namespace Go.Proofs.YtckccjhflbljgaaGreatDoor
open List Tryz
open Go.Fid
theorem by42:zJ prog 42=some 128:=by kernel_rfl
theorem by46:zJ prog 46=some 176:=by kernel_rfl
theorem cb123:callB prog 123=true:=by kernel_rfl
theorem el88:uU prog 88=some (46,10):=by kernel_rfl
theorem fo113_0:uX prog 113 0=some 0:=by kernel_rfl
theorem fo113_1:uX prog 113 1=some 1:=by kernel_rfl
theorem fo113_3:uX prog 113 3=some 3:=by kernel_rfl
theorem pl46:eL prog 46=some [(0,8),(8,1),(9,1)]:=by kernel_rfl
theorem nF:qD prog 46=some (true,10):=by kernel_rfl
theorem sh88:qD prog 88=some (false,1):=by kernel_rfl
theorem bT:xH prog 46=some [.bool false,.slice none 0 0,.bool false,.slice none 0 0,.bool false,.slice none 0 0,.bool false,.slice none 0 0,.slice none 0 0,.slice none 0 0]:=by kernel_rfl
theorem zn46:eO [.bool false,.slice none 0 0,.bool false,.slice none 0 0,.bool false,.slice none 0 0,.bool false,.slice none 0 0,.slice none 0 0,.slice none 0 0] [.val (.bool false),.val (.slice none 0 0),.val (.bool false),.val (.slice none 0 0),.val (.bool false),.val (.slice none 0 0),.val (.bool false),.val (.slice none 0 0),.val (.slice none 0 0),.val (.slice none 0 0)]:=by simp [eO,Value.oneCell']
theorem zo46:eO [.bool false,.slice none 0 0,.bool false,.slice none 0 0,.bool false,.slice none 0 0,.bool false,.slice none 0 0,.slice none 0 0,.slice none 0 0] [.val (.bool false),.sl 107 1 [],.val (.bool false),.sl 107 1 [],.val (.bool false),.sl 107 1 [],.val (.bool false),.sl 107 1 [],.sl 42 8 [],.sl 43 1 []]:=by simp [eO,Value.oneCell']
structure NKD where
 c1:SV
 c2:SV
 c3:SV
 X:BS
 v:R2
 g:Nat->R2
 k:List Nat
 b:List bL
inductive NK (n:Nat) (L:List JV):Type
 |V (bv:List R2) (hbx:∀ x∈bv,GL 1048576 x) (a:Nat) (zz:R2) (hzz:GL 3 zz) (ha:a<bv.length) (hbl:bv.length<=1000000):NK n L
 |A (u:JV) (hu:aW 1048576 n u) (v:JV) (hv:aW 1048576 n v):NK n L
 |M (u:JV) (hu:aW 1048576 n u) (v:JV) (hv:aW 1048576 n v):NK n L
 |Q (u:JV) (hu:aW 1048576 n u) (tt:R2) (htt:GL 3 tt):NK n L
def NK.d{n:Nat}{L:List JV}:NK n L->NKD
 |.V bv hbx a zz hzz ha hbl=>⟨(.clo 129 [2,3]),(.clo 130 [3,4]),(.clo 121 [4]),[(2,some (bx (.sl 42 8 (map jG (map kF bv))))),(3,some (bx (jN (jS.mk 1 ((a:Nat):Int) 0 qX)))),(4,some (bx (jG (kF zz))))],(bv.getD a z2),(λi=>(if ((i:Nat):Int)=((a:Nat):Int) then gw 1 else zz)),[2,3],[(4,(bx (jG (kF zz))),(jY.cells (jG (kF zz)))),(3,(bx (jN (jS.mk 1 ((a:Nat):Int) 0 qX))),(jY.cells (jN (jS.mk 1 ((a:Nat):Int) 0 qX))))]⟩
 |.A u hu v hv=>⟨(.clo 124 [2,3,4]),(.clo 125 [2,3,4]),(.clo 126 [2,3,4]),[(2,some (bx (.val (.func (.func 131) #[] #[])))),(3,some (bx (jR (nI u)))),(4,some (bx (jR (nI v))))],(qE u.v v.v),(λi=>(qE (u.g.getD i z2) (v.g.getD i z2))),[2,3,4],[(4,(bx (jR (nI v))),(jY.cells (jR (nI v)))),(3,(bx (jR (nI u))),(jY.cells (jR (nI u)))),(2,(bx (.val (.func (.func 131) #[] #[]))),(jY.cells (.val (.func (.func 131) #[] #[]))))]⟩
 |.M u hu v hv=>⟨(.clo 134 [2,3]),(.clo 136 [2,3]),(.clo 137 [2,3]),[(2,some (bx (jR (nI u)))),(3,some (bx (jR (nI v))))],(kL u.v v.v),(λi=>(qE (kL u.v (v.g.getD i z2)) (kL v.v (u.g.getD i z2)))),[2,3],[(3,(bx (jR (nI v))),(jY.cells (jR (nI v)))),(2,(bx (jR (nI u))),(jY.cells (jR (nI u))))]⟩
 |.Q u hu tt htt=>⟨(.clo 138 [2]),(.clo 140 [3,2]),(.clo 141 [2,3]),[(2,some (bx (jR (nI u)))),(3,some (bx (jG (kF tt))))],(gsq u.v),(λi=>(kL tt (kL u.v (u.g.getD i z2)))),[2],[(2,(bx (jR (nI u))),(jY.cells (jR (nI u)))),(3,(bx (jG (kF tt))),(jY.cells (jG (kF tt))))]⟩
theorem NK.hv{n:Nat}{L:List JV}(K:NK n L):GL 67108864 K.d.v:=match K with
 |.V bv hbx a zz hzz ha hbl=>(kU (uH hbx (by decide) a))
 |.A u hu v hv=>(kU (gY (k:=2097153) hu.1 hv.1))
 |.M u hu v hv=>(kU (uM (k:=2097152) hu.1 hv.1))
 |.Q u hu tt htt=>(kU (gl_sq (k:=2097152) hu.1))
theorem NK.hg{n:Nat}{L:List JV}(K:NK n L)(i:Nat)(hi:i<n):GL 67108864 (K.d.g i):=match K with
 |.V bv hbx a zz hzz ha hbl=>(kU (gl_ite (gl_w (z:=1) (by omega) (by omega)) hzz))
 |.A u hu v hv=>(kU (gY (k:=2097153) (uH hu.2.1 (by decide) i) (uH hv.2.1 (by decide) i)))
 |.M u hu v hv=>(kU (gY (k:=4194305) (uM (k:=2097152) hu.1 (uH hv.2.1 (by decide) i)) (uM (k:=2097152) hv.1 (uH hu.2.1 (by decide) i))))
 |.Q u hu tt htt=>(kU (uM (k:=2097155) htt (uM (k:=2097152) hu.1 (uH hu.2.1 (by decide) i))))
theorem nk_v{n:Nat}{L:List JV}(K:NK n L){o:Oper}{S:SL}{B:BS}{y:Operand}{ats:Array TypeId}(ho:o.op=.call { callee:=.value y,args:=#[],argTypes:=ats })(hy:ev (kD S) y=K.d.c1)(hb:K.d.k.map (λk=>kC B k)=K.d.k.map (λk=>kC ([(0,some (eU n 1 L false)),(1,some (eT L))]++K.d.X) k)):RKs prog o S B K.d.k (.d (jG (kF K.d.v))):=match K with
 |.V bv hbx a zz hzz ha hbl=>oCc (ds:=[]) [2,3] [(jY.cells (.sl 42 8 (map jG (map kF bv)))),(jY.cells (jN (jS.mk 1 ((a:Nat):Int) 0 qX)))] (j_vV bv hbx a ha hbl) (cD (by decide) _) (ho:=ho) (hy:=hy) (hx:=rfl) (qM:=rfl) (hb:=hb)
 |.A u hu v hv=>oCc (ds:=[]) [2,3,4] [(jY.cells (.val (.func (.func 131) #[] #[]))),(jY.cells (jR (nI u))),(jY.cells (jR (nI v)))] (j_vAdd n u hu v hv) (cD (by decide) _) (ho:=ho) (hy:=hy) (hx:=rfl) (qM:=rfl) (hb:=hb)
 |.M u hu v hv=>oCc (ds:=[]) [2,3] [(jY.cells (jR (nI u))),(jY.cells (jR (nI v)))] (j_vM n u hu v hv) (cD (by decide) _) (ho:=ho) (hy:=hy) (hx:=rfl) (qM:=rfl) (hb:=hb)
 |.Q u hu tt htt=>oCc (ds:=[]) [2] [(jY.cells (jR (nI u)))] (j_vQ n u hu) (cD (by decide) _) (ho:=ho) (hy:=hy) (hx:=rfl) (qM:=rfl) (hb:=hb)
def nk_bl{n:Nat}{L:List JV}(K:NK n L)(gl:List jX):List bL:=K.d.b++[(6,(bx (jG (kF K.d.v))++[(.own 7 42 8 gl.length),(.own 8 43 1 0)]),(jY.cells (.agg (jY.cells (jG (kF K.d.v))++[(.sl 1000000 8 (map jG gl)),(.sl 1000000 1 (map qY []))])))),(8,(bm qY []),(qK (map qY []))),(7,(uD jG gl),(qK (map jG gl)))]
theorem nk_vb(v:R2)(gl:List jX):VBlks 1000000 [(6,(bx (jG (kF v))++[(.own 7 42 8 gl.length),(.own 8 43 1 0)]),(jY.cells (.agg (jY.cells (jG (kF v))++[(.sl 1000000 8 (map jG gl)),(.sl 1000000 1 (map qY []))])))),(8,(bm qY []),(qK (map qY []))),(7,(uD jG gl),(qK (map jG gl)))]:=(.cons (.cons .d (.cons .d (.cons .d (.cons .d (.cons .d (.cons .d (.cons .d (.cons .d (.cons (see_own (F:=jG) (L:=gl) (.tail _ (.head _)) (λ_=>rfl) rfl) (.cons (see_own (F:=qY) (L:=[]) (.head _) (λ_=>rfl) rfl) .nil)))))))))) (.cons (sees_bm (λ_=>rfl)) (.cons (.all (by exact rfl)) .nil)))
theorem nk_g{n:Nat}{L:List JV}(K:NK n L){i:Nat}(hi:i<n)(gl:List jX){o:Oper}{S:SL}{B:BS}{y:Operand}{xs:List Operand}{ats:Array TypeId}(ho:o.op=.call { callee:=.value y,args:=xs.toArray,argTypes:=ats })(hy:ev (kD S) y=K.d.c2)(hx:xs.map (ev (kD S))=[.ref 6 0,kE i])(hb:(nk_bl K gl).map (λp=>kC B p.1)=(nk_bl K gl).map (λp=>some p.2.1)):RKs prog o S B (K.d.b.map (·.1)++[6,8,7]) (.d (jG (kF (K.d.g i)))):=match K with
 |.V bv hbx a zz hzz ha hbl=>oCh (nk_bl (.V bv hbx a zz hzz ha hbl) gl) [(.ref 6 0),(kE i),.ref 3 0,.ref 4 0] (j_gV _ i a zz hzz) (.cons (.r (.tail _ (.tail _ (.head _)))) (.cons .d (.cons (.r (.tail _ (.head _))) (.cons (.r (.head _)) .nil)))) (.cons (.all rfl) (.cons (.all rfl) (nk_vb _ gl))) (cD (by decide) _) (ex:=[.ref 3 0,.ref 4 0]) (ho:=ho) (hy:=.clo (kk:=[3,4]) hy rfl) (hx:=by rw[hx];rfl) (hb:=hb)
 |.A u hu v hv=>oCh (nk_bl (.A u hu v hv) gl) [(.ref 6 0),(kE i),.ref 2 0,.ref 3 0,.ref 4 0] (j_gAdd _ i n u hu v hv (by omega)) (.cons (.r (.tail _ (.tail _ (.tail _ (.head _))))) (.cons .d (.cons (.r (.tail _ (.tail _ (.head _)))) (.cons (.r (.tail _ (.head _))) (.cons (.r (.head _)) .nil))))) (.cons (.all rfl) (.cons (.all rfl) (.cons (.all rfl) (nk_vb _ gl)))) (cD (by decide) _) (ex:=[.ref 2 0,.ref 3 0,.ref 4 0]) (ho:=ho) (hy:=.clo (kk:=[2,3,4]) hy rfl) (hx:=by rw[hx];rfl) (hb:=hb)
 |.M u hu v hv=>oCh (nk_bl (.M u hu v hv) gl) [(.ref 6 0),(kE i),.ref 2 0,.ref 3 0] (j_gM _ i n u hu v hv (by omega)) (.cons (.r (.tail _ (.tail _ (.head _)))) (.cons .d (.cons (.r (.tail _ (.head _))) (.cons (.r (.head _)) .nil)))) (.cons (.all rfl) (.cons (.all rfl) (nk_vb _ gl))) (cD (by decide) _) (ex:=[.ref 2 0,.ref 3 0]) (ho:=ho) (hy:=.clo (kk:=[2,3]) hy rfl) (hx:=by rw[hx];rfl) (hb:=hb)
 |.Q u hu tt htt=>oCh (nk_bl (.Q u hu tt htt) gl) [(.ref 6 0),(kE i),.ref 3 0,.ref 2 0] (j_gQ _ i tt htt n u hu (by omega)) (.cons (.r (.tail _ (.tail _ (.head _)))) (.cons .d (.cons (.r (.tail _ (.head _))) (.cons (.r (.head _)) .nil)))) (.cons (.all rfl) (.cons (.all rfl) (nk_vb _ gl))) (cD (by decide) _) (ex:=[.ref 3 0,.ref 2 0]) (ho:=ho) (hy:=.clo (kk:=[3,2]) hy rfl) (hx:=by rw[hx];rfl) (hb:=hb)
set_option maxHeartbeats 4000000 in
theorem e_nodeK(n:Nat)(L:List JV)(K0:NK n L)(hn:n<=64)(hL:L.length<=1000):let K:=K0;yG prog 123 [(.ref 0 0),K.d.c1,K.d.c2,K.d.c3] ([(0,some (eU n 1 L false)),(1,some (eT L))]++K.d.X) (.d (.tup [])) [(0,some (eU n 10 (L++[(jk K.d.v (λi=>(K.d.g i)) n)]) false)),(10,some (eT (L++[(jk K.d.v (λi=>(K.d.g i)) n)])))]:=by
 cases K0
 all_goals
  intro K
  refine gW func123 rfl cb123 rfl ?_
  show eM _ _ _ _ ⟨[(0,(.ref 0 0)),(1,K.d.c1),(2,K.d.c2),(3,K.d.c3)],([(0,some (eU n 1 L false)),(1,some (eT L))]++K.d.X)⟩
  refine jB<|kx [(8,(.ref 6 0))] [(6,some (bx (.agg (jY.cells (jG (kF K.d.v))++[(.val (.slice none 0 0)),(.val (.slice none 0 0))]))))] (zM<|zM<|zC (nk_v K (by exact rfl) (by kernel_rfl) (by kernel_rfl))<|zC (oCh [(0,(eU n 1 L false),(jY.cells (mcA n (.sl 1000000 10 (map jR (map nI L))) false))),(1,(eT L),(qK (map jR (map nI L))))] [(.ref 0 0),(.d (jG (kF K.d.v)))] (j_round n (.sl 1000000 10 (map jR (map nI L))) K.d.v K.hv) (.cons (.r (.head _)) (.cons .d .nil)) (.cons (.cons .d (.cons .d (.cons .d (.cons (see_own (F:=jR) (L:=(map nI L)) (.head _) (λ_=>rfl) rfl) (.cons .d .nil))))) (.cons (.all (by exact rfl)) .nil)) (cD (by decide) _) (ex:=[]))<|zE (iS pl46 bT zn46)<|zH (vB 6 bT zo46)<|zT (qL nF)<|zZ) ?_
  refine jB<|jB<|kx [(22,(vb true))] [] (zM<|zE oNc<|zE (kK fo113_1)<|zR (qH uN)<|zE (nA true eR)<|zZ) ?_
  refine yP ?_
  refine jB<|lP 6 8 7 42 8 (cs:=(bx (.agg (jY.cells (jG (kF K.d.v))++[(.val (.slice none 0 0)),(.val (.slice none 0 0))])))) (h:=?_)
  refine kS (wk (l:=[(0,(.ref 0 0)),(1,K.d.c1),(2,K.d.c2),(3,K.d.c3),(8,(.ref 6 0)),(22,(vb true))]) (b:=([(0,some (eU n 1 L false)),(1,some (eT L)),(6,some (bx (jG (kF K.d.v))++[(.own 7 42 8 0),(.d (.val (.slice none 0 0)))])),(7,some (uD jG []))]++K.d.X))) ?_
  refine lP 6 9 8 43 1 (cs:=(bx (jG (kF K.d.v))++[(.own 7 42 8 0),(.d (.val (.slice none 0 0)))])) (h:=?_)
  refine kS (wk (l:=[(0,(.ref 0 0)),(1,K.d.c1),(2,K.d.c2),(3,K.d.c3),(8,(.ref 6 0)),(22,(vb true))]) (b:=([(0,some (eU n 1 L false)),(1,some (eT L)),(6,some (bx (jG (kF K.d.v))++[(.own 7 42 8 0),(.own 8 43 1 0)])),(7,some (uD jG [])),(8,some (bm qY []))]++K.d.X))) ?_
  refine kx [(26,(kE n)),(27,(kE 0))] [] (zM<|zE oNc<|zE (kK fo113_0)<|zR (qH uN)<|zM<|zZ) ?_
  refine jH<|kR (α:=Nat × List jX) (λ(i,gl)=>⟨[(0,(.ref 0 0)),(1,K.d.c1),(2,K.d.c2),(3,K.d.c3),(8,(.ref 6 0)),(26,(kE n)),(27,(kE i))],([(0,some (eU n 1 L false)),(1,some (eT L)),(6,some (bx (jG (kF K.d.v))++[(.own 7 42 8 gl.length),(.own 8 43 1 0)])),(7,some (uD jG gl)),(8,some (bm qY []))]++K.d.X)⟩) (λ(i,gl)=>i<=n/\gl=map kF (map (λ(i:Nat)=>(K.d.g i)) (range i))) (λ(i,gl)=>n-i) (0,[]) wk ⟨Nat.zero_le _,rfl⟩ ?_
  rintro ⟨i,gl⟩ ⟨hi,hg⟩
  have hgl:gl.length=i:=jk_len (G:=(λ(i:Nat)=>(K.d.g i))) hg
  refine jB<|kx [(28,(vb (decide (((i:Nat):Int)<((n:Nat):Int)))))] [] (zE gX<|zZ) ?_
  refine jB<|jD rfl (λh1=>?_) (λh1=>?_)
  ·replace h1:=vF h1
   refine jF<|jB<|jH<|jB<|kx [(9,(kE i))] [] (zM<|zM<|zZ) ?_
   refine kd [] [(6,some (bx (jG (kF K.d.v))++[(.own 9 42 8 ((gl++[(kF (K.d.g i))]).length)),(.own 8 43 1 0)])),(9,some (uD jG (gl++[(kF (K.d.g i))]))),(7,none)] mo (wE (kK vS)<|wR (qH mE)<|wM<|wM<|wM<|wC (nk_g K (Int.ofNat_lt.1 h1) gl (by exact rfl) (by kernel_rfl) (by kernel_rfl) (by kernel_rfl))<|wC (oCh [(0,(eU n 1 L false),(jY.cells (mcA n (.sl 1000000 10 (map jR (map nI L))) false))),(1,(eT L),(qK (map jR (map nI L))))] [(.ref 0 0),(.d (jG (kF (K.d.g i))))] (j_round n (.sl 1000000 10 (map jR (map nI L))) (K.d.g i) (K.hg i (by omega))) (.cons (.r (.head _)) (.cons .d .nil)) (.cons (.cons .d (.cons .d (.cons .d (.cons (see_own (F:=jR) (L:=(map nI L)) (.head _) (λ_=>rfl) rfl) (.cons .d .nil))))) (.cons (.all (by exact rfl)) .nil)) (cD (by decide) _) (ex:=[]))<|wE (fC xK uQ uV)<|wAS (k:=7) 9 jG gl [(kF (K.d.g i))] rfl xK uQ by42<|wE (kK vS)<|wT (oSx mE)<|wZ) ?_
   refine kS (wk (l:=[(0,(.ref 0 0)),(1,K.d.c1),(2,K.d.c2),(3,K.d.c3),(8,(.ref 6 0)),(26,(kE n)),(27,(kE i))]) (b:=([(0,some (eU n 1 L false)),(1,some (eT L)),(6,some (bx (jG (kF K.d.v))++[(.own 9 42 8 ((gl++[(kF (K.d.g i))]).length)),(.own 8 43 1 0)])),(8,some (bm qY [])),(9,some (uD jG (gl++[(kF (K.d.g i))])))]++K.d.X))) ?_
   refine kS (sim_ren2 (S':=[(0,(.ref 0 0)),(1,K.d.c1),(2,K.d.c2),(3,K.d.c3),(8,(.ref 6 0)),(26,(kE n)),(27,(kE i))]) (B':=([(0,some (eU n 1 L false)),(1,some (eT L)),(6,some (bx (jG (kF K.d.v))++[(.own 7 42 8 ((gl++[(kF (K.d.g i))]).length)),(.own 8 43 1 0)])),(7,some (uD jG (gl++[(kF (K.d.g i))]))),(8,some (bm qY []))]++K.d.X)) 7 9 6) ?_
   refine kx [(27,(kE (i+1)))] [] (zE (xO (i+1))<|zM<|zZ) ?_
   exact ⟨(i+1,gl++[kF (K.d.g i)]),wk,⟨by omega,jk_push (G:=(λ(i:Nat)=>(K.d.g i))) hg⟩,(by first|omega|(dsimp only;omega))⟩
  ·replace h1:=vT h1
   refine kO<|jB<|jB<|kx [(45,(vb false))] [] (zM<|zE oNc<|zE (kK fo113_1)<|zR (qH uN)<|zE (nA false eR)<|zZ) ?_
   refine uI ?_
   refine jF<|kS (bX (j:=6) (k:=7) (pre:=(bx (jG (kF K.d.v)))) (post:=[(.own 8 43 1 0)]) (es:=map jG gl) rfl (by decide) rfl (gO _ _ (λ_=>rfl)) (vK _ _ rfl) (mA jG gl (λ_=>rfl) rfl)) ?_
   refine kS (wk (l:=[(0,(.ref 0 0)),(1,K.d.c1),(2,K.d.c2),(3,K.d.c3),(8,(.ref 6 0)),(45,(vb false))]) (b:=([(0,some (eU n 1 L false)),(1,some (eT L)),(6,some (bx (jG (kF K.d.v))++[(vl 42 8 jG gl),(.own 8 43 1 0)])),(8,some (bm qY []))]++K.d.X))) ?_
   refine kS (bX (j:=6) (k:=8) (pre:=(bx (jG (kF K.d.v))++[(vl 42 8 jG gl)])) (post:=[]) (es:=map qY []) rfl (by decide) rfl (vX _ _ (λ_=>rfl)) (vK _ _ rfl) (xV _ _ (λ_=>rfl) rfl)) ?_
   refine kS (wk (l:=[(0,(.ref 0 0)),(1,K.d.c1),(2,K.d.c2),(3,K.d.c3),(8,(.ref 6 0)),(45,(vb false))]) (b:=([(0,some (eU n 1 L false)),(1,some (eT L)),(6,some (bx (jR (xS.mk (kF K.d.v) gl []))))]++K.d.X))) ?_
   refine kd [] [(0,some [(kE n),(kE 1),(vi (-1)),(.own 10 46 10 (((map nI L)++[(xS.mk (kF K.d.v) gl [])]).length)),(vb false)]),(10,some (uD jR ((map nI L)++[(xS.mk (kF K.d.v) gl [])]))),(1,none)] mo (wM<|wM<|wE oNc<|wE (kK fo113_3)<|wR (qH sh88)<|wR (kP nF)<|wE (fC el88 bT zo46)<|wAS (k:=1) 10 jR (map nI L) [(xS.mk (kF K.d.v) gl [])] rfl el88 bT by46<|wE oNc<|wE (kK fo113_3)<|wT (oSx sh88)<|wZ) ?_
   have hJ:map nI (L++[(jk K.d.v (λi=>(K.d.g i)) n)])=map nI L++[xS.mk (kF K.d.v) gl []]:=by rw[map_append,hg,show i=n by omega];rfl
   unfold eU eT
   rw[hJ]
   refine ⟨vR (by kernel_rfl),xX (by kernel_rfl),.inl ⟨_,.nil,?_⟩⟩
   rfl
theorem e_nodeV(n:Nat)(L:List JV)(bv:List R2)(hbx:∀ x∈bv,GL 1048576 x)(a:Nat)(zz:R2)(hzz:GL 3 zz)(hn:n<=64)(hL:L.length<=1000)(ha:a<bv.length)(hbl:bv.length<=1000000):yG prog 123 [(.ref 0 0),(.clo 129 [2,3]),(.clo 130 [3,4]),(.clo 121 [4])] [(0,some (eU n 1 L false)),(1,some (eT L)),(2,some (bx (.sl 42 8 (map jG (map kF bv))))),(3,some (bx (jN (jS.mk 1 ((a:Nat):Int) 0 qX)))),(4,some (bx (jG (kF zz))))] (.d (.tup [])) [(0,some (eU n 10 (L++[(jk (bv.getD a z2) (λi=>(if ((i:Nat):Int)=((a:Nat):Int) then gw 1 else zz)) n)]) false)),(10,some (eT (L++[(jk (bv.getD a z2) (λi=>(if ((i:Nat):Int)=((a:Nat):Int) then gw 1 else zz)) n)])))]:=e_nodeK n L (.V bv hbx a zz hzz ha hbl) hn hL
theorem e_nodeA(n:Nat)(L:List JV)(u:JV)(hu:aW 1048576 n u)(v:JV)(hv:aW 1048576 n v)(hn:n<=64)(hL:L.length<=1000):yG prog 123 [(.ref 0 0),(.clo 124 [2,3,4]),(.clo 125 [2,3,4]),(.clo 126 [2,3,4])] [(0,some (eU n 1 L false)),(1,some (eT L)),(2,some (bx (.val (.func (.func 131) #[] #[])))),(3,some (bx (jR (nI u)))),(4,some (bx (jR (nI v))))] (.d (.tup [])) [(0,some (eU n 10 (L++[(jk (qE u.v v.v) (λi=>(qE (u.g.getD i z2) (v.g.getD i z2))) n)]) false)),(10,some (eT (L++[(jk (qE u.v v.v) (λi=>(qE (u.g.getD i z2) (v.g.getD i z2))) n)])))]:=e_nodeK n L (.A u hu v hv) hn hL
theorem e_nodeM(n:Nat)(L:List JV)(u:JV)(hu:aW 1048576 n u)(v:JV)(hv:aW 1048576 n v)(hn:n<=64)(hL:L.length<=1000):yG prog 123 [(.ref 0 0),(.clo 134 [2,3]),(.clo 136 [2,3]),(.clo 137 [2,3])] [(0,some (eU n 1 L false)),(1,some (eT L)),(2,some (bx (jR (nI u)))),(3,some (bx (jR (nI v))))] (.d (.tup [])) [(0,some (eU n 10 (L++[(jk (kL u.v v.v) (λi=>(qE (kL u.v (v.g.getD i z2)) (kL v.v (u.g.getD i z2)))) n)]) false)),(10,some (eT (L++[(jk (kL u.v v.v) (λi=>(qE (kL u.v (v.g.getD i z2)) (kL v.v (u.g.getD i z2)))) n)])))]:=e_nodeK n L (.M u hu v hv) hn hL
theorem e_nodeQ(n:Nat)(L:List JV)(u:JV)(hu:aW 1048576 n u)(tt:R2)(htt:GL 3 tt)(hn:n<=64)(hL:L.length<=1000):yG prog 123 [(.ref 0 0),(.clo 138 [2]),(.clo 140 [3,2]),(.clo 141 [2,3])] [(0,some (eU n 1 L false)),(1,some (eT L)),(2,some (bx (jR (nI u)))),(3,some (bx (jG (kF tt))))] (.d (.tup [])) [(0,some (eU n 10 (L++[(jk (gsq u.v) (λi=>(kL tt (kL u.v (u.g.getD i z2)))) n)]) false)),(10,some (eT (L++[(jk (gsq u.v) (λi=>(kL tt (kL u.v (u.g.getD i z2)))) n)])))]:=e_nodeK n L (.Q u hu tt htt) hn hL
theorem cb122:callB prog 122=true:=by kernel_rfl
theorem sh111:qD prog 111=some (false,1):=by kernel_rfl
theorem e_linA(n:Nat)(L:List JV)(bb:Nat)(u:JV)(hu:aW 1048576 n u)(v:JV)(hv:aW 1048576 n v)(hn:n<=64)(hL:L.length<=1000):yG prog 122 [(.d (.val (.func (.func 131) #[] #[]))),(.ref 2 0),(.ref 3 0),(.ref 4 0)] [(0,some (eU n 1 L false)),(1,some (eT L)),(2,some [(.refx 0 0 bb)]),(3,some (bx (jR (nI u)))),(4,some (bx (jR (nI v))))] (.d (.tup [])) [(0,some (eU n 11 (L++[(jk (qE u.v v.v) (λi=>(qE (u.g.getD i z2) (v.g.getD i z2))) n)]) false)),(11,some (eT (L++[(jk (qE u.v v.v) (λi=>(qE (u.g.getD i z2) (v.g.getD i z2))) n)]))),(2,some [(.refx 0 0 bb)])]:=by
 refine gW func122 rfl cb122 rfl ?_
 refine jB<|kx [(4,(.ref 5 0))] [(5,some (bx (.val (.func (.func 131) #[] #[]))))] (zH (xD 5)<|zZ) ?_
 refine kf [] [(0,some (eU n 11 (L++[(jk (qE u.v v.v) (λi=>(qE (u.g.getD i z2) (v.g.getD i z2))) n)]) false)),(11,some (eT (L++[(jk (qE u.v v.v) (λi=>(qE (u.g.getD i z2) (v.g.getD i z2))) n)]))),(1,none),(10,none),(3,none),(4,none),(5,none),(6,none),(7,none),(8,none),(9,none)] (zR (oLx sh111)<|zE (oMf [5,3,4])<|zE (oMf [5,3,4])<|zE (oMf [5,3,4])<|zSe (B2:=[(0,some (eU n 1 L false)),(1,some (eT L)),(5,some (bx (.val (.func (.func 131) #[] #[])))),(3,some (bx (jR (nI u)))),(4,some (bx (jR (nI v))))]) (B2':=[(0,some (eU n 11 (L++[(jk (qE u.v v.v) (λi=>(qE (u.g.getD i z2) (v.g.getD i z2))) n)]) false)),(11,some (eT (L++[(jk (qE u.v v.v) (λi=>(qE (u.g.getD i z2) (v.g.getD i z2))) n)])))]) [0,1,5,3,4,6,7,8,9,10,11] [0,5,3,4] (e_nodeA n L u hu v hv hn hL)<|zF) ?_
 refine ⟨vR (by kernel_rfl),xX (by kernel_rfl),.inl ⟨_,.nil,?_⟩⟩
 rfl
theorem cb77:callB prog 77=true:=by kernel_rfl
def okOp(x:jS):Prop:=x.op=1\/x.op=2\/x.op=4\/x.op=7
set_option maxHeartbeats 4000000 in
theorem e_stepN0(x0:jS)(bv:List R2)(hbx:∀ x∈bv,GL 1048576 x)(L:List JV)(hn:bv.length<=64)(hL:L.length<=1000)(hLk:∀ y∈L,aW 1048576 bv.length y)(hx:eY bv.length L x0)(hop:okOp x0):let x:=x0;yG prog 77 [(.ref 0 0),(.d (jN x)),(vl 42 8 jG (map kF bv))] [(0,some (eU bv.length 1 (L) false)),(1,some (eT (L)))] (.d (.tup [])) [(0,some (eU bv.length 18 (L++[nJ bv L x]) false)),(18,some (eT (L++[nJ bv L x])))]:=by
 rcases hx with @⟨p,hp⟩ | @⟨a,ha⟩ | @⟨a,b,ha,hb⟩ | @⟨a,b,ha,hb⟩ | @⟨a,b,ha,hb⟩ | @⟨a,b,ha,hb,hz⟩ | @⟨a,ha⟩ | @⟨a,ha⟩
 all_goals try (exfalso;revert hop;unfold okOp;dsimp only;omega)
 all_goals
  intro x
  refine gW func77 rfl cb77 rfl ?_
  refine jB<|kx [(3,(.ref 2 0)),(4,(.ref 3 0)),(5,(.ref 4 0))] [(2,some [(.ref 0 0)]),(3,some (bx (jN x))),(4,some (bx (.sl 42 8 (map jG (map kF bv)))))] (zH (oBy 2)<|zH (xD 3)<|zH (xD 4)<|zZ) ?_
  refine jB<|pwp_fix 2 (k:=0) (o:=0) (h:=λb0=>?_)
  refine kS (wk (l:=[(0,(.ref 0 0)),(3,(.ref 2 0)),(4,(.ref 3 0)),(5,(.ref 4 0))]) (b:=[(0,some (eU bv.length 1 L false)),(1,some (eT L)),(2,some [(.refx 0 0 b0)]),(3,some (bx (jN x))),(4,some (bx (.sl 42 8 (map jG (map kF bv)))))])) ?_
  refine kx [(6,(.ref 5 0))] [(5,some (bx (jG (kF (gw 0)))))] (zE (kB (j_whole ((0:Nat):Int) (by omega) (by omega)))<|zH (vB 5 uQ uV)<|zT (qL jW)<|zZ) ?_
  refine jB<|kx [(7,(.clo 121 [5]))] [] (zE (oMf [5])<|zM<|zZ) ?_
  refine jB<|kx [(8,(.ref 6 0)),(9,(.ref 7 0))] [(6,some (bx (jR (xS.mk (jX.mk qX qX) [] [])))),(7,some (bx (jR (xS.mk (jX.mk qX qX) [] []))))] (zH (vB 6 bT zo46)<|zH (vB 7 bT zo46)<|zZ) ?_
  refine jB<|kx [(10,(vi (qB x.op)))] [] (zE (kK xN)<|zR (qH cN)<|zE (kB (j_kids x.op))<|zM<|zZ) ?_
  refine jB<|jB ?_
  first
   |(refine kx [(19,(vb true))] [] (zM<|zE (nA true eR (e:=rfl))<|zZ) ?_;refine yP ?_;refine kd [] [(6,some (bx (jR (nI (L.getD a jz)))))] mo (wR (oLx sh111)<|wE oNc<|wE (kK fo113_3)<|wR (qH sh88)<|wE (kK qN)<|wR (qH uN)<|wE (oXO el88 a (hj:=by first | omega | rfl | (simp only[length_map];omega) | (dsimp only;omega)) (h1:=by first | omega | rfl | (simp only[length_map];omega) | (dsimp only;omega)))<|wR (yN (jR ((map nI L).getD a (xS.mk (jX.mk qX qX) [] []))) (jR (nI (L.getD a jz))) (oLA nF a (xS.mk (jX.mk qX qX) [] []) (h1:=by first | omega | rfl | (simp only[length_map];omega) | (dsimp only;omega))) (by exact (congrArg jR (bZ nI L jz _ (by omega)))))<|wT (qL nF)<|wZ) ?_)
   |(refine kx [(19,(vb false))] [] (zM<|zE (nA false eR (e:=rfl))<|zZ) ?_;refine uI ?_;refine jF ?_)
  refine jB<|jB ?_
  first
   |(refine kx [(29,(vb true))] [] (zM<|zE (nA true eR (e:=rfl))<|zZ) ?_;refine yP ?_;refine kd [] [(7,some (bx (jR (nI (L.getD b jz)))))] mo (wR (oLx sh111)<|wE oNc<|wE (kK fo113_3)<|wR (qH sh88)<|wE (kK vE)<|wR (qH uN)<|wE (oXO el88 b (hj:=by first | omega | rfl | (simp only[length_map];omega) | (dsimp only;omega)) (h1:=by first | omega | rfl | (simp only[length_map];omega) | (dsimp only;omega)))<|wR (yN (jR ((map nI L).getD b (xS.mk (jX.mk qX qX) [] []))) (jR (nI (L.getD b jz))) (oLA nF b (xS.mk (jX.mk qX qX) [] []) (h1:=by first | omega | rfl | (simp only[length_map];omega) | (dsimp only;omega))) (by exact (congrArg jR (bZ nI L jz _ (by omega)))))<|wT (qL nF)<|wZ) ?_)
   |(refine kx [(29,(vb false))] [] (zM<|zE (nA false eR (e:=rfl))<|zZ) ?_;refine uI ?_;refine jF ?_)
  refine jB<|kx [(11,(.clo 122 [2,6,7]))] [] (zE (oMf [2,6,7])<|zM<|zZ) ?_
  refine jB<|kx [(40,(vi x.op))] [] (zE (kK xN)<|zR (qH cN)<|zZ) ?_
  refine jH ?_
 all_goals refine jB ?_
 all_goals
  refine kx [(46,(vb false))] [] (zE (nA false xL (e:=rfl))<|zM<|zZ) ?_
  refine uI ?_
 all_goals refine jB ?_
 ·refine kx [(53,(vb true))] [] (zE (nA true xL (e:=rfl))<|zM<|zZ) ?_
  refine yP ?_
  refine kf [] [(0,some (eU bv.length 18 (L++[(nJ bv L x)]) false)),(18,some (eT (L++[(nJ bv L x)]))),(1,none),(10,none),(11,none),(12,none),(3,none),(4,none),(5,none),(8,none),(9,none)] (zR (oLx sh111)<|zE (oMf [4,3])<|zE (oMf [3,5])<|zM<|zSe (B2:=[(0,some (eU bv.length 1 L false)),(1,some (eT L)),(4,some (bx (.sl 42 8 (map jG (map kF bv))))),(3,some (bx (jN x))),(5,some (bx (jG (kF (gw 0)))))]) (B2':=[(0,some (eU bv.length 18 (L++[(nJ bv L x)]) false)),(18,some (eT (L++[(nJ bv L x)])))]) [0,1,4,3,5,8,9,10,11,12,18] [0,4,3,5] (e_nodeV bv.length L bv hbx a (gw 0) (gl_w (z:=0) (by omega) (by omega)) hn hL ha (by omega))<|zF) ?_
  refine ⟨vR (by kernel_rfl),xX (by kernel_rfl),.inl ⟨_,.nil,?_⟩⟩
  rfl
 all_goals
  refine kx [(53,(vb false))] [] (zE (nA false xL (e:=rfl))<|zM<|zZ) ?_
  refine uI ?_
 all_goals refine jB ?_
 ·refine kx [(60,(vb true))] [] (zE (nA true xL (e:=rfl))<|zM<|zZ) ?_
  refine yP ?_
  refine kf [] [(0,some (eU bv.length 18 (L++[(nJ bv L x)]) false)),(18,some (eT (L++[(nJ bv L x)]))),(1,none),(10,none),(11,none),(12,none),(13,none),(2,none),(6,none),(7,none),(8,none),(9,none)] (zM<|zSe (B2:=[(0,some (eU bv.length 1 L false)),(1,some (eT L)),(2,some [(.refx 0 0 b0)]),(6,some (bx (jR (nI (L.getD a jz))))),(7,some (bx (jR (nI (L.getD b jz)))))]) (B2':=[(0,some (eU bv.length 18 (L++[(nJ bv L x)]) false)),(18,some (eT (L++[(nJ bv L x)]))),(2,some [(.refx 0 0 b0)])]) [0,1,2,6,7,8,9,10,11,12,13,18] [2,6,7,0] (e_linA bv.length L b0 (L.getD a jz) (jok_at hLk ha) (L.getD b jz) (jok_at hLk hb) hn hL) (G:=[0]) (hG:=by exact (.cons (k:=0) (q:=2) (o:=0) (b:=b0) (j:=0) (by kernel_rfl) (by kernel_rfl) (by kernel_rfl) .nil)) (ex:=[.ref 2 0,.ref 6 0,.ref 7 0]) (hy:=.clo (kk:=[2,6,7]) (by kernel_rfl) (by kernel_rfl))<|zF) ?_
  refine ⟨vR (by kernel_rfl),xX (by kernel_rfl),.inl ⟨_,.nil,?_⟩⟩
  rfl
 all_goals
  refine kx [(60,(vb false))] [] (zE (nA false xL (e:=rfl))<|zM<|zZ) ?_
  refine uI ?_
 all_goals refine jB ?_
 all_goals
  refine kx [(64,(vb false))] [] (zE (nA false xL (e:=rfl))<|zM<|zZ) ?_
  refine uI ?_
 all_goals refine jB ?_
 all_goals
  refine kx [(68,(vb false))] [] (zE (nA false xL (e:=rfl))<|zM<|zZ) ?_
  refine uI ?_
 all_goals refine jB ?_
 ·refine kx [(74,(vb true))] [] (zE (nA true xL (e:=rfl))<|zM<|zZ) ?_
  refine yP ?_
  refine kf [] [(0,some (eU bv.length 18 (L++[(nJ bv L x)]) false)),(18,some (eT (L++[(nJ bv L x)]))),(1,none),(10,none),(11,none),(12,none),(13,none),(6,none),(7,none),(8,none),(9,none)] (zR (oLx sh111)<|zE (oMf [6,7])<|zE (oMf [6,7])<|zE (oMf [6,7])<|zSe (B2:=[(0,some (eU bv.length 1 L false)),(1,some (eT L)),(6,some (bx (jR (nI (L.getD a jz))))),(7,some (bx (jR (nI (L.getD b jz)))))]) (B2':=[(0,some (eU bv.length 18 (L++[(nJ bv L x)]) false)),(18,some (eT (L++[(nJ bv L x)])))]) [0,1,6,7,8,9,10,11,12,13,18] [0,6,7] (e_nodeM bv.length L (L.getD a jz) (jok_at hLk ha) (L.getD b jz) (jok_at hLk hb) hn hL)<|zF) ?_
  refine ⟨vR (by kernel_rfl),xX (by kernel_rfl),.inl ⟨_,.nil,?_⟩⟩
  rfl
 all_goals
  refine kx [(74,(vb false))] [] (zE (nA false xL (e:=rfl))<|zM<|zZ) ?_
  refine uI ?_
 all_goals refine jB ?_
 ·refine kx [(81,(vb true))] [] (zE (nA true xL (e:=rfl))<|zM<|zZ) ?_
  refine yP ?_
  refine jB<|kx [(12,(.ref 8 0))] [(8,some (bx (jG (kF (gw 2)))))] (zE (kB (j_whole ((2:Nat):Int) (by omega) (by omega)))<|zH (vB 8 uQ uV)<|zT (qL jW)<|zZ) ?_
  refine kf [] [(0,some (eU bv.length 18 (L++[(nJ bv L x)]) false)),(18,some (eT (L++[(nJ bv L x)]))),(1,none),(10,none),(11,none),(12,none),(13,none),(14,none),(6,none),(8,none),(9,none)] (zR (oLx sh111)<|zE (oMf [6])<|zE (oMf [8,6])<|zE (oMf [6,8])<|zSe (B2:=[(0,some (eU bv.length 1 L false)),(1,some (eT L)),(6,some (bx (jR (nI (L.getD a jz))))),(8,some (bx (jG (kF (gw 2)))))]) (B2':=[(0,some (eU bv.length 18 (L++[(nJ bv L x)]) false)),(18,some (eT (L++[(nJ bv L x)])))]) [0,1,6,8,9,10,11,12,13,14,18] [0,6,8] (e_nodeQ bv.length L (L.getD a jz) (jok_at hLk ha) (gw 2) (gl_w (z:=2) (by omega) (by omega)) hn hL)<|zF) ?_
  refine ⟨vR (by kernel_rfl),xX (by kernel_rfl),.inl ⟨_,.nil,?_⟩⟩
  rfl
theorem j_sizes(t:List jS)(ht:gR 1048576 t)(z:Int):jP prog 80 [(.sl 72 7 (map jN t)),(.val (.int .i64 (z)))] (.tup [(.sl 3 1 (map jL (tmL z t))),(.val (.int .i64 ((((yT z t):Nat):Int))))]):=by
 refine vD func80 ?_
 refine jB<|kx [] [] (zE (aN 3 1)<|zM<|zZ) ?_
 refine jB<|jB<|kx [(15,(vb (decide (z<0)||decide (64<z))))] [] ?_ ?_
 ·refine zM<|zE gX<|zE (oV (vb (decide (z<0))) (qA (by kernel_rfl)))<|?_
  rcases hb1:(decide (z<0)) with _ | _
  ·replace hb1:=vT hb1
   exact zM<|zE eR<|zE aK<|zZ
  ·replace hb1:=vF hb1
   exact zK<|zK<|zE nO<|zZ
 refine jD (b:=(decide (z<0)||decide (64<z))) rfl (λh2=>?_) (λh2=>?_)
 ·refine jB<|kx [(4,(vl 3 1 jL [])),(5,(kE 2))] [] (zE (aN 3 1)<|zM<|zZ) ?_
  refine jE ⟨_,(.tmp (d:=(.sl 3 1 (map jL []))) rfl (.tmp (d:=(.val (.int .i64 (2)))) rfl .nil)),?_⟩
  have he:=zb_t (t:=t) h2
  rw[he.1,he.2];rfl
 ·have hz0:=h2
  refine jF<|jB<|jB<|kx [(18,(vb (((t.length:Nat):Int) == 0)))] [] (zM<|zE (yA zY)<|zE xL<|zZ) ?_
  refine jD (b:=(((t.length:Nat):Int) == 0)) rfl (λh3=>?_) (λh3=>?_)
  ·replace h3:=eq_of_beq h3
   refine jB<|kx [(4,(vl 3 1 jL [])),(5,(kE 1))] [] (zE (aN 3 1)<|zM<|zZ) ?_
   refine jE ⟨_,(.tmp (d:=(.sl 3 1 (map jL []))) rfl (.tmp (d:=(.val (.int .i64 (1)))) rfl .nil)),?_⟩
   have he:=tm_l0 hz0 (show t.length=0 by omega)
   rw[he.1,he.2];rfl
  ·replace h3:=ne_of_beq_false h3
   have h0:=h3
   refine jF<|jB<|jB<|kx [(21,(vb (decide (400<((t.length:Nat):Int)))))] [] (zM<|zE (yA zY)<|zE eR<|zZ) ?_
   refine jD (b:=decide (400<((t.length:Nat):Int))) rfl (λh4=>?_) (λh4=>?_)
   ·replace h4:=vF h4
    refine jB<|kx [(4,(vl 3 1 jL [])),(5,(kE 3))] [] (zE (aN 3 1)<|zM<|zZ) ?_
    refine jE ⟨_,(.tmp (d:=(.sl 3 1 (map jL []))) rfl (.tmp (d:=(.val (.int .i64 (3)))) rfl .nil)),?_⟩
    have he:=tm_lb hz0 (show 400<t.length by omega)
    rw[he.1,he.2];rfl
   ·replace h4:=vT h4
    have h400:=h4
    refine jF<|jB<|kx [(6,(.own 0 3 1 t.length))] [(0,some (bm jL (replicate t.length 0)))] (zM<|zE (yA zY)<|zN (oMk 0 jL (0:Int) t.length t.length uR ze3 zo3 by3)<|zM<|zZ) ?_
    refine jB<|jB<|kx [(25,(vl 72 7 jN t)),(26,(kE t.length)),(27,(kE 0))] [] (zM<|zE (yA zY)<|zM<|zZ) ?_
    refine jH<|kR (α:=Nat × List Int) (λ(k,o)=>⟨[(1,(vi z)),(6,(.own 0 3 1 t.length)),(25,(vl 72 7 jN t)),(26,(kE t.length)),(27,(kE k))],[(0,some (bm jL o))]⟩) (λ(k,o)=>k<=t.length/\szI t k o/\bN z t k) (λ(k,o)=>t.length-k) (0,replicate t.length 0) wk ⟨Nat.zero_le _,szI_0,szUp_0 _ _⟩ ?_
    rintro ⟨k,o⟩ ⟨hk,ho,hu⟩
    have qM:=ho.1
    refine jB<|kx [(28,(vb (decide (((k:Nat):Int)<((t.length:Nat):Int)))))] [] (zE gX<|zZ) ?_
    refine jB<|jD rfl (λh5=>?_) (λh5=>?_)
    ·replace h5:=vF h5
     have hR:=tmr hz0 h5 h400 hu
     have hkl:=hR.kl
     refine jF<|jB<|jH<|jB<|kx [(7,(kE k)),(8,(.ref 1 0))] [(1,some (bx (jN (t.getD k tz))))] (zM<|zE (cB zY k (tz:jS))<|zE (mR cT)<|zH (vB 1 dW fZ)<|zM<|zT (qL cT)<|zZ) ?_
     refine jB<|kx [(9,(vi (qB ((t.getD k tz).op))))] [] (zE (kK xN)<|zR (qH cN)<|zE (kB (j_kids ((t.getD k tz).op)))<|zM<|zZ) ?_
     refine jB<|jB<|kx [(72,(vb (((decide ((qB ((t.getD k tz).op))<0)||(decide ((qB ((t.getD k tz).op))<2)&&((t.getD k tz).b != 0)))||(((t.getD k tz).op == 0)&&(((t.getD k tz).a != 0)||!(kT ((t.getD k tz).n)))))||(((t.getD k tz).op != 0)&&!(unsB ((t.getD k tz).n))))))] [] ?_ ?_
     ·refine zM<|zE gX<|zE (oV (vb (decide ((qB ((t.getD k tz).op))<0))) (qA (by kernel_rfl)))<|?_
      rcases hb6:(decide ((qB ((t.getD k tz).op))<0)) with _ | _
      ·replace hb6:=vT hb6
       refine zM<|zE gX<|zE (oV (vb (decide ((qB ((t.getD k tz).op))<2))) (qA (by kernel_rfl)))<|?_
       rcases hb7:(decide ((qB ((t.getD k tz).op))<2)) with _ | _
       ·replace hb7:=vT hb7
        refine zK<|zK<|zK<|zE yD<|zE yD<|zM<|zE (kK xN)<|zR (qH cN)<|zE xL<|zE (oV (vb ((t.getD k tz).op == 0)) (qA (by kernel_rfl)))<|?_
        rcases hb8:((t.getD k tz).op == 0) with _ | _
        ·replace hb8:=ne_of_beq_false hb8
         refine zK<|zK<|zK<|zK<|zK<|zK<|zK<|zK<|zK<|zE yD<|zE yD<|zM<|zE (kK xN)<|zR (qH cN)<|zE aZ<|zE (oV (vb ((t.getD k tz).op != 0)) (qA (by kernel_rfl)))<|?_
         rcases hb9:((t.getD k tz).op != 0) with _ | _
         ·replace hb9:=bne_eq_false_iff_eq.1 hb9
          exact zK<|zK<|zK<|zK<|zE yD<|zE yD<|zZ
         ·replace hb9:=bne_iff_ne.1 hb9
          exact zE (kK mL)<|zR (kP jT)<|zE (kB (j_unset ((t.getD k tz).n) (qS (t.getD k tz).n) (tn_get ht (show k<t.length by omega))))<|zE cU<|zE fL<|zE aK<|zZ
        ·replace hb8:=eq_of_beq hb8
         refine zE (kK qN)<|zR (qH uN)<|zE aZ<|zE (oV (vb ((t.getD k tz).a != 0)) (qA (by kernel_rfl)))<|?_
         rcases hb10:((t.getD k tz).a != 0) with _ | _
         ·replace hb10:=bne_eq_false_iff_eq.1 hb10
          refine zE (kK mL)<|zR (kP jT)<|zE (kB (f_valid ((t.getD k tz).n) (qS (t.getD k tz).n) (jO (tn_get ht (show k<t.length by omega)))))<|zE cU<|zE aK<|zE fL<|zE aK<|zE (oV (vb (false||(true&&(false||!(kT ((t.getD k tz).n)))))) (qA (by kernel_rfl)))<|?_
          rcases hb11:(!(kT ((t.getD k tz).n))) with _ | _
          ·refine zE (kK xN)<|zR (qH cN)<|zE aZ<|zE (oV (vb ((t.getD k tz).op != 0)) (qA (by kernel_rfl)))<|?_
           rcases hb12:((t.getD k tz).op != 0) with _ | _
           ·replace hb12:=bne_eq_false_iff_eq.1 hb12
            exact zK<|zK<|zK<|zK<|zE yD<|zE yD<|zZ
           ·replace hb12:=bne_iff_ne.1 hb12
            exact zE (kK mL)<|zR (kP jT)<|zE (kB (j_unset ((t.getD k tz).n) (qS (t.getD k tz).n) (tn_get ht (show k<t.length by omega))))<|zE cU<|zE fL<|zE aK<|zZ
          ·exact zK<|zK<|zK<|zK<|zK<|zK<|zK<|zK<|zK<|zE nO<|zZ
         ·replace hb10:=bne_iff_ne.1 hb10
          exact zK<|zK<|zK<|zK<|zE nO<|zE nO<|zE yD<|zM<|zK<|zK<|zK<|zK<|zK<|zK<|zK<|zK<|zK<|zE nO<|zZ
       ·replace hb7:=vF hb7
        refine zE (kK vE)<|zR (qH uN)<|zE aZ<|zE fL<|zE aK<|zE (oV (vb (false||(true&&((t.getD k tz).b != 0)))) (qA (by kernel_rfl)))<|?_
        rcases hb13:((t.getD k tz).b != 0) with _ | _
        ·replace hb13:=bne_eq_false_iff_eq.1 hb13
         refine zE (kK xN)<|zR (qH cN)<|zE xL<|zE (oV (vb ((t.getD k tz).op == 0)) (qA (by kernel_rfl)))<|?_
         rcases hb14:((t.getD k tz).op == 0) with _ | _
         ·replace hb14:=ne_of_beq_false hb14
          refine zK<|zK<|zK<|zK<|zK<|zK<|zK<|zK<|zK<|zE yD<|zE yD<|zM<|zE (kK xN)<|zR (qH cN)<|zE aZ<|zE (oV (vb ((t.getD k tz).op != 0)) (qA (by kernel_rfl)))<|?_
          rcases hb15:((t.getD k tz).op != 0) with _ | _
          ·replace hb15:=bne_eq_false_iff_eq.1 hb15
           exact zK<|zK<|zK<|zK<|zE yD<|zE yD<|zZ
          ·replace hb15:=bne_iff_ne.1 hb15
           exact zE (kK mL)<|zR (kP jT)<|zE (kB (j_unset ((t.getD k tz).n) (qS (t.getD k tz).n) (tn_get ht (show k<t.length by omega))))<|zE cU<|zE fL<|zE aK<|zZ
         ·replace hb14:=eq_of_beq hb14
          refine zE (kK qN)<|zR (qH uN)<|zE aZ<|zE (oV (vb ((t.getD k tz).a != 0)) (qA (by kernel_rfl)))<|?_
          rcases hb16:((t.getD k tz).a != 0) with _ | _
          ·replace hb16:=bne_eq_false_iff_eq.1 hb16
           refine zE (kK mL)<|zR (kP jT)<|zE (kB (f_valid ((t.getD k tz).n) (qS (t.getD k tz).n) (jO (tn_get ht (show k<t.length by omega)))))<|zE cU<|zE aK<|zE fL<|zE aK<|zE (oV (vb (false||(true&&(false||!(kT ((t.getD k tz).n)))))) (qA (by kernel_rfl)))<|?_
           rcases hb17:(!(kT ((t.getD k tz).n))) with _ | _
           ·refine zE (kK xN)<|zR (qH cN)<|zE aZ<|zE (oV (vb ((t.getD k tz).op != 0)) (qA (by kernel_rfl)))<|?_
            rcases hb18:((t.getD k tz).op != 0) with _ | _
            ·replace hb18:=bne_eq_false_iff_eq.1 hb18
             exact zK<|zK<|zK<|zK<|zE yD<|zE yD<|zZ
            ·replace hb18:=bne_iff_ne.1 hb18
             exact zE (kK mL)<|zR (kP jT)<|zE (kB (j_unset ((t.getD k tz).n) (qS (t.getD k tz).n) (tn_get ht (show k<t.length by omega))))<|zE cU<|zE fL<|zE aK<|zZ
           ·exact zK<|zK<|zK<|zK<|zK<|zK<|zK<|zK<|zK<|zE nO<|zZ
          ·replace hb16:=bne_iff_ne.1 hb16
           exact zK<|zK<|zK<|zK<|zE nO<|zE nO<|zE yD<|zM<|zK<|zK<|zK<|zK<|zK<|zK<|zK<|zK<|zK<|zE nO<|zZ
        ·replace hb13:=bne_iff_ne.1 hb13
         exact zK<|zK<|zK<|zK<|zK<|zK<|zK<|zK<|zK<|zK<|zK<|zK<|zK<|zK<|zE nO<|zM<|zK<|zK<|zK<|zK<|zK<|zK<|zK<|zK<|zK<|zE nO<|zZ
      ·replace hb6:=vF hb6
       exact zK<|zK<|zK<|zK<|zK<|zK<|zK<|zE nO<|zM<|zK<|zK<|zK<|zK<|zK<|zK<|zK<|zK<|zK<|zK<|zK<|zK<|zK<|zK<|zE nO<|zM<|zK<|zK<|zK<|zK<|zK<|zK<|zK<|zK<|zK<|zE nO<|zZ
     refine jD rfl (λh19=>?_) (λh19=>?_)
     ·refine jB<|kx [(4,(vl 3 1 jL [])),(5,(kE 1))] [] (zE (aN 3 1)<|zM<|zZ) ?_
      refine jE ⟨_,(.tmp (d:=(.sl 3 1 (map jL []))) rfl (.tmp (d:=(.val (.int .i64 (1)))) rfl .nil)),?_⟩
      have he:=hR.bad h19
      rw[he.1,he.2];rfl
     ·have hB:=h19
      refine jF<|jB<|jB<|kx [(100,(vb ((decide (0<(qB ((t.getD k tz).op)))&&(decide ((t.getD k tz).a<0)||decide (((k:Nat):Int)<=(t.getD k tz).a)))||(decide (1<(qB ((t.getD k tz).op)))&&(decide ((t.getD k tz).b<0)||decide (((k:Nat):Int)<=(t.getD k tz).b))))))] [] ?_ ?_
      ·refine zM<|zE eR<|zE (oV (vb (decide (0<(qB ((t.getD k tz).op))))) (qA (by kernel_rfl)))<|?_
       rcases hb20:(decide (0<(qB ((t.getD k tz).op)))) with _ | _
       ·replace hb20:=vT hb20
        refine zK<|zK<|zK<|zK<|zK<|zK<|zK<|zK<|zK<|zE yD<|zM<|zM<|zE eR<|zE (oV (vb (decide (1<(qB ((t.getD k tz).op))))) (qA (by kernel_rfl)))<|?_
        rcases hb21:(decide (1<(qB ((t.getD k tz).op)))) with _ | _
        ·replace hb21:=vT hb21
         exact zK<|zK<|zK<|zK<|zK<|zK<|zK<|zK<|zK<|zE yD<|zE yD<|zZ
        ·replace hb21:=vF hb21
         refine zE (kK vE)<|zR (qH uN)<|zE gX<|zE (oV (vb (decide ((t.getD k tz).b<0))) (qA (by kernel_rfl)))<|?_
         rcases hb22:(decide ((t.getD k tz).b<0)) with _ | _
         ·replace hb22:=vT hb22
          exact zE (kK vE)<|zR (qH uN)<|zM<|zE oGe<|zE aK<|zE fL<|zE aK<|zZ
         ·replace hb22:=vF hb22
          exact zK<|zK<|zK<|zK<|zE nO<|zE nO<|zE yD<|zZ
       ·replace hb20:=vF hb20
        refine zE (kK qN)<|zR (qH uN)<|zE gX<|zE (oV (vb (decide ((t.getD k tz).a<0))) (qA (by kernel_rfl)))<|?_
        rcases hb23:(decide ((t.getD k tz).a<0)) with _ | _
        ·replace hb23:=vT hb23
         refine zE (kK qN)<|zR (qH uN)<|zM<|zE oGe<|zE aK<|zE fL<|zE (oV (vb (true&&(false||decide (((k:Nat):Int)<=(t.getD k tz).a)))) (qA (by kernel_rfl)))<|?_
         rcases hb24:(decide (((k:Nat):Int)<=(t.getD k tz).a)) with _ | _
         ·replace hb24:=vT hb24
          refine zM<|zE eR<|zE (oV (vb (decide (1<(qB ((t.getD k tz).op))))) (qA (by kernel_rfl)))<|?_
          rcases hb25:(decide (1<(qB ((t.getD k tz).op)))) with _ | _
          ·replace hb25:=vT hb25
           exact zK<|zK<|zK<|zK<|zK<|zK<|zK<|zK<|zK<|zE yD<|zE yD<|zZ
          ·replace hb25:=vF hb25
           refine zE (kK vE)<|zR (qH uN)<|zE gX<|zE (oV (vb (decide ((t.getD k tz).b<0))) (qA (by kernel_rfl)))<|?_
           rcases hb26:(decide ((t.getD k tz).b<0)) with _ | _
           ·replace hb26:=vT hb26
            exact zE (kK vE)<|zR (qH uN)<|zM<|zE oGe<|zE aK<|zE fL<|zE aK<|zZ
           ·replace hb26:=vF hb26
            exact zK<|zK<|zK<|zK<|zE nO<|zE nO<|zE yD<|zZ
         ·replace hb24:=vF hb24
          exact zK<|zK<|zK<|zK<|zK<|zK<|zK<|zK<|zK<|zK<|zK<|zK<|zK<|zE nO<|zZ
        ·replace hb23:=vF hb23
         exact zK<|zK<|zK<|zK<|zE nO<|zE nO<|zM<|zK<|zK<|zK<|zK<|zK<|zK<|zK<|zK<|zK<|zK<|zK<|zK<|zK<|zE nO<|zZ
      refine jD rfl (λh27=>?_) (λh27=>?_)
      ·refine jB<|kx [(4,(vl 3 1 jL [])),(5,(kE 5))] [] (zE (aN 3 1)<|zM<|zZ) ?_
       refine jE ⟨_,(.tmp (d:=(.sl 3 1 (map jL []))) rfl (.tmp (d:=(.val (.int .i64 (5)))) rfl .nil)),?_⟩
       have he:=hR.ord hB h27
       rw[he.1,he.2];rfl
      ·have hO:=h27
       refine jF<|jB<|jB<|kx [(114,(vb (((t.getD k tz).op == 1)&&(decide ((t.getD k tz).a<0)||decide (z<=(t.getD k tz).a)))))] [] ?_ ?_
       ·refine zE (kK xN)<|zR (qH cN)<|zE xL<|zE (oV (vb ((t.getD k tz).op == 1)) (qA (by kernel_rfl)))<|?_
        rcases hb28:((t.getD k tz).op == 1) with _ | _
        ·replace hb28:=ne_of_beq_false hb28
         exact zK<|zK<|zK<|zK<|zK<|zK<|zK<|zK<|zK<|zE yD<|zZ
        ·replace hb28:=eq_of_beq hb28
         refine zE (kK qN)<|zR (qH uN)<|zE gX<|zE (oV (vb (decide ((t.getD k tz).a<0))) (qA (by kernel_rfl)))<|?_
         rcases hb29:(decide ((t.getD k tz).a<0)) with _ | _
         ·replace hb29:=vT hb29
          exact zE (kK qN)<|zR (qH uN)<|zM<|zE oGe<|zE aK<|zE fL<|zZ
         ·replace hb29:=vF hb29
          exact zK<|zK<|zK<|zK<|zE nO<|zE nO<|zZ
       refine jD rfl (λh30=>?_) (λh30=>?_)
       ·refine jB<|kx [(4,(vl 3 1 jL [])),(5,(kE 2))] [] (zE (aN 3 1)<|zM<|zZ) ?_
        refine jE ⟨_,(.tmp (d:=(.sl 3 1 (map jL []))) rfl (.tmp (d:=(.val (.int .i64 (2)))) rfl .nil)),?_⟩
        have he:=hR.rng hB hO h30
        rw[he.1,he.2];rfl
       ·have hN:=ndr hR hB hO h30
        refine jF<|pwp_seqjoin (α:=Int) (λv=>⟨[(1,(vi z)),(6,(.own 0 3 1 t.length)),(7,(kE k)),(25,(vl 72 7 jN t)),(26,(kE t.length)),(27,(kE k))],[(0,some (bm jL (o.set k v)))]⟩) (λv=>v=mP (gM t k) (t.getD k tz)) ?_ ?_
        ·refine jB<|kx [(129,(vb ((qB ((t.getD k tz).op)) == 0)))] [] (zM<|zE xL<|zM<|zZ) ?_
         refine jD (b:=((qB ((t.getD k tz).op)) == 0)) rfl (λh31=>?_) (λh31=>?_)
         ·replace h31:=eq_of_beq h31
          have hv:=szN_c (ss:=gM t k) h31
          refine kx [] [(0,some (bm jL (o.set k 1)))] (zM<|zM<|zE (yF uR k)<|zT (fF uN k (1:Int))<|zZ) ?_
          exact ⟨1,wk,hv⟩
         ·replace h31:=ne_of_beq_false h31
          have hk0:=h31
          obtain ⟨a1,a2,a3,a4,a5⟩:=hN.a ho hk0
          refine jB<|kx [(135,(vb ((t.getD k tz).op == 6)))] [] (zE (kK xN)<|zR (qH cN)<|zE xL<|zM<|zZ) ?_
          refine jD (b:=((t.getD k tz).op == 6)) rfl (λh32=>?_) (λh32=>?_)
          ·replace h32:=eq_of_beq h32
           have hv:=szN_n hk0 h32 a3
           refine kx [] [(0,some (bm jL (o.set k (o.getD (((t.getD k tz).a).toNat) 0))))] (zM<|zM<|zM<|zE (kK qN)<|zR (qH uN)<|zE (yF uR (((t.getD k tz).a).toNat))<|zR (fE uN (((t.getD k tz).a).toNat) (0:Int))<|zE (yF uR k)<|zT (fF uN k (o.getD (((t.getD k tz).a).toNat) 0))<|zZ) ?_
           exact ⟨(o.getD (((t.getD k tz).a).toNat) 0),wk,hv⟩
          ·replace h32:=ne_of_beq_false h32
           have h6:=h32
           refine jB<|kx [(147,(vb ((t.getD k tz).op == 7)))] [] (zE (kK xN)<|zR (qH cN)<|zE xL<|zM<|zZ) ?_
           refine jD (b:=((t.getD k tz).op == 7)) rfl (λh33=>?_) (λh33=>?_)
           ·replace h33:=eq_of_beq h33
            have hv:=szN_q hk0 h33 a3
            refine kx [] [(0,some (bm jL (o.set k (2*(o.getD (((t.getD k tz).a).toNat) 0)))))] (zM<|zM<|zM<|zE (kK qN)<|zR (qH uN)<|zE (yF uR (((t.getD k tz).a).toNat))<|zR (fE uN (((t.getD k tz).a).toNat) (0:Int))<|zE (zMl (2*(o.getD (((t.getD k tz).a).toNat) 0)))<|zE (yF uR k)<|zT (fF uN k (2*(o.getD (((t.getD k tz).a).toNat) 0)))<|zZ) ?_
            exact ⟨(2*(o.getD (((t.getD k tz).a).toNat) 0)),wk,hv⟩
           ·replace h33:=ne_of_beq_false h33
            obtain ⟨b1,b2,b3,b4,b5⟩:=hN.b ho hk0 h6 h33
            have hv:=szN_b hk0 h6 h33 a3 b3
            refine kd [] [(0,some (bm jL (o.set k ((o.getD (((t.getD k tz).a).toNat) 0)+(o.getD (((t.getD k tz).b).toNat) 0)))))] mo (wM<|wM<|wM<|wE (kK qN)<|wR (qH uN)<|wE (yF uR (((t.getD k tz).a).toNat))<|wR (fE uN (((t.getD k tz).a).toNat) (0:Int))<|wM<|wE (kK vE)<|wR (qH uN)<|wE (yF uR (((t.getD k tz).b).toNat))<|wR (fE uN (((t.getD k tz).b).toNat) (0:Int))<|wE (zAd ((o.getD (((t.getD k tz).a).toNat) 0)+(o.getD (((t.getD k tz).b).toNat) 0)))<|wE (yF uR k)<|wT (fF uN k ((o.getD (((t.getD k tz).a).toNat) 0)+(o.getD (((t.getD k tz).b).toNat) 0)))<|wZ) ?_
            exact ⟨((o.getD (((t.getD k tz).a).toNat) 0)+(o.getD (((t.getD k tz).b).toNat) 0)),wk,hv⟩
        ·rintro v hv
         have hsl:(o.set k v).length=o.length:=length_set
         refine jB<|kx [(164,(vb (decide (4096<((o.set k v).getD k 0)))))] [] (zM<|zM<|zE (yF uR k)<|zR (fE uN k (0:Int))<|zE eR<|zZ) ?_
         refine jD (b:=decide (4096<((o.set k v).getD k 0))) rfl (λh34=>?_) (λh34=>?_)
         ·replace h34:=vF h34
          refine jB<|kx [(4,(vl 3 1 jL [])),(5,(kE 3))] [] (zE (aN 3 1)<|zM<|zZ) ?_
          refine jE ⟨_,(.tmp (d:=(.sl 3 1 (map jL []))) rfl (.tmp (d:=(.val (.int .i64 (3)))) rfl .nil)),?_⟩
          have he:=hN.big hv (by omega) h34
          rw[he.1,he.2];rfl
         ·replace h34:=vT h34
          refine jF<|kx [(27,(kE (k+1)))] [] (zE (xO (k+1))<|zM<|zZ) ?_
          exact ⟨(k+1,o.set k v),wk,(hN.next hv ho (by omega)),(by first|omega|(dsimp only;omega))⟩
    ·replace h5:=vT h5
     refine kO<|jB<|kx [(4,(.own 0 3 1 t.length)),(5,(kE 0))] [] (zM<|zM<|zM<|zZ) ?_
     refine kS (xY (t:=4) (k:=0) (es:=map jL o) rfl rfl (vX _ _ (λ_=>rfl)) (vK _ _ qM) (xV _ _ (λ_=>rfl) qM)) ?_
     refine jE ⟨_,(.tmp (d:=(.sl 3 1 (map jL o))) rfl (.tmp (d:=(.val (.int .i64 (0)))) rfl .nil)),?_⟩
     have he:=tm_end hz0 h0 h400 hk h5 ho hu
     rw[he.1,he.2];rfl
theorem fo113_4:uX prog 113 4=some 4:=by kernel_rfl
theorem pl113:eL prog 113=some [(0,1),(1,1),(2,1),(3,1),(4,1)]:=by kernel_rfl
theorem ze113:xH prog 113=some [.int .i64 0,.int .i64 0,.int .i64 0,.slice none 0 0,.bool false]:=by kernel_rfl
theorem zn113:eO [.int .i64 0,.int .i64 0,.int .i64 0,.slice none 0 0,.bool false] [.val (.int .i64 0),.val (.int .i64 0),.val (.int .i64 0),.val (.slice none 0 0),.val (.bool false)]:=by simp [eO,Value.oneCell']
def StepAt(bv:List R2)(L:List JV)(x:jS):Prop:=yG prog 77 [(.ref 0 0),(.d (jN x)),(vl 42 8 jG (map kF bv))] [(0,some (eU bv.length 1 (L) false)),(1,some (eT (L)))] (.d (.tup [])) [(0,some (eU bv.length 18 (L++[nJ bv L x]) false)),(18,some (eT (L++[nJ bv L x])))]
theorem e_step(x:jS)(bv:List R2)(hbx:∀ x∈bv,GL 1048576 x)(L:List JV)(hst:StepAt bv L x):yG prog 77 [(.ref 0 0),(.d (jN x)),(vl 42 8 jG (map kF bv))] [(0,some (eU bv.length 1 (L) false)),(1,some (eT (L)))] (.d (.tup [])) [(0,some (eU bv.length 18 (L++[nJ bv L x]) false)),(18,some (eT (L++[nJ bv L x])))]:=hst
structure JRunP (bv:List R2) (t:List jS):Prop where
 run:JRun bv t
 st:∀ k,k<t.length->StepAt bv (jU bv t k) (t.getD k tz)
theorem j_chk(t:List jS)(ht:gR 1048576 t)(z:Int):jP prog 39 [(.sl 72 7 (map jN t)),(.val (.int .i64 (z)))] (.val (.int .i64 ((((yT z t):Nat):Int)))):=by
 refine vD func39 ?_
 refine jB<|kx [] [] (zM<|zZ) ?_
 refine jB<|kx [(6,(kE (yT z t)))] [] (zM<|zM<|zE (kB (j_sizes t ht z))<|zM<|zE zP<|zE zP<|zM<|zM<|zZ) ?_
 refine jB<|kx [(4,(kE (yT z t)))] [] (zM<|zM<|zZ) ?_
 refine jE ⟨_,(.tmp (d:=(.val (.int .i64 ((((yT z t):Nat):Int))))) rfl .nil),?_⟩
 rfl
theorem j_jets(t:List jS)(ht:gR 1048576 t)(bv:List R2)(hbx:∀ x∈bv,GL 1048576 x)(hr:JRunP bv t):jP prog 29 [(.sl 72 7 (map jN t)),(.sl 42 8 (map jG (map kF bv))),(.val (.int .i64 (((1:Nat):Int)))),(.val (.int .i64 (-1)))] (.tup [(jR (nI (mI bv t))),(.val (.int .i64 (((0:Nat):Int))))]):=by
 have h0:=dF hr.run.c0
 let y3:=(jX.mk qX qX)
 let y2:=(bx (jR (xS.mk y3 [] [])))
 let y1:=(bx (.agg [(.val (.int .i64 (((bv.length:Nat):Int)))),(.val (.int .i64 (((1:Nat):Int)))),(.val (.int .i64 (-1))),(.val (.slice none 0 0)),(.val (.bool (false)))]))
 refine vD func29 ?_
 refine jB<|kx [(8,(.ref 0 0))] [(0,some y2)] (zN (vB 0 bT zo46)<|zM<|zZ) ?_
 refine jB<|jB<|kx [(16,(vl 42 8 jG (map kF bv))),(17,(kE bv.length)),(18,(kE 0))] [] (zM<|zE (oLn xK bv.length)<|zM<|zZ) ?_
 refine jH<|kR (α:=Nat) (λi=>⟨[(0,(vl 72 7 jN t)),(1,(vl 42 8 jG (map kF bv))),(2,(kE 1)),(3,(vi (-1))),(8,(.ref 0 0)),(16,(vl 42 8 jG (map kF bv))),(17,(kE bv.length)),(18,(kE i))],[(0,some y2)]⟩) (λi=>i<=bv.length) (λi=>bv.length-i) 0 wk (Nat.zero_le _) ?_
 rintro i hi
 refine jB<|kx [(19,(vb (decide (((i:Nat):Int)<((bv.length:Nat):Int)))))] [] (zE gX<|zZ) ?_
 refine jB<|jD rfl (λh1=>?_) (λh1=>?_)
 ·replace h1:=vF h1
  refine jF<|jB<|jH<|jB<|kx [(11,(.ref 1 0))] [(1,some (bx (jG (kF (bv.getD i z2)))))] (zE (iO xK kF i z2)<|zE (mR jW)<|zN (vB 1 uQ uV)<|zT (qL jW)<|zZ) ?_
  refine jB<|kx [(24,(vb false))] [] (zR (kP jW)<|zE (kB (by have h:=i_valid (kF (bv.getD i z2)) (fU (⟨uW (jO (jZ (uH hbx (by decide) i).1) (by decide:1048576<=1048576)),uW (jO (jZ (uH hbx (by decide) i).2.1) (by decide:1048576<=1048576))⟩));rw[show xQ (kF (bv.getD i z2))=true from eC (uH hbx (by decide) i).2.2] at h;exact h))<|zE cU<|zZ) ?_
  refine uI ?_
  refine jF<|kx [(18,(kE (i+1)))] [] (zE (xO (i+1))<|zM<|zZ) ?_
  exact ⟨i+1,wk,(by omega),(by first|omega|(dsimp only;omega))⟩
 ·replace h1:=vT h1
  refine kO<|jB<|jB<|kx [(36,(vb false))] [] (zM<|zE (nA false gX)<|zM<|zM<|zE (nA false eR)<|zE yD<|zM<|zM<|zE (nA false eR)<|zE yD<|zZ) ?_
  refine uI ?_
  refine jF<|jB<|jB<|kx [(12,(kE (yT ((bv.length:Nat):Int) t)))] [] (zM<|zM<|zE (oLn xK bv.length)<|zE (kB (j_chk t ht ((bv.length:Nat):Int)))<|zM<|zZ) ?_
  refine jB<|kx [(43,(vb false))] [] (zM<|zE (nA false aZ (by exact bne_eq_false_iff_eq.2 (by rw[show (yT ((bv.length:Nat):Int) t)=0 from hr.run.c0]<;>rfl)))<|zZ) ?_
  refine uI ?_
  refine jF<|jB<|kx [(13,(.ref 2 0))] [(2,some y1)] (zM<|zE (oLn xK bv.length)<|zM<|zM<|zE (iS pl113 ze113 zn113)<|zN (xD 2)<|zM<|zZ) ?_
  refine jB<|jB<|lP 2 3 3 46 10 (cs:=y1) (h:=?_)
  refine kS (wk (l:=[(0,(vl 72 7 jN t)),(1,(vl 42 8 jG (map kF bv))),(8,(.ref 0 0)),(13,(.ref 2 0))]) (b:=[(0,some y2),(2,some [(kE bv.length),(kE 1),(vi (-1)),(.own 3 46 10 0),(vb false)]),(3,some (uD jR []))])) ?_
  refine kx [(52,(vl 72 7 jN t)),(53,(kE t.length)),(54,(kE 0))] [] (zM<|zE (yA zY)<|zM<|zZ) ?_
  refine jH<|kR (α:=Nat) (λk=>⟨[(1,(vl 42 8 jG (map kF bv))),(8,(.ref 0 0)),(13,(.ref 2 0)),(52,(vl 72 7 jN t)),(53,(kE t.length)),(54,(kE k))],[(0,some y2),(2,some (eU bv.length 3 (jU bv t k) false)),(3,some (eT (jU bv t k)))]⟩) (λk=>k<=t.length) (λk=>t.length-k) 0 wk (Nat.zero_le _) ?_
  rintro k hk
  have hju:=gZ bv t k
  have hjm:(map nI (jU bv t k)).length=k:=by rw[length_map,hju]
  have hup:=hr.run.upto hk
  refine jB<|kx [(55,(vb (decide (((k:Nat):Int)<((t.length:Nat):Int)))))] [] (zE gX<|zZ) ?_
  refine jB<|jD rfl (λh2=>?_) (λh2=>?_)
  ·replace h2:=vF h2
   refine jF<|jB<|jH<|jB<|kx [(15,(.ref 4 0))] [(4,some (bx (jN (t.getD k tz))))] (zE (cB zY k (tz:jS))<|zE (mR cT)<|zH (vB 4 dW fZ)<|zT (qL cT)<|zZ) ?_
   refine jB<|kf [] [(2,some (eU bv.length 21 ((jU bv t k)++[(nJ bv (jU bv t k) (t.getD k tz))]) false)),(21,some (eT ((jU bv t k)++[(nJ bv (jU bv t k) (t.getD k tz))]))),(10,none),(11,none),(12,none),(13,none),(14,none),(15,none),(16,none),(17,none),(18,none),(19,none),(20,none),(3,none),(5,none),(6,none),(7,none),(8,none),(9,none)] (zM<|zR (kP cT)<|zM<|zSe (B2:=[(2,some (eU bv.length 3 (jU bv t k) false)),(3,some (eT (jU bv t k)))]) (B2':=[(2,some (eU bv.length 21 ((jU bv t k)++[(nJ bv (jU bv t k) (t.getD k tz))]) false)),(21,some (eT ((jU bv t k)++[(nJ bv (jU bv t k) (t.getD k tz))])))]) [2,3,5,6,7,8,9,10,11,12,13,14,15,16,17,18,19,20,21] [2] (e_step (t.getD k tz) bv hbx (jU bv t k) (hr.st k (show k<t.length by omega)))<|zF) ?_
   refine kS (wk (l:=[(1,(vl 42 8 jG (map kF bv))),(8,(.ref 0 0)),(13,(.ref 2 0)),(52,(vl 72 7 jN t)),(53,(kE t.length)),(54,(kE k))]) (b:=[(0,some y2),(2,some (eU bv.length 21 ((jU bv t k)++[(nJ bv (jU bv t k) (t.getD k tz))]) false)),(21,some (eT ((jU bv t k)++[(nJ bv (jU bv t k) (t.getD k tz))])))])) ?_
   refine kS (sim_ren2 (S':=[(1,(vl 42 8 jG (map kF bv))),(8,(.ref 0 0)),(13,(.ref 2 0)),(52,(vl 72 7 jN t)),(53,(kE t.length)),(54,(kE k))]) (B':=[(0,some y2),(2,some (eU bv.length 3 ((jU bv t k)++[(nJ bv (jU bv t k) (t.getD k tz))]) false)),(3,some (eT ((jU bv t k)++[(nJ bv (jU bv t k) (t.getD k tz))])))]) 3 21 2) ?_
   refine jB<|kx [(65,(vb false))] [] (zM<|zE oNc<|zE (kK fo113_4)<|zR (qH aT)<|zZ) ?_
   refine uI ?_
   refine jF<|kx [(54,(kE (k+1)))] [] (zE (xO (k+1))<|zM<|zZ) ?_
   exact ⟨k+1,wk,(by omega),(by first|omega|(dsimp only;omega))⟩
  ·replace h2:=vT h2
   refine kO<|jB<|kd [(9,(kE 0))] [(0,some (bx (jR ((map nI (jU bv t k)).getD ((map nI (jU bv t k)).length-1) (xS.mk y3 [] [])))))] mo (wM<|wE oNc<|wE (kK fo113_3)<|wR (qH sh88)<|wM<|wE oNc<|wE (kK fo113_3)<|wR (qH sh88)<|wE (oLo el88)<|wE (oSb ((map nI (jU bv t k)).length-1))<|wE (oXO el88 ((map nI (jU bv t k)).length-1))<|wR (oLA nF ((map nI (jU bv t k)).length-1) (xS.mk y3 [] []))<|wT (qL nF)<|wM<|wZ) ?_
   refine jE ⟨_,(kM (cs:=(bx (jR ((map nI (jU bv t k)).getD ((map nI (jU bv t k)).length-1) (xS.mk y3 [] []))))) (d:=(jR ((map nI (jU bv t k)).getD ((map nI (jU bv t k)).length-1) (xS.mk y3 [] [])))) rfl rfl nF rfl rfl (.tmp (d:=(.val (.int .i64 (((0:Nat):Int))))) rfl .nil)),?_⟩
   obtain rfl:k=t.length:=by omega
   rw[length_map,hju,bZ nI _ jz _ (by omega)]
   unfold mI;rfl
end Go.Proofs.YtckccjhflbljgaaGreatDoor
