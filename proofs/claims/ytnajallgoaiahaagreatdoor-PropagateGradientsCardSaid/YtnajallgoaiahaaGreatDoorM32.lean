/- Part 32 of a proof: rules, plain facts, and functions walked. -/
import Derived.Test.YtnajallgoaiahaaGreatDoorM31
import Derived.Test.YtnajallgoaiahaaGreatDoorM19
import Derived.Test.YtnajallgoaiahaaGreatDoorM22
import Derived.Test.YtnajallgoaiahaaGreatDoorM29
import Derived.Test.YtnajallgoaiahaaGreatDoorM20
import Derived.Test.YtnajallgoaiahaaGreatDoorM10
set_option linter.unusedVariables false
set_option linter.unusedSimpArgs false
set_option maxRecDepth 4000
namespace Go.Proofs.YtnajallgoaiahaaGreatDoor
open Go.Fid
theorem cb110:callB Tryz.prog 110=true:=by kernel_rfl
theorem cb111:callB Tryz.prog 111=true:=by kernel_rfl
theorem cb112:callB Tryz.prog 112=true:=by kernel_rfl
theorem cb169:callB Tryz.prog 169=true:=by kernel_rfl
theorem cb170:callB Tryz.prog 170=true:=by kernel_rfl
theorem cb171:callB Tryz.prog 171=true:=by kernel_rfl
theorem cb172:callB Tryz.prog 172=true:=by kernel_rfl
theorem u_add(a:R2)(ha:GL 67108864 a)(b:R2)(hb:GL 67108864 b):jS Tryz.prog 39 [(jD (jP a)),(jD (jP b))] (jD (jP (qU a b))):=h_add (jP a) a.1 a.2 (jQ (kB ha.1) (by decide)) (jQ (kB ha.2.1) (by decide)) (jP b) b.1 b.2 (jQ (kB hb.1) (by decide)) (jQ (kB hb.2.1) (by decide))
theorem u_sub(a:R2)(ha:GL 67108864 a)(b:R2)(hb:GL 67108864 b):jS Tryz.prog 40 [(jD (jP a)),(jD (jP b))] (jD (jP (kZ a b))):=h_sub (jP a) a.1 a.2 (jQ (kB ha.1) (by decide)) (jQ (kB ha.2.1) (by decide)) (jP b) b.1 b.2 (jQ (kB hb.1) (by decide)) (jQ (kB hb.2.1) (by decide))
theorem u_mul(a:R2)(ha:GL 67108864 a)(b:R2)(hb:GL 67108864 b):jS Tryz.prog 114 [(jD (jP a)),(jD (jP b))] (jD (jP (kO a b))):=h_mul (jP a) a.1 a.2 (jQ (kB ha.1) (by decide)) (jQ (kB ha.2.1) (by decide)) (jP b) b.1 b.2 (jQ (kB hb.1) (by decide)) (jQ (kB hb.2.1) (by decide))
theorem u_sq(a:R2)(ha:GL 67108864 a):jS Tryz.prog 115 [(jD (jP a))] (jD (jP (aJ a))):=h_square (jP a) a.1 a.2 (jQ (kB ha.1) (by decide)) (jQ (kB ha.2.1) (by decide))
theorem u_neg(a:R2)(ha:GL 67108864 a):jS Tryz.prog 100 [(jD (jP a))] (jD (jP (gneg a))):=h_neg (jP a) a.1 a.2 (jQ (kB ha.1) (by decide)) (jQ (kB ha.2.1) (by decide))
theorem u_div(a:R2)(ha:GL 67108864 a)(b:R2)(hb:GL 67108864 b)(hz:yS b.1 b.2=false):jS Tryz.prog 167 [(jD (jP a)),(jD (jP b))] (.tup [(jD (jP (uP a b))),(.val (.int .i64 (((0:Nat):Int))))]):=h_divide a.1 a.2 (qu ha.1) (qu ha.2.1) ha.2.2 b.1 b.2 (qu hb.1) (qu hb.2.1) hb.2.2 hz
theorem u_none :jS Tryz.prog 172 [] (jD (jP (gw 0))):=by
 refine jJ Tryz.func172 rfl cb172 rfl ?_
 show qM _ _ _ _ ⟨[],[]⟩
 refine jB<|kx [(0,(.ref 0 0))] [(0,some (bx (jD (jO.mk kR kR))))] (zN (qW 0 qL qR)<|zZ) ?_
 refine jB<|kx [] [(0,some (bx (jD (jO.mk (jM ((0:Int):Rat)) (jM ((0:Int):Rat))))))] (zE (kA (h_whole 0 0 (by decide) (by decide) (by decide) (by decide)))<|zT (qF jY)<|zZ) ?_
 refine jG ⟨_,(kJ (cs:=(bx (jD (jO.mk (jM ((0:Int):Rat)) (jM ((0:Int):Rat)))))) (d:=(jD (jO.mk (jM ((0:Int):Rat)) (jM ((0:Int):Rat))))) rfl rfl jY rfl rfl .nil),?_⟩
 rfl
theorem u_one :jS Tryz.prog 169 [] (jD (jP (gw 1))):=by
 refine jJ Tryz.func169 rfl cb169 rfl ?_
 show qM _ _ _ _ ⟨[],[]⟩
 refine jB<|kx [(0,(.ref 0 0))] [(0,some (bx (jD (jO.mk kR kR))))] (zN (qW 0 qL qR)<|zZ) ?_
 refine jB<|kx [] [(0,some (bx (jD (jO.mk (jM ((1:Int):Rat)) (jM ((1:Int):Rat))))))] (zE (kA (h_whole 1 1 (by decide) (by decide) (by decide) (by decide)))<|zT (qF jY)<|zZ) ?_
 refine jG ⟨_,(kJ (cs:=(bx (jD (jO.mk (jM ((1:Int):Rat)) (jM ((1:Int):Rat)))))) (d:=(jD (jO.mk (jM ((1:Int):Rat)) (jM ((1:Int):Rat))))) rfl rfl jY rfl rfl .nil),?_⟩
 rfl
theorem u_twice(a:R2)(ha:GL 67108864 a):jS Tryz.prog 171 [(jD (jP a))] (jD (jP (kO (gw 2) a))):=by
 refine jJ Tryz.func171 rfl cb171 rfl ?_
 show qM _ _ _ _ ⟨[(0,(.d (jD (jP a))))],[]⟩
 refine jB<|kx [(1,(.ref 0 0)),(2,(.ref 1 0))] [(0,some (bx (jD (jP a)))),(1,some (bx (jD (jO.mk kR kR))))] (zN (uY 0)<|zN (qW 1 qL qR)<|zZ) ?_
 refine jB<|kd [] [(1,some (bx (jD (jP (kO (((2:Int):Rat),((2:Int):Rat)) a)))))] mo (wE (kA (h_whole 2 2 (by decide) (by decide) (by decide) (by decide)))<|wR (kP jY)<|wE (kA (u_mul (((2:Int):Rat),((2:Int):Rat)) (qI (⟨(zB (z:=2) (vY (by decide)) (by decide)),(zB (z:=2) (vY (by decide)) (by decide)),(by decide:((2:Int):Rat)≤((2:Int):Rat))⟩) (by decide)) a ha))<|wT (qF jY)<|wZ) ?_
 refine jG ⟨_,(kJ (cs:=(bx (jD (jP (kO (((2:Int):Rat),((2:Int):Rat)) a))))) (d:=(jD (jP (kO (((2:Int):Rat),((2:Int):Rat)) a)))) rfl rfl jY rfl rfl .nil),?_⟩
 rfl
theorem u_held(a:R2)(ha:GL 67108864 a):jS Tryz.prog 111 [(jD (jP a)),(.val (.int .i64 (-1)))] (jD (jP a)):=by
 refine jJ Tryz.func111 rfl cb111 rfl ?_
 show qM _ _ _ _ ⟨[(0,(.d (jD (jP a)))),(1,(vi (-1)))],[]⟩
 refine jB<|kx [(2,(.ref 0 0)),(4,(.ref 1 0))] [(0,some (bx (jD (jP a)))),(1,some (bx (jD (jO.mk kR kR))))] (zN (uY 0)<|zN (qW 1 qL qR)<|zZ) ?_
 refine jB<|jB<|kx [(8,(vb true))] [] (zM<|zE (uR true xY)<|zZ) ?_
 refine uD ?_
 refine jB<|kx [] [(1,some (bx (jD (jP a))))] (zR (kP jY)<|zT (qF jY)<|zZ) ?_
 refine jG ⟨_,(kJ (cs:=(bx (jD (jP a)))) (d:=(jD (jP a))) rfl rfl jY rfl rfl .nil),?_⟩
 rfl
theorem u_pair(l0:R2)(l1:R2)(l2:R2)(l3:R2)(hl0:GL 16777216 l0)(hl1:GL 16777216 l1)(hl2:GL 16777216 l2)(hl3:GL 16777216 l3):jS Tryz.prog 170 [(.sl 61 8 (List.map jD [(jP l0),(jP l1),(jP l2),(jP l3)]))] (jD (jP (qU (kO l0 l1) (kO l2 l3)))):=by
 refine jJ Tryz.func170 rfl cb170 rfl ?_
 show qM _ _ _ _ ⟨[(0,(vl 61 8 jD [(jP l0),(jP l1),(jP l2),(jP l3)]))],[]⟩
 refine jB<|kx [(2,(.ref 0 0))] [(0,some (bx (jD (jO.mk kR kR))))] (zN (qW 0 qL qR)<|zZ) ?_
 refine jB<|kx [(3,(.ref 1 0))] [(1,some (bx (jD (jP (gw 0)))))] (zE (kA u_none)<|zN (qW 1 qL qR)<|zT (qF jY)<|zZ) ?_
 refine jB<|jB<|kx [(4,(jK 0))] [] (zM<|zZ) ?_
 refine jI<|pwp_rounds 3 ?_
 refine pwp_round<|jB<|jB<|kx [(10,(vb true))] [] (zM<|zE (xE 1 (hr:=by decide))<|zM<|zE (oLn uW 4)<|zE (uR true xY)<|zZ) ?_
 refine uD ?_
 refine jF<|jB<|jI<|kd [] [(1,some (bx (jD (jP (qU (gw 0) (kO l0 l1))))))] mo (wR (kP jY)<|wM<|wM<|wE (oXs uW 0)<|wE (gN jY)<|wM<|wM<|wE (xE 1 (hr:=by decide))<|wE (oXs uW 1)<|wE (gN jY)<|wE (kA (u_mul l0 (qI hl0 (by decide)) l1 (qI hl1 (by decide))))<|wE (kA (u_add (gw 0) (qI (gl_w (z:=0) (by omega) (by omega)) (by decide)) (kO l0 l1) (qI (yX (k:=33554432) hl0 hl1 (by decide)) (by decide))))<|wT (qF jY)<|wZ) ?_
 refine kx [(4,(jK 2))] [] (zM<|zE (xE 2 (hr:=by decide))<|zM<|zZ) ?_
 refine fD (xU.refl _) ?_
 refine jB<|jB<|kx [(10,(vb true))] [] (zM<|zE (xE 3 (hr:=by decide))<|zM<|zE (oLn uW 4)<|zE (uR true xY)<|zZ) ?_
 refine uD ?_
 refine jF<|jB<|jI<|kd [] [(1,some (bx (jD (jP (qU (qU (gw 0) (kO l0 l1)) (kO l2 l3))))))] mo (wR (kP jY)<|wM<|wM<|wE (oXs uW 2)<|wE (gN jY)<|wM<|wM<|wE (xE 3 (hr:=by decide))<|wE (oXs uW 3)<|wE (gN jY)<|wE (kA (u_mul l2 (qI hl2 (by decide)) l3 (qI hl3 (by decide))))<|wE (kA (u_add (qU (gw 0) (kO l0 l1)) (qI (gl_add (k:=33554436) (gl_w (z:=0) (by omega) (by omega)) (yX (k:=33554432) hl0 hl1 (by decide)) (by decide)) (by decide)) (kO l2 l3) (qI (yX (k:=33554432) hl2 hl3 (by decide)) (by decide))))<|wT (qF jY)<|wZ) ?_
 refine kx [(4,(jK 4))] [] (zM<|zE (xE 4 (hr:=by decide))<|zM<|zZ) ?_
 refine fD (xU.refl _) ?_
 refine jB<|jB<|kx [(10,(vb false))] [] (zM<|zE (xE 5 (hr:=by decide))<|zM<|zE (oLn uW 4)<|zE (uR false xY)<|zZ) ?_
 refine kI ?_
 refine kL<|jB<|kx [] [(0,some (bx (jD (jP (qU (qU (gw 0) (kO l0 l1)) (kO l2 l3))))))] (zR (kP jY)<|zT (qF jY)<|zZ) ?_
 refine jG ⟨_,(kJ (cs:=(bx (jD (jP (qU (qU (gw 0) (kO l0 l1)) (kO l2 l3)))))) (d:=(jD (jP (qU (qU (gw 0) (kO l0 l1)) (kO l2 l3))))) rfl rfl jY rfl rfl .nil),?_⟩
 rw[ga0];rfl
theorem u_w(x:qC)(y:jO)(z:jO)(bv:List R2)(hbx:∀ x∈bv,GL 1048576 x)(L:List JV)(hbl:bv.length≤1000000)(hn:eV bv.length L x)(hLk:∀ e9∈L,nF 1048576 bv.length e9)(hJ:nF 1048576 bv.length (nJ bv L x))(hy:1≤xP x.op→y=jP (jA L x.a).v)(hz:xP x.op=2→z=jP (jA L x.b).v):jS Tryz.prog 110 [(kG x),(jD y),(jD z),(.sl 61 8 (List.map jD (List.map jP bv)))] (.tup [(jD (jP (nV bv L x))),(.val (.int .i64 (((0:Nat):Int))))]):=by
 have hS:StOk bv.length L x:=.inl hn
 refine jJ Tryz.func110 rfl cb110 rfl ?_
 show qM _ _ _ _ ⟨[(0,(.d (kG x))),(1,(.d (jD y))),(2,(.d (jD z))),(3,(vl 61 8 jD (List.map jP bv)))],[]⟩
 refine jB<|kx [(4,(.ref 0 0)),(5,(.ref 1 0)),(6,(.ref 2 0)),(8,(.ref 3 0))] [(0,some (bx (kG x))),(1,some (bx (jD y))),(2,some (bx (jD z))),(3,some (bx (jD (jO.mk kR kR))))] (zN (uY 0)<|zN (uY 1)<|zN (uY 2)<|zN (qW 3 qL qR)<|zM<|zZ) ?_
 refine jB<|jB<|kx [(11,(vi x.op))] [] (zE (qA vK)<|zR (qX nQ)<|zZ) ?_
 refine jI<|jB<|kx [(12,(vb (x.op == 1)))] [] (zE xR<|zM<|zZ) ?_
 refine jH (b:=(x.op == 1)) rfl (fun h1=>?_) (fun h1=>?_)
 ·replace h1:=eq_of_beq h1
  have hop:=h1
  obtain ⟨a1,a2⟩:=hn.var hop
  refine jB<|kx [(9,(jK 0))] [(3,some (bx (jD (jP (bv.getD ((x.a).toNat) z2)))))] (zM<|zE (qA yD)<|zR (qX gI)<|zE (oXm uW jP ((x.a).toNat) z2)<|zE (gN jY)<|zT (qF jY)<|zM<|zZ) ?_
  refine jG ⟨_,(kJ (cs:=(bx (jD (jP (bv.getD ((x.a).toNat) z2))))) (d:=(jD (jP (bv.getD ((x.a).toNat) z2)))) rfl rfl jY rfl rfl (.tmp (d:=(.val (.int .i64 (0)))) rfl .nil)),?_⟩
  rw[nV_1 hop];rfl
 ·replace h1:=ne_of_beq_false h1
  refine jB<|kx [(19,(vb (x.op == 2)))] [] (zE xR<|zM<|zZ) ?_
  refine jH (b:=(x.op == 2)) rfl (fun h2=>?_) (fun h2=>?_)
  ·replace h2:=eq_of_beq h2
   have hk2:xP x.op=2:=by rw[h2];rfl
   have hop:=h2
   obtain ⟨a1,a2⟩:=hS.a (by omega)
   obtain ⟨b1,b2⟩:=hS.b hk2
   have hy2:=hy (by omega)
   have hz2:=hz hk2
   have hu:=hLk _ (xL (d:=jz) a2)
   have hv:=hLk _ (xL (d:=jz) b2)
   have hul:(jA L x.a).g.length=bv.length:=hu.2.2
   have hvl:(jA L x.b).g.length=bv.length:=hv.2.2
   refine jB<|kx [(9,(jK 0))] [(3,some (bx (jD (jP (qU ((jA L x.a).v) ((jA L x.b).v))))))] (zR (aT (jD y) (jD (jP ((jA L x.a).v))) (kP jY) (by exact (congrArg jD hy2)))<|zR (aT (jD z) (jD (jP ((jA L x.b).v))) (kP jY) (by exact (congrArg jD hz2)))<|zE (kA (u_add ((jA L x.a).v) (qI hu.1 (by decide)) ((jA L x.b).v) (qI hv.1 (by decide))))<|zT (qF jY)<|zM<|zZ) ?_
   refine jG ⟨_,(kJ (cs:=(bx (jD (jP (qU ((jA L x.a).v) ((jA L x.b).v)))))) (d:=(jD (jP (qU ((jA L x.a).v) ((jA L x.b).v))))) rfl rfl jY rfl rfl (.tmp (d:=(.val (.int .i64 (0)))) rfl .nil)),?_⟩
   rw[nV_2 hop];rfl
  ·replace h2:=ne_of_beq_false h2
   refine jB<|kx [(24,(vb (x.op == 3)))] [] (zE xR<|zM<|zZ) ?_
   refine jH (b:=(x.op == 3)) rfl (fun h3=>?_) (fun h3=>?_)
   ·replace h3:=eq_of_beq h3
    have hk2:xP x.op=2:=by rw[h3];rfl
    have hop:=h3
    obtain ⟨a1,a2⟩:=hS.a (by omega)
    obtain ⟨b1,b2⟩:=hS.b hk2
    have hy2:=hy (by omega)
    have hz2:=hz hk2
    have hu:=hLk _ (xL (d:=jz) a2)
    have hv:=hLk _ (xL (d:=jz) b2)
    have hul:(jA L x.a).g.length=bv.length:=hu.2.2
    have hvl:(jA L x.b).g.length=bv.length:=hv.2.2
    refine jB<|kx [(9,(jK 0))] [(3,some (bx (jD (jP (kZ ((jA L x.a).v) ((jA L x.b).v))))))] (zR (aT (jD y) (jD (jP ((jA L x.a).v))) (kP jY) (by exact (congrArg jD hy2)))<|zR (aT (jD z) (jD (jP ((jA L x.b).v))) (kP jY) (by exact (congrArg jD hz2)))<|zE (kA (u_sub ((jA L x.a).v) (qI hu.1 (by decide)) ((jA L x.b).v) (qI hv.1 (by decide))))<|zT (qF jY)<|zM<|zZ) ?_
    refine jG ⟨_,(kJ (cs:=(bx (jD (jP (kZ ((jA L x.a).v) ((jA L x.b).v)))))) (d:=(jD (jP (kZ ((jA L x.a).v) ((jA L x.b).v))))) rfl rfl jY rfl rfl (.tmp (d:=(.val (.int .i64 (0)))) rfl .nil)),?_⟩
    rw[nV_3 hop];rfl
   ·replace h3:=ne_of_beq_false h3
    refine jB<|kx [(29,(vb (x.op == 4)))] [] (zE xR<|zM<|zZ) ?_
    refine jH (b:=(x.op == 4)) rfl (fun h4=>?_) (fun h4=>?_)
    ·replace h4:=eq_of_beq h4
     have hk2:xP x.op=2:=by rw[h4];rfl
     have hop:=h4
     obtain ⟨a1,a2⟩:=hS.a (by omega)
     obtain ⟨b1,b2⟩:=hS.b hk2
     have hy2:=hy (by omega)
     have hz2:=hz hk2
     have hu:=hLk _ (xL (d:=jz) a2)
     have hv:=hLk _ (xL (d:=jz) b2)
     have hul:(jA L x.a).g.length=bv.length:=hu.2.2
     have hvl:(jA L x.b).g.length=bv.length:=hv.2.2
     refine jB<|kx [(9,(jK 0))] [(3,some (bx (jD (jP (kO ((jA L x.a).v) ((jA L x.b).v))))))] (zR (aT (jD y) (jD (jP ((jA L x.a).v))) (kP jY) (by exact (congrArg jD hy2)))<|zR (aT (jD z) (jD (jP ((jA L x.b).v))) (kP jY) (by exact (congrArg jD hz2)))<|zE (kA (u_mul ((jA L x.a).v) (qI hu.1 (by decide)) ((jA L x.b).v) (qI hv.1 (by decide))))<|zT (qF jY)<|zM<|zZ) ?_
     refine jG ⟨_,(kJ (cs:=(bx (jD (jP (kO ((jA L x.a).v) ((jA L x.b).v)))))) (d:=(jD (jP (kO ((jA L x.a).v) ((jA L x.b).v))))) rfl rfl jY rfl rfl (.tmp (d:=(.val (.int .i64 (0)))) rfl .nil)),?_⟩
     rw[nV_4 hop];rfl
    ·replace h4:=ne_of_beq_false h4
     refine jB<|kx [(34,(vb (x.op == 5)))] [] (zE xR<|zM<|zZ) ?_
     refine jH (b:=(x.op == 5)) rfl (fun h5=>?_) (fun h5=>?_)
     ·replace h5:=eq_of_beq h5
      have hk2:xP x.op=2:=by rw[h5];rfl
      have hop:=h5
      obtain ⟨a1,a2⟩:=hS.a (by omega)
      obtain ⟨b1,b2⟩:=hS.b hk2
      have hy2:=hy (by omega)
      have hz2:=hz hk2
      have hu:=hLk _ (xL (d:=jz) a2)
      have hv:=hLk _ (xL (d:=jz) b2)
      have hul:(jA L x.a).g.length=bv.length:=hu.2.2
      have hvl:(jA L x.b).g.length=bv.length:=hv.2.2
      refine jB<|kx [(9,(jK 0))] [(3,some (bx (jD (jP (uP ((jA L x.a).v) ((jA L x.b).v))))))] (zR (aT (jD y) (jD (jP ((jA L x.a).v))) (kP jY) (by exact (congrArg jD hy2)))<|zR (aT (jD z) (jD (jP ((jA L x.b).v))) (kP jY) (by exact (congrArg jD hz2)))<|zE (kA (u_div ((jA L x.a).v) (qI hu.1 (by decide)) ((jA L x.b).v) (qI hv.1 (by decide)) (hn.zf hop)))<|zE vI<|zE vI<|zT (qF jY)<|zM<|zZ) ?_
      refine jG ⟨_,(kJ (cs:=(bx (jD (jP (uP ((jA L x.a).v) ((jA L x.b).v)))))) (d:=(jD (jP (uP ((jA L x.a).v) ((jA L x.b).v))))) rfl rfl jY rfl rfl (.tmp (d:=(.val (.int .i64 (((0:Nat):Int))))) rfl .nil)),?_⟩
      rw[nV_5 hop];rfl
     ·replace h5:=ne_of_beq_false h5
      refine jB<|kx [(41,(vb (x.op == 6)))] [] (zE xR<|zM<|zZ) ?_
      refine jH (b:=(x.op == 6)) rfl (fun h6=>?_) (fun h6=>?_)
      ·replace h6:=eq_of_beq h6
       have hk1:xP x.op=1:=by rw[h6];rfl
       have hop:=h6
       obtain ⟨a1,a2⟩:=hS.a (by omega)
       have hy2:=hy (by omega)
       have hu:=hLk _ (xL (d:=jz) a2)
       have hul:(jA L x.a).g.length=bv.length:=hu.2.2
       refine jB<|kx [(9,(jK 0))] [(3,some (bx (jD (jP (gneg ((jA L x.a).v))))))] (zR (aT (jD y) (jD (jP ((jA L x.a).v))) (kP jY) (by exact (congrArg jD hy2)))<|zE (kA (u_neg ((jA L x.a).v) (qI hu.1 (by decide))))<|zT (qF jY)<|zM<|zZ) ?_
       refine jG ⟨_,(kJ (cs:=(bx (jD (jP (gneg ((jA L x.a).v)))))) (d:=(jD (jP (gneg ((jA L x.a).v))))) rfl rfl jY rfl rfl (.tmp (d:=(.val (.int .i64 (0)))) rfl .nil)),?_⟩
       rw[nV_6 hop];rfl
      ·replace h6:=ne_of_beq_false h6
       refine jB<|kx [(45,(vb (x.op == 7)))] [] (zE xR<|zM<|zZ) ?_
       refine jH (b:=(x.op == 7)) rfl (fun h7=>?_) (fun h7=>?_)
       ·replace h7:=eq_of_beq h7
        have hk1:xP x.op=1:=by rw[h7];rfl
        have hop:=h7
        obtain ⟨a1,a2⟩:=hS.a (by omega)
        have hy2:=hy (by omega)
        have hu:=hLk _ (xL (d:=jz) a2)
        have hul:(jA L x.a).g.length=bv.length:=hu.2.2
        refine jB<|kx [(9,(jK 0))] [(3,some (bx (jD (jP (aJ ((jA L x.a).v))))))] (zR (aT (jD y) (jD (jP ((jA L x.a).v))) (kP jY) (by exact (congrArg jD hy2)))<|zE (kA (u_sq ((jA L x.a).v) (qI hu.1 (by decide))))<|zT (qF jY)<|zM<|zZ) ?_
        refine jG ⟨_,(kJ (cs:=(bx (jD (jP (aJ ((jA L x.a).v)))))) (d:=(jD (jP (aJ ((jA L x.a).v))))) rfl rfl jY rfl rfl (.tmp (d:=(.val (.int .i64 (0)))) rfl .nil)),?_⟩
        rw[nV_7 hop];rfl
       ·replace h7:=ne_of_beq_false h7
        have hop:x.op=0:=by have:=hn.op;omega
        have hc9:=hn.con hop
        refine jF<|jB<|kx [(9,(jK 0))] [(3,some (bx (jD (jO.mk (jM (qN x.n)) (jM (qN x.n))))))] (zE (qA dP)<|zR (aT (jL x.n) (jL (jM (qN x.n))) (kP jW) (by exact (congrArg jL hc9.1)))<|zE (kA (h_point (qN x.n) (qu hc9.2)))<|zT (qF jY)<|zM<|zZ) ?_
        refine jG ⟨_,(kJ (cs:=(bx (jD (jO.mk (jM (qN x.n)) (jM (qN x.n)))))) (d:=(jD (jO.mk (jM (qN x.n)) (jM (qN x.n))))) rfl rfl jY rfl rfl (.tmp (d:=(.val (.int .i64 (0)))) rfl .nil)),?_⟩
        rw[nV_0 hop];rfl
theorem u_vF(a:Nat)(b:Nat)(u:R2)(hu:GL 1048576 u)(v:R2)(hv:GL 1048576 v)(b_:jZ)(hz:yS v.1 v.2=true):jS Tryz.prog 110 [(kG (qC.mk 5 ((a:Nat):Int) ((b:Nat):Int) kR)),(jD (jP u)),(jD (jP v)),(b_)] (.tup [(jD (jO.mk kR kR)),(.val (.int .i64 (((14:Nat):Int))))]):=by
 let y1:=kR
 refine jJ Tryz.func110 rfl cb110 rfl ?_
 show qM _ _ _ _ ⟨[(0,(.d (kG (qC.mk 5 ((a:Nat):Int) ((b:Nat):Int) y1)))),(1,(.d (jD (jP u)))),(2,(.d (jD (jP v)))),(3,(.d (b_)))],[]⟩
 refine jB<|kx [(4,(.ref 0 0)),(5,(.ref 1 0)),(6,(.ref 2 0)),(8,(.ref 3 0))] [(0,some (bx (kG (qC.mk 5 ((a:Nat):Int) ((b:Nat):Int) y1)))),(1,some (bx (jD (jP u)))),(2,some (bx (jD (jP v)))),(3,some (bx (jD (jO.mk y1 y1))))] (zN (uY 0)<|zN (uY 1)<|zN (uY 2)<|zN (qW 3 qL qR)<|zM<|zZ) ?_
 refine jB<|jB<|kx [(11,(vi 5))] [] (zE (qA vK)<|zR (qX nQ)<|zZ) ?_
 refine jI<|jB<|kx [(12,(vb false))] [] (zE (uR false xR)<|zM<|zZ) ?_
 refine kI ?_
 refine jB<|kx [(19,(vb false))] [] (zE (uR false xR)<|zM<|zZ) ?_
 refine kI ?_
 refine jB<|kx [(24,(vb false))] [] (zE (uR false xR)<|zM<|zZ) ?_
 refine kI ?_
 refine jB<|kx [(29,(vb false))] [] (zE (uR false xR)<|zM<|zZ) ?_
 refine kI ?_
 refine jB<|kx [(34,(vb true))] [] (zE (uR true xR)<|zM<|zZ) ?_
 refine uD ?_
 refine jB<|kx [(9,(vi 14))] [(3,some (bx (jD (jO.mk y1 y1))))] (zR (kP jY)<|zR (kP jY)<|zE (kA (h_divideZ u.1 u.2 (qu hu.1) (qu hu.2.1) hu.2.2 v.1 v.2 (qu hv.1) (qu hv.2.1) hv.2.2 hz))<|zE vI<|zE vI<|zT (qF jY)<|zM<|zZ) ?_
 refine jG ⟨_,(kJ (cs:=(bx (jD (jO.mk kR kR)))) (d:=(jD (jO.mk kR kR))) rfl rfl jY rfl rfl (.tmp (d:=(.val (.int .i64 (14)))) rfl .nil)),?_⟩
 rfl
theorem u_x(x:qC)(y:qK)(z:qK)(w:jO)(i:Nat)(bv:List R2)(L:List JV)(hn:eV bv.length L x)(hLk:∀ e9∈L,nF 1048576 bv.length e9)(hJ:nF 1048576 bv.length (nJ bv L x))(hi:i<bv.length)(hy:1≤xP x.op→y=jN (jA L x.a))(hz:xP x.op=2→z=jN (jA L x.b))(hw:w=jP (nV bv L x)):jS Tryz.prog 112 [(kG x),(jC y),(jC z),(jD w),(.val (.int .i64 (((i:Nat):Int))))] (jD (jP (nG bv L x i))):=by
 have hS:StOk bv.length L x:=.inl hn
 let y1:=(List.map jD (List.map jP ((jA L x.a).g)))
 refine jJ Tryz.func112 rfl cb112 rfl ?_
 show qM _ _ _ _ ⟨[(0,(.d (kG x))),(1,(.d (jC y))),(2,(.d (jC z))),(3,(.d (jD w))),(4,(jK i))],[]⟩
 refine jB<|kx [(5,(.ref 0 0)),(6,(.ref 1 0)),(7,(.ref 2 0)),(8,(.ref 3 0)),(10,(.ref 4 0))] [(0,some (bx (kG x))),(1,some (bx (jC y))),(2,some (bx (jC z))),(3,some (bx (jD w))),(4,some (bx (jD (jO.mk kR kR))))] (zN (uY 0)<|zN (uY 1)<|zN (uY 2)<|zN (uY 3)<|zN (qW 4 qL qR)<|zZ) ?_
 refine jB<|jB<|kx [(14,(vi x.op))] [] (zE (qA vK)<|zR (qX nQ)<|zZ) ?_
 refine jI<|jB<|kx [(15,(vb (x.op == 1)))] [] (zE xR<|zM<|zZ) ?_
 refine jH (b:=(x.op == 1)) rfl (fun h1=>?_) (fun h1=>?_)
 ·replace h1:=eq_of_beq h1
  have hop:=h1
  refine jB<|kx [(20,(vb (((i:Nat):Int) == x.a)))] [] (zM<|zE (qA yD)<|zR (qX gI)<|zE xR<|zZ) ?_
  refine jH (b:=(((i:Nat):Int) == x.a)) rfl (fun h2=>?_) (fun h2=>?_)
  ·replace h2:=eq_of_beq h2
   refine jB<|kx [] [(4,some (bx (jD (jP (gw 1)))))] (zE (kA u_one)<|zT (qF jY)<|zZ) ?_
   refine jG ⟨_,(kJ (cs:=(bx (jD (jP (gw 1))))) (d:=(jD (jP (gw 1)))) rfl rfl jY rfl rfl .nil),?_⟩
   rw[nG_1 hop,if_pos h2];rfl
  ·replace h2:=ne_of_beq_false h2
   refine jF<|jB<|kx [] [(4,some (bx (jD (jP (gw 0)))))] (zE (kA u_none)<|zT (qF jY)<|zZ) ?_
   refine jG ⟨_,(kJ (cs:=(bx (jD (jP (gw 0))))) (d:=(jD (jP (gw 0)))) rfl rfl jY rfl rfl .nil),?_⟩
   rw[nG_1 hop,if_neg h2];rfl
 ·replace h1:=ne_of_beq_false h1
  refine jB<|kx [(22,(vb (x.op == 2)))] [] (zE xR<|zM<|zZ) ?_
  refine jH (b:=(x.op == 2)) rfl (fun h3=>?_) (fun h3=>?_)
  ·replace h3:=eq_of_beq h3
   have hk2:xP x.op=2:=by rw[h3];rfl
   have hop:=h3
   obtain ⟨a1,a2⟩:=hS.a (by omega)
   obtain ⟨b1,b2⟩:=hS.b hk2
   have hy2:=hy (by omega)
   have hz2:=hz hk2
   have hu:=hLk _ (xL (d:=jz) a2)
   have hv:=hLk _ (xL (d:=jz) b2)
   have hul:(jA L x.a).g.length=bv.length:=hu.2.2
   have hvl:(jA L x.b).g.length=bv.length:=hv.2.2
   refine jB<|kd [] [(4,some (bx (jD (jP (qU (((jA L x.a).g).getD i z2) (((jA L x.b).g).getD i z2))))))] mo (wE (qA uX)<|wR (aT (.sl 61 8 (List.map jD y.grad)) (.sl 61 8 y1) (qX gS) (by exact (by rw[hy2];rfl)))<|wM<|wE (oXm uW jP i z2)<|wE (gN jY)<|wE (qA uX)<|wR (aT (.sl 61 8 (List.map jD z.grad)) (.sl 61 8 (List.map jD (List.map jP ((jA L x.b).g)))) (qX gS) (by exact (by rw[hz2];rfl)))<|wM<|wE (oXm uW jP i z2)<|wE (gN jY)<|wE (kA (u_add (((jA L x.a).g).getD i z2) (qI (uT hu.2.1 (by decide) i) (by decide)) (((jA L x.b).g).getD i z2) (qI (uT hv.2.1 (by decide) i) (by decide))))<|wT (qF jY)<|wZ) ?_
   refine jG ⟨_,(kJ (cs:=(bx (jD (jP (qU (((jA L x.a).g).getD i z2) (((jA L x.b).g).getD i z2)))))) (d:=(jD (jP (qU (((jA L x.a).g).getD i z2) (((jA L x.b).g).getD i z2))))) rfl rfl jY rfl rfl .nil),?_⟩
   rw[nG_2 hop];rfl
  ·replace h3:=ne_of_beq_false h3
   refine jB<|kx [(35,(vb (x.op == 3)))] [] (zE xR<|zM<|zZ) ?_
   refine jH (b:=(x.op == 3)) rfl (fun h4=>?_) (fun h4=>?_)
   ·replace h4:=eq_of_beq h4
    have hk2:xP x.op=2:=by rw[h4];rfl
    have hop:=h4
    obtain ⟨a1,a2⟩:=hS.a (by omega)
    obtain ⟨b1,b2⟩:=hS.b hk2
    have hy2:=hy (by omega)
    have hz2:=hz hk2
    have hu:=hLk _ (xL (d:=jz) a2)
    have hv:=hLk _ (xL (d:=jz) b2)
    have hul:(jA L x.a).g.length=bv.length:=hu.2.2
    have hvl:(jA L x.b).g.length=bv.length:=hv.2.2
    refine jB<|kd [] [(4,some (bx (jD (jP (kZ (((jA L x.a).g).getD i z2) (((jA L x.b).g).getD i z2))))))] mo (wE (qA uX)<|wR (aT (.sl 61 8 (List.map jD y.grad)) (.sl 61 8 y1) (qX gS) (by exact (by rw[hy2];rfl)))<|wM<|wE (oXm uW jP i z2)<|wE (gN jY)<|wE (qA uX)<|wR (aT (.sl 61 8 (List.map jD z.grad)) (.sl 61 8 (List.map jD (List.map jP ((jA L x.b).g)))) (qX gS) (by exact (by rw[hz2];rfl)))<|wM<|wE (oXm uW jP i z2)<|wE (gN jY)<|wE (kA (u_sub (((jA L x.a).g).getD i z2) (qI (uT hu.2.1 (by decide) i) (by decide)) (((jA L x.b).g).getD i z2) (qI (uT hv.2.1 (by decide) i) (by decide))))<|wT (qF jY)<|wZ) ?_
    refine jG ⟨_,(kJ (cs:=(bx (jD (jP (kZ (((jA L x.a).g).getD i z2) (((jA L x.b).g).getD i z2)))))) (d:=(jD (jP (kZ (((jA L x.a).g).getD i z2) (((jA L x.b).g).getD i z2))))) rfl rfl jY rfl rfl .nil),?_⟩
    rw[nG_3 hop];rfl
   ·replace h4:=ne_of_beq_false h4
    refine jB<|kx [(48,(vb (x.op == 6)))] [] (zE xR<|zM<|zZ) ?_
    refine jH (b:=(x.op == 6)) rfl (fun h5=>?_) (fun h5=>?_)
    ·replace h5:=eq_of_beq h5
     have hk1:xP x.op=1:=by rw[h5];rfl
     have hop:=h5
     obtain ⟨a1,a2⟩:=hS.a (by omega)
     have hy2:=hy (by omega)
     have hu:=hLk _ (xL (d:=jz) a2)
     have hul:(jA L x.a).g.length=bv.length:=hu.2.2
     refine jB<|kx [] [(4,some (bx (jD (jP (gneg (((jA L x.a).g).getD i z2))))))] (zE (qA uX)<|zR (aT (.sl 61 8 (List.map jD y.grad)) (.sl 61 8 y1) (qX gS) (by exact (by rw[hy2];rfl)))<|zM<|zE (oXm uW jP i z2)<|zE (gN jY)<|zE (kA (u_neg (((jA L x.a).g).getD i z2) (qI (uT hu.2.1 (by decide) i) (by decide))))<|zT (qF jY)<|zZ) ?_
     refine jG ⟨_,(kJ (cs:=(bx (jD (jP (gneg (((jA L x.a).g).getD i z2)))))) (d:=(jD (jP (gneg (((jA L x.a).g).getD i z2))))) rfl rfl jY rfl rfl .nil),?_⟩
     rw[nG_6 hop];rfl
    ·replace h5:=ne_of_beq_false h5
     refine jB<|kx [(56,(vb (x.op == 4)))] [] (zE xR<|zM<|zZ) ?_
     refine jH (b:=(x.op == 4)) rfl (fun h6=>?_) (fun h6=>?_)
     ·replace h6:=eq_of_beq h6
      have hk2:xP x.op=2:=by rw[h6];rfl
      have hop:=h6
      obtain ⟨a1,a2⟩:=hS.a (by omega)
      obtain ⟨b1,b2⟩:=hS.b hk2
      have hy2:=hy (by omega)
      have hz2:=hz hk2
      have hu:=hLk _ (xL (d:=jz) a2)
      have hv:=hLk _ (xL (d:=jz) b2)
      have hul:(jA L x.a).g.length=bv.length:=hu.2.2
      have hvl:(jA L x.b).g.length=bv.length:=hv.2.2
      refine jB<|kd [] [(4,some (bx (jD (jP (qU (kO ((jA L x.a).v) (((jA L x.b).g).getD i z2)) (kO ((jA L x.b).v) (((jA L x.a).g).getD i z2)))))))] mo (wE (qA yC)<|wR (aT (jD y.value) (jD (jP ((jA L x.a).v))) (kP jY) (by exact (by rw[hy2];rfl)))<|wE (qA uX)<|wR (aT (.sl 61 8 (List.map jD z.grad)) (.sl 61 8 (List.map jD (List.map jP ((jA L x.b).g)))) (qX gS) (by exact (by rw[hz2];rfl)))<|wM<|wE (oXm uW jP i z2)<|wE (gN jY)<|wE (qA yC)<|wR (aT (jD z.value) (jD (jP ((jA L x.b).v))) (kP jY) (by exact (by rw[hz2];rfl)))<|wE (qA uX)<|wR (aT (.sl 61 8 (List.map jD y.grad)) (.sl 61 8 y1) (qX gS) (by exact (by rw[hy2];rfl)))<|wM<|wE (oXm uW jP i z2)<|wE (gN jY)<|wE (mC uW qL qR)<|wE (kA (u_pair ((jA L x.a).v) (((jA L x.b).g).getD i z2) ((jA L x.b).v) (((jA L x.a).g).getD i z2) (qI hu.1 (by decide)) (qI (uT hv.2.1 (by decide) i) (by decide)) (qI hv.1 (by decide)) (qI (uT hu.2.1 (by decide) i) (by decide))))<|wT (qF jY)<|wZ) ?_
      refine jG ⟨_,(kJ (cs:=(bx (jD (jP (qU (kO ((jA L x.a).v) (((jA L x.b).g).getD i z2)) (kO ((jA L x.b).v) (((jA L x.a).g).getD i z2))))))) (d:=(jD (jP (qU (kO ((jA L x.a).v) (((jA L x.b).g).getD i z2)) (kO ((jA L x.b).v) (((jA L x.a).g).getD i z2)))))) rfl rfl jY rfl rfl .nil),?_⟩
      rw[nG_4 hop];rfl
     ·replace h6:=ne_of_beq_false h6
      refine jB<|kx [(74,(vb (x.op == 7)))] [] (zE xR<|zM<|zZ) ?_
      refine jH (b:=(x.op == 7)) rfl (fun h7=>?_) (fun h7=>?_)
      ·replace h7:=eq_of_beq h7
       have hk1:xP x.op=1:=by rw[h7];rfl
       have hop:=h7
       obtain ⟨a1,a2⟩:=hS.a (by omega)
       have hy2:=hy (by omega)
       have hu:=hLk _ (xL (d:=jz) a2)
       have hul:(jA L x.a).g.length=bv.length:=hu.2.2
       refine jB<|kd [] [(4,some (bx (jD (jP (kO (gw 2) (kO ((jA L x.a).v) (((jA L x.a).g).getD i z2)))))))] mo (wE (qA yC)<|wR (aT (jD y.value) (jD (jP ((jA L x.a).v))) (kP jY) (by exact (by rw[hy2];rfl)))<|wE (qA uX)<|wR (aT (.sl 61 8 (List.map jD y.grad)) (.sl 61 8 y1) (qX gS) (by exact (by rw[hy2];rfl)))<|wM<|wE (oXm uW jP i z2)<|wE (gN jY)<|wE (kA (u_mul ((jA L x.a).v) (qI hu.1 (by decide)) (((jA L x.a).g).getD i z2) (qI (uT hu.2.1 (by decide) i) (by decide))))<|wE (kA (u_twice (kO ((jA L x.a).v) (((jA L x.a).g).getD i z2)) (qI (yX (k:=2097152) hu.1 (uT hu.2.1 (by decide) i) (by decide)) (by decide))))<|wT (qF jY)<|wZ) ?_
       refine jG ⟨_,(kJ (cs:=(bx (jD (jP (kO (gw 2) (kO ((jA L x.a).v) (((jA L x.a).g).getD i z2))))))) (d:=(jD (jP (kO (gw 2) (kO ((jA L x.a).v) (((jA L x.a).g).getD i z2)))))) rfl rfl jY rfl rfl .nil),?_⟩
       rw[nG_7 hop];rfl
      ·replace h7:=ne_of_beq_false h7
       refine jB<|kx [(85,(vb (x.op == 5)))] [] (zE xR<|zM<|zZ) ?_
       refine jH (b:=(x.op == 5)) rfl (fun h8=>?_) (fun h8=>?_)
       ·replace h8:=eq_of_beq h8
        have hk2:xP x.op=2:=by rw[h8];rfl
        have hop:=h8
        obtain ⟨a1,a2⟩:=hS.a (by omega)
        obtain ⟨b1,b2⟩:=hS.b hk2
        have hy2:=hy (by omega)
        have hz2:=hz hk2
        have hu:=hLk _ (xL (d:=jz) a2)
        have hv:=hLk _ (xL (d:=jz) b2)
        have hul:(jA L x.a).g.length=bv.length:=hu.2.2
        have hvl:(jA L x.b).g.length=bv.length:=hv.2.2
        refine jB<|kd [(11,(.ref 5 0))] [(5,some (bx (jD (jP (uP (kZ (((jA L x.a).g).getD i z2) (kO (nV bv L x) (((jA L x.b).g).getD i z2))) ((jA L x.b).v))))))] mo (wE (qA uX)<|wR (aT (.sl 61 8 (List.map jD y.grad)) (.sl 61 8 y1) (qX gS) (by exact (by rw[hy2];rfl)))<|wM<|wE (oXm uW jP i z2)<|wE (gN jY)<|wR (aT (jD w) (jD (jP (nV bv L x))) (kP jY) (by exact (congrArg jD hw)))<|wE (qA uX)<|wR (aT (.sl 61 8 (List.map jD z.grad)) (.sl 61 8 (List.map jD (List.map jP ((jA L x.b).g)))) (qX gS) (by exact (by rw[hz2];rfl)))<|wM<|wE (oXm uW jP i z2)<|wE (gN jY)<|wE (kA (u_mul (nV bv L x) (qI hJ.1 (by decide)) (((jA L x.b).g).getD i z2) (qI (uT hv.2.1 (by decide) i) (by decide))))<|wE (kA (u_sub (((jA L x.a).g).getD i z2) (qI (uT hu.2.1 (by decide) i) (by decide)) (kO (nV bv L x) (((jA L x.b).g).getD i z2)) (qI (yX (k:=2097152) hJ.1 (uT hv.2.1 (by decide) i) (by decide)) (by decide))))<|wE (qA yC)<|wR (aT (jD z.value) (jD (jP ((jA L x.b).v))) (kP jY) (by exact (by rw[hz2];rfl)))<|wE (kA (u_div (kZ (((jA L x.a).g).getD i z2) (kO (nV bv L x) (((jA L x.b).g).getD i z2))) (qI (fJ (k:=3145729) (uT hu.2.1 (by decide) i) (yX (k:=2097152) hJ.1 (uT hv.2.1 (by decide) i) (by decide)) (by decide)) (by decide)) ((jA L x.b).v) (qI hv.1 (by decide)) (hn.zf hop)))<|wM<|wE vI<|wE vI<|wN (qW 5 qL qR)<|wT (qF jY)<|wM<|wZ) ?_
        refine jB<|kx [] [(4,some (bx (jD (jP (uP (kZ (((jA L x.a).g).getD i z2) (kO (nV bv L x) (((jA L x.b).g).getD i z2))) ((jA L x.b).v))))))] (zR (kP jY)<|zT (qF jY)<|zZ) ?_
        refine jG ⟨_,(kJ (cs:=(bx (jD (jP (uP (kZ (((jA L x.a).g).getD i z2) (kO (nV bv L x) (((jA L x.b).g).getD i z2))) ((jA L x.b).v)))))) (d:=(jD (jP (uP (kZ (((jA L x.a).g).getD i z2) (kO (nV bv L x) (((jA L x.b).g).getD i z2))) ((jA L x.b).v))))) rfl rfl jY rfl rfl .nil),?_⟩
        rw[nG_5 hop];rfl
       ·replace h8:=ne_of_beq_false h8
        have hop:x.op=0:=by have:=hn.op;omega
        have hc9:=hn.con hop
        refine jF<|jB<|kx [] [(4,some (bx (jD (jP (gw 0)))))] (zE (kA u_none)<|zT (qF jY)<|zZ) ?_
        refine jG ⟨_,(kJ (cs:=(bx (jD (jP (gw 0))))) (d:=(jD (jP (gw 0)))) rfl rfl jY rfl rfl .nil),?_⟩
        rw[nG_0 hop];rfl
theorem pl83:eF Tryz.prog 83=some [(0,1),(1,1),(2,1),(3,4)]:=by kernel_rfl
end Go.Proofs.YtnajallgoaiahaaGreatDoor
namespace Go.Fid
def vV(xs L:List Rat)(x:qC):Rat :=
 if x.op=1 then xs.getD x.a.toNat 0
 else if x.op=2 then L.getD x.a.toNat 0+L.getD x.b.toNat 0
 else if x.op=3 then L.getD x.a.toNat 0-L.getD x.b.toNat 0
 else if x.op=4 then L.getD x.a.toNat 0*L.getD x.b.toNat 0
 else if x.op=6 then -(L.getD x.a.toNat 0)
 else if x.op=7 then L.getD x.a.toNat 0*L.getD x.a.toNat 0
 else if x.op=5 then L.getD x.a.toNat 0 / L.getD x.b.toNat 0
 else qN x.n
def vU(xs:List Rat)(t:List qC):Nat→List Rat
 |0=>[]
 |k+1=>vU xs t k++[vV xs (vU xs t k) (t.getD k tz)]
theorem vU_len(xs:List Rat)(t:List qC):∀ k,(vU xs t k).length=k
 |0=>rfl
 |k+1=>by rw[vU,List.length_append,vU_len xs t k];rfl
structure VUp (xs:List Rat) (t:List qC) (k:Nat):Prop where
 ok:∀ i,i<k→QL (vV xs (vU xs t i) (t.getD i tz)) 1048576
 dz:∀ i,i<k→(t.getD i tz).op=5→(vU xs t i).getD (t.getD i tz).b.toNat 0≠0
structure VRun (xs:List Rat) (t:List qC):Prop where
 c0:gQ ((xs.length:Nat):Int) t=0
 up:VUp xs t t.length
structure VFail (xs:List Rat) (t:List qC) (k:Nat):Prop where
 c0:gQ ((xs.length:Nat):Int) t=0
 hk:k<t.length
 up:VUp xs t k
 op:(t.getD k tz).op=5
 z:(vU xs t k).getD (t.getD k tz).b.toNat 0=0
theorem VUp.le{xs:List Rat}{t:List qC}{k j:Nat}(h:VUp xs t k)(hj:j≤k):VUp xs t j:=⟨fun i hi=>h.ok i (by omega),fun i hi=>h.dz i (by omega)⟩
theorem VUp.all{xs:List Rat}{t:List qC}:∀ {k},VUp xs t k→∀ q∈vU xs t k,QL q 1048576
 |0,_,q,hq=>by simp [vU] at hq
 |k+1,h,q,hq=>by
  rw[vU,List.mem_append] at hq
  rcases hq with hq | hq
  ·exact (h.le (Nat.le_succ k)).all q hq
  ·rw[List.mem_singleton] at hq;subst hq
   exact h.ok k (by omega)
def lastV(xs:List Rat)(t:List qC):Rat:=(vU xs t t.length).getD (t.length-1) 0
theorem qlg{l:List Rat}{n:Nat}(h:∀ q∈l,QL q n)(h1:1≤n)(j:Nat):QL (l.getD j 0) n:=by
 rcases Nat.lt_or_ge j l.length with hj | hj
 ·rw[List.getD_eq_getElem?_getD,List.getElem?_eq_getElem hj];exact h _ (List.getElem_mem _)
 ·rw[List.getD_eq_getElem?_getD,List.getElem?_eq_none (by omega)];exact xW dK h1
theorem VRun.last{xs:List Rat}{t:List qC}(h:VRun xs t):QL (lastV xs t) 1048576:=qlg h.up.all (by decide) _
def szs(t:List qC):List Int:=mZ t t.length
def evs(xs:List Rat)(t:List qC):List Rat:=vU xs t t.length
theorem szU_app(t:List qC)(x:qC):∀ k,k≤t.length→mZ (t++[x]) k=mZ t k
 |0,_=>rfl
 |k+1,h=>by
  rw[mZ,mZ,szU_app t x k (by omega)]
  rw[show (t++[x]).getD k tz=t.getD k tz by rw[List.getD_eq_getElem?_getD,List.getElem?_append_left (by omega),← List.getD_eq_getElem?_getD]]
theorem vU_app(xs:List Rat)(t:List qC)(x:qC):∀ k,k≤t.length→vU xs (t++[x]) k=vU xs t k
 |0,_=>rfl
 |k+1,h=>by
  rw[vU,vU,vU_app xs t x k (by omega)]
  rw[show (t++[x]).getD k tz=t.getD k tz by rw[List.getD_eq_getElem?_getD,List.getElem?_append_left (by omega),← List.getD_eq_getElem?_getD]]
theorem snoc_get(t:List qC)(x:qC):(t++[x]).getD t.length tz=x:=by
 rw[List.getD_eq_getElem?_getD,List.getElem?_append_right (Nat.le_refl _),Nat.sub_self];rfl
theorem snoc_old(t:List qC)(x:qC){k:Nat}(h:k<t.length):(t++[x]).getD k tz=t.getD k tz:=by
 rw[List.getD_eq_getElem?_getD,List.getElem?_append_left h,← List.getD_eq_getElem?_getD]
theorem szs_snoc(t:List qC)(x:qC):szs (t++[x])=szs t++[szN (szs t) x]:=by
 unfold szs
 rw[List.length_append,List.length_singleton,mZ,szU_app t x _ (Nat.le_refl _),snoc_get]
theorem evs_snoc(xs:List Rat)(t:List qC)(x:qC):evs xs (t++[x])=evs xs t++[vV xs (evs xs t) x]:=by
 unfold evs
 rw[List.length_append,List.length_singleton,vU,vU_app xs t x _ (Nat.le_refl _),snoc_get]
theorem szs_len(t:List qC):(szs t).length=t.length:=nH _ _
theorem evs_len(xs:List Rat)(t:List qC):(evs xs t).length=t.length:=vU_len _ _ _
structure GT (xs:List Rat) (z:Int) (t:List qC):Prop where
 nd:szUp z t t.length
 up:VUp xs t t.length
theorem GT.nil(xs:List Rat)(z:Int):GT xs z []:=⟨fun i h=>absurd h (Nat.not_lt_zero i),⟨fun i h=>absurd h (Nat.not_lt_zero i),fun i h=>absurd h (Nat.not_lt_zero i)⟩⟩
theorem nd_snoc{z:Int}{t:List qC}{x:qC}(h:szUp z t t.length)(hn:ndC z (szs t) x=0):szUp z (t++[x]) (t++[x]).length:=fun i hi=>by
 rw[List.length_append,List.length_singleton] at hi
 rw[szU_app t x i (by omega)]
 rcases Nat.lt_or_ge i t.length with h1 | h1
 ·rw[snoc_old t x h1];exact h i h1
 ·obtain rfl:i=t.length:=by omega
  rw[snoc_get];exact hn
theorem up_snoc{xs:List Rat}{t:List qC}{x:qC}(h:VUp xs t t.length):VUp xs (t++[x]) t.length:=⟨fun i hi=>by
  rw[vU_app xs t x i (by omega),snoc_old t x hi];exact h.ok i hi,fun i hi=>by
  rw[vU_app xs t x i (by omega),snoc_old t x hi];exact h.dz i hi⟩
theorem GT.snoc{xs:List Rat}{z:Int}{t:List qC}{x:qC}(h:GT xs z t)(hn:ndC z (szs t) x=0)(hq:QL (vV xs (evs xs t) x) 1048576)(hz:x.op=5→(evs xs t).getD x.b.toNat 0≠0):GT xs z (t++[x]) :=
 ⟨nd_snoc h.nd hn,⟨fun i hi=>by
  rw[List.length_append,List.length_singleton] at hi
  rcases Nat.lt_or_ge i t.length with h1 | h1
  ·exact (up_snoc h.up).ok i h1
  ·obtain rfl:i=t.length:=by omega
   rw[snoc_get,vU_app xs t x _ (Nat.le_refl _)];exact hq,fun i hi=>by
  rw[List.length_append,List.length_singleton] at hi
  rcases Nat.lt_or_ge i t.length with h1 | h1
  ·exact (up_snoc h.up).dz i h1
  ·obtain rfl:i=t.length:=by omega
   rw[snoc_get,vU_app xs t x _ (Nat.le_refl _)];exact hz⟩⟩
structure NdV (xs:List Rat) (t:List qC) (i:Int) (v:Rat) (s:Int) (n:Nat):Prop where
 lo:0≤i
 hi:i<t.length
 vl:(evs xs t).getD i.toNat 0=v
 s1:1≤(szs t).getD i.toNat 0
 sb:(szs t).getD i.toNat 0≤s
 qb:QL v n
theorem NdV.snoc{xs:List Rat}{t:List qC}{i:Int}{v:Rat}{s:Int}{n:Nat}(h:NdV xs t i v s n)(x:qC):NdV xs (t++[x]) i v s n:=by
 have h1:=h.lo;have h2:=h.hi
 refine ⟨h1,by rw[List.length_append];omega,?_,?_,?_,h.qb⟩
 ·rw[evs_snoc,List.getD_eq_getElem?_getD,List.getElem?_append_left (by rw[evs_len];omega),← List.getD_eq_getElem?_getD];exact h.vl
 ·rw[szs_snoc,List.getD_eq_getElem?_getD,List.getElem?_append_left (by rw[szs_len];omega),← List.getD_eq_getElem?_getD];exact h.s1
 ·rw[szs_snoc,List.getD_eq_getElem?_getD,List.getElem?_append_left (by rw[szs_len];omega),← List.getD_eq_getElem?_getD];exact h.sb
theorem NdV.up{xs:List Rat}{t:List qC}{i:Int}{v:Rat}{s s':Int}{n n':Nat}(h:NdV xs t i v s n)(hs:s≤s')(hn:n≤n'):NdV xs t i v s' n':=⟨h.lo,h.hi,h.vl,h.s1,Int.le_trans h.sb hs,xW h.qb hn⟩
abbrev tn1 (o a b:Int):qC:=⟨o,a,b,zr⟩
def opT(o:Int)(L:List qC)(a b:Nat→Int):Nat→List qC
 |0=>L
 |i+1=>opT o L a b i++[tn1 o (a i) (b i)]
def opI(m n:Nat):List Int:=(List.range n).map fun i=>((m+i:Nat):Int)
def smI(m:Nat)(f:Int)(i:Nat):Int:=if i=0 then f else ((m+i-1:Nat):Int)
def smT(L:List qC)(f:Int)(r:List Int)(n:Nat):List qC:=opT 2 L (smI L.length f) (fun i=>r.getD i 0) n
def sqT(L:List qC)(l:List Int):List qC:=opT 7 L (fun i=>l.getD i 0) (fun _=>0) l.length
def pdT(L:List qC)(a b:List Int):List qC:=opT 4 L (fun i=>a.getD i 0) (fun i=>b.getD i 0) a.length
def ssT(L:List qC)(l:List Int):List qC:=smT (sqT L l) ((opI L.length l.length).getD 0 0) ((opI L.length l.length).drop 1) (l.length-1)
def spT(L:List qC)(a b:List Int):List qC:=smT (pdT L a b) ((opI L.length a.length).getD 0 0) ((opI L.length a.length).drop 1) (a.length-1)
theorem NdV.op{xs:List Rat}{t:List qC}{j:Int}{v:Rat}{s:Int}{n:Nat}(h:NdV xs t j v s n)(o:Int)(a b:Nat→Int):∀ i,NdV xs (opT o t a b i) j v s n
 |0=>h
 |i+1=>(h.op o a b i).snoc _
theorem NdV.ss{xs:List Rat}{t:List qC}{j:Int}{v:Rat}{s:Int}{n:Nat}(h:NdV xs t j v s n)(l:List Int):NdV xs (ssT t l) j v s n:=(h.op _ _ _ _).op _ _ _ _
theorem NdV.sp{xs:List Rat}{t:List qC}{j:Int}{v:Rat}{s:Int}{n:Nat}(h:NdV xs t j v s n)(a b:List Int):NdV xs (spT t a b) j v s n:=(h.op _ _ _ _).op _ _ _ _
theorem GT.c0{xs:List Rat}{z:Int}{t:List qC}(h:GT xs z t)(hz:0≤z∧z≤64)(h1:t.length≠0)(h4:t.length≤400):gQ z t=0:=(tm_yes (by omega) h1 (by omega) h.nd).1
theorem GT.run{xs:List Rat}{t:List qC}(h:GT xs ((xs.length:Nat):Int) t)(hz:xs.length≤64)(h1:t.length≠0)(h4:t.length≤400):VRun xs t:=⟨h.c0 (by omega) h1 h4,h.up⟩
def okL(z:Int)(n:Nat)(a:List Int):Prop:=a.length=n∧∀ j,j<n→0≤a.getD j 0∧a.getD j 0<z
def crK(k:Int):Bool:=decide (k<0)||decide (64≤k)
theorem crK_of{a:List Int}(h:a.any crK=false){j:Nat}(hj:j<a.length):0≤a.getD j 0∧a.getD j 0<64:=by
 have:=List.any_eq_false.1 h (a.getD j 0) (by rw[List.getD_eq_getElem?_getD,List.getElem?_eq_getElem hj];exact List.getElem_mem _)
 unfold crK at this
 rw[Bool.not_eq_true,Bool.or_eq_false_iff,decide_eq_false_iff_not,decide_eq_false_iff_not] at this
 omega
structure CrOk (ls:List (List Int)) (n:Nat):Prop where
 n1:1≤n
 n3:n≤3
 all:∀ a∈ls,a.length=n∧a.any crK=false
theorem CrOk.le{ls:List (List Int)}{n:Nat}(h:CrOk ls n){a:List Int}(ha:a∈ls){z:Int}(hb:∀ k∈a,¬ (8<k∧k<64))(hz:z=9):okL z n a:=by
 obtain ⟨h1,h2⟩:=h.all a ha
 refine ⟨h1,fun j hj=>?_⟩
 have:=crK_of h2 (j:=j) (by omega)
 have:=hb (a.getD j 0) (by rw[List.getD_eq_getElem?_getD,List.getElem?_eq_getElem (by omega)];exact List.getElem_mem _)
 omega
end Go.Fid
namespace Go.Proofs.YtnajallgoaiahaaGreatDoor
open Go.Fid
end Go.Proofs.YtnajallgoaiahaaGreatDoor
namespace Go.Fid
theorem zeroR_uns(x:kF):zeroR x=unsB x:=rfl
def unuB(x:qC):Bool:=if x.op=0 then (((x.a != 0)||(x.b != 0))||!(kW x.n)) else ((decide (xP x.op<0)||(decide (xP x.op<2)&&(x.b != 0)))||!(zeroR x.n))
theorem unu_iff{x:qC}:unuB x=true↔eN x:=by
 unfold unuB eN
 by_cases h:x.op=0
 ·rw[if_pos h,h]
  simp only[Bool.or_eq_true,bne_iff_ne,Bool.not_eq_true',ne_eq,not_true_eq_false,false_and,or_false,true_and,show xP 0=0 by decide]
  constructor
  ·rintro ((h1 | h1) | h1)
   ·exact .inr (.inr (.inl h1))
   ·exact .inr (.inl ⟨by decide,h1⟩)
   ·exact .inr (.inr (.inr h1))
  ·rintro (h1 | ⟨_,h1⟩ | h1 | h1)
   ·exact absurd h1 (by decide)
   ·exact .inl (.inr h1)
   ·exact .inl (.inl h1)
   ·exact .inr h1
 ·rw[if_neg h]
  simp only[Bool.or_eq_true,Bool.and_eq_true,decide_eq_true_eq,bne_iff_ne,Bool.not_eq_true',ne_eq,h,not_false_eq_true,false_and,false_or,true_and,zeroR_uns]
  exact or_assoc
theorem unu_bad(x:qC):unuB x=badB x:=by
 cases h:unuB x with
 |true=>exact (aZ.2 (unu_iff.1 h)).symm
 |false=>
  cases h2:badB x with
  |false=>rfl
  |true=>rw[unu_iff.2 (aZ.1 h2)] at h;cases h
def orD(k:Int)(x:qC):Bool:=((decide (1≤xP x.op)&&(decide (x.a<0)||decide (k≤x.a)))||((xP x.op == 2)&&(decide (x.b<0)||decide (k≤x.b))))
theorem orD_eq(k:Int)(x:qC):orD k x=ordB k x:=by
 unfold orD ordB
 rcases fK x.op with ⟨e,_⟩ | ⟨e,_⟩ | ⟨e,_⟩ | ⟨e,_⟩<;>rw[e]<;>rfl
theorem NdR.a2{z:Int}{t:List qC}{k:Nat}(h:NdR z t k)(h0:1≤xP (t.getD k tz).op):0≤(t.getD k tz).a∧(t.getD k tz).a.toNat<k∧1≤(mZ t k).getD (t.getD k tz).a.toNat 0∧(mZ t k).getD (t.getD k tz).a.toNat 0≤4096:=by
 have h2:=h.ord
 unfold bN at h2
 have ha:(t.getD k tz).a.toNat<k:=by omega
 exact ⟨by omega,ha,sz_rng h.tm.up _ ha⟩
theorem NdR.b2{z:Int}{t:List qC}{k:Nat}(h:NdR z t k)(h0:xP (t.getD k tz).op=2):0≤(t.getD k tz).b∧(t.getD k tz).b.toNat<k∧1≤(mZ t k).getD (t.getD k tz).b.toNat 0∧(mZ t k).getD (t.getD k tz).b.toNat 0≤4096:=by
 have h2:=h.ord
 unfold bN at h2
 have ha:(t.getD k tz).b.toNat<k:=by omega
 exact ⟨by omega,ha,sz_rng h.tm.up _ ha⟩
theorem NdR.nx{z:Int}{t:List qC}{k:Nat}(h:NdR z t k){v:Int}(hv:v=szN (mZ t k) (t.getD k tz))(hb:¬ 4096<v):szUp z t (k+1)∧mZ t k++[v]=mZ t (k+1):=by
 rw[hv] at hb
 exact ⟨szUp_s h.tm.up (nd_y h.bad (by rw[nH];exact h.ord) h.rng hb),by rw[hv];rfl⟩
theorem NdR.bg{z:Int}{t:List qC}{k:Nat}(h:NdR z t k){v:Int}(hv:v=szN (mZ t k) (t.getD k tz))(hb:4096<v):gQ z t=3∧tmL z t=[]:=by
 rw[hv] at hb
 have e:=nd_3 (z:=z) (ss:=mZ t k) h.bad (by rw[nH];exact h.ord) h.rng hb
 have:=tm_no h.tm.z0 h.tm.kl h.tm.tl h.tm.up (by rw[e];decide)
 rwa [e] at this
theorem kd_7{o:Int}(h:o=7):xP o=1:=by rw[h];decide
theorem szD_c{ss:List Int}{x:qC}(hb:¬ eN x)(h:¬ 1≤xP x.op):(1:Int)=szN ss x:=szN_c (by unfold eN at hb;omega)
theorem szD_n{ss:List Int}{x:qC}(h:1≤xP x.op)(h7:x.op≠7)(h2:xP x.op≠2):ss.getD x.a.toNat 0=szN ss x:=szN_n (by omega) (by rcases fK x.op with ⟨e,f⟩ | ⟨e,f⟩ | ⟨e,f⟩ | ⟨e,f⟩<;>omega) rfl
theorem szD_q{ss:List Int}{x:qC}(h:1≤xP x.op)(h7:x.op=7):2*ss.getD x.a.toNat 0=szN ss x:=szN_q (by omega) h7 rfl
theorem szD_b{ss:List Int}{x:qC}(h2:xP x.op=2):ss.getD x.a.toNat 0+ss.getD x.b.toNat 0=szN ss x:=szN_b (by omega) (by intro h;rw[h] at h2;revert h2;decide) (by intro h;rw[h] at h2;revert h2;decide) rfl rfl
theorem tm_end2{z:Int}{t:List qC}{k:Nat}(h:(decide (z<0)||decide (64<z))=false)(h0:((t.length:Nat):Int)≠0)(h4:¬ 400<((t.length:Nat):Int))(hk:k≤t.length)(h5:¬ ((k:Nat):Int)<((t.length:Nat):Int))(hu:szUp z t k):gQ z t=0∧tmL z t=mZ t k:=by
 obtain rfl:k=t.length:=by omega
 exact tm_yes (zb_f h) (by omega) (by omega) hu
theorem NdR.var{z:Int}{t:List qC}{k:Nat}(h:NdR z t k)(h1:(t.getD k tz).op=1):0≤(t.getD k tz).a∧(t.getD k tz).a<z:=by
 have:=h.rng
 unfold rngN at this
 omega
theorem NdR.con{z:Int}{t:List qC}{k:Nat}(h:NdR z t k)(h1:(t.getD k tz).op=0):kW (t.getD k tz).n=true:=by
 have:=h.bad
 unfold eN at this
 cases hv:kW (t.getD k tz).n with
 |true=>rfl
 |false=>exact absurd (.inr (.inr (.inl ⟨h1,.inr hv⟩))) this
theorem NdR.op{z:Int}{t:List qC}{k:Nat}(h:NdR z t k):(t.getD k tz).op=0∨(t.getD k tz).op=1∨(t.getD k tz).op=2∨(t.getD k tz).op=3∨(t.getD k tz).op=4∨(t.getD k tz).op=5∨(t.getD k tz).op=6∨(t.getD k tz).op=7:=by
 have:=h.kd
 rcases fK (t.getD k tz).op with ⟨e,f⟩ | ⟨e,f⟩ | ⟨e,f⟩ | ⟨e,f⟩<;>omega
theorem NdR.un{z:Int}{t:List qC}{k:Nat}(h:NdR z t k)(h1:(t.getD k tz).op=6∨(t.getD k tz).op=7):0≤(t.getD k tz).a∧(t.getD k tz).a<k:=by
 have e:xP (t.getD k tz).op=1:=by rcases h1 with h1 | h1<;>rw[h1]<;>decide
 have a:=h.a2 (by omega)
 omega
structure VEnd (xs:List Rat) (t:List qC) (k0:Nat):Prop where
 c0:gQ ((xs.length:Nat):Int) t=0
 hk:k0≤t.length
 up:VUp xs t k0
 en:k0<t.length→(t.getD k0 tz).op=5∧(vU xs t k0).getD (t.getD k0 tz).b.toNat 0=0
theorem VRun.fin{xs:List Rat}{t:List qC}(h:VRun xs t):VEnd xs t t.length:=⟨h.c0,Nat.le_refl _,h.up,fun h=>absurd h (Nat.lt_irrefl _)⟩
theorem VFail.fin{xs:List Rat}{t:List qC}{k:Nat}(h:VFail xs t k):VEnd xs t k:=⟨h.c0,Nat.le_of_lt h.hk,h.up,fun _=>⟨h.op,h.z⟩⟩
def vlR(xs:List Rat)(t:List qC)(k:Nat):kF:=if k=t.length then jM (lastV xs t) else zr
def vlC(t:List qC)(k:Nat):Int:=if k=t.length then ((0:Nat):Int) else ((14:Nat):Int)
theorem VEnd.no2{xs:List Rat}{t:List qC}{k:Nat}(h:VEnd xs t k)(hk:k<t.length):vlR xs t k=zr∧vlC t k=((14:Nat):Int):=⟨if_neg (by omega),if_neg (by omega)⟩
theorem VEnd.eq{xs:List Rat}{t:List qC}{k0 k:Nat}(h:VEnd xs t k0)(hk:k≤k0)(hn:decide (k<k0)=false):k0=k:=by
 have:=of_decide_eq_false hn
 omega
theorem VEnd.at{xs:List Rat}{t:List qC}{k0 k:Nat}(h:VEnd xs t k0)(hk:k≤k0)(hl:k<t.length)(hn:decide (k<k0)=false):(vU xs t k).getD (t.getD k tz).b.toNat 0=0:=by
 have e:=h.eq hk hn
 subst e
 exact (h.en hl).2
theorem VEnd.no{xs:List Rat}{t:List qC}{k0 k:Nat}(h:VEnd xs t k0)(hk:k≤k0)(hl:k<t.length)(hn:decide (k<k0)=false):vlR xs t k0=zr∧vlC t k0=((14:Nat):Int):=by
 have e:=h.eq hk hn
 subst e
 exact h.no2 hl
theorem VEnd.lt{xs:List Rat}{t:List qC}{k0 k:Nat}(h:VEnd xs t k0)(hk:k≤k0)(hl:k<t.length)(ho:(t.getD k tz).op≠5):k<k0:=by
 rcases Nat.lt_or_ge k k0 with h1 | h1
 ·exact h1
 ·obtain rfl:k=k0:=by omega
  exact absurd (h.en hl).1 ho
structure CrLaw (xs:List Rat) (ls:List (List Int)) (n:Nat):Prop where
 ok:CrOk ls n
 hx:∀ q∈xs,QL q 3
 hl:xs.length=9
 hb:∀ a∈ls,∀ z∈a,¬ (8<z∧z<64)
theorem CrLaw.le{xs:List Rat}{ls:List (List Int)}{n:Nat}(h:CrLaw xs ls n){a:List Int}(ha:a∈ls):okL ((xs.length:Nat):Int) n a:=h.ok.le ha (h.hb a ha) (by rw[h.hl];rfl)
end Go.Fid
