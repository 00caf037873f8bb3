/- Part 34 of a proof: rules, plain facts, and functions walked. -/
import Derived.Test.YtckccjhflbljgaaGreatDoorM33
import Derived.Test.YtckccjhflbljgaaGreatDoorM32
import Derived.Test.YtckccjhflbljgaaGreatDoorM31
import Derived.Test.YtckccjhflbljgaaGreatDoorM20
import Derived.Test.YtckccjhflbljgaaGreatDoorM27
import Derived.Test.YtckccjhflbljgaaGreatDoorM30
import Derived.Test.YtckccjhflbljgaaGreatDoorM29
import Derived.Test.YtckccjhflbljgaaGreatDoorM18
import Derived.Test.YtckccjhflbljgaaGreatDoorM26
import Derived.Test.YtckccjhflbljgaaGreatDoorM17
import Derived.Test.YtckccjhflbljgaaGreatDoorM19
set_option linter.all false
set_option maxRecDepth 4000
namespace Go.Proofs.YtckccjhflbljgaaGreatDoor
open Go.Fid
def dgB(x:kC):Bool:=decide (digR x.n<=8)
def szB(m:Nat)(s:Int):Bool:=decide (s<=(m:Int))
def fL(n m:Nat)(t:List kC):Bool:=decide (t.length<=n)&&(t.all dgB&&(decide (gC 8 t≠0)||(tmL 8 t).all (szB m)))
theorem fewT_long{n m:Nat}{t:List kC}(h:((n:Nat):Int)<((t.length:Nat):Int)):fL n m t=false:=by unfold fL;rw[decide_eq_false (by omega)];rfl
theorem fewT_dig{n m:Nat}{t:List kC}(h:t.all dgB=false):fL n m t=false:=by unfold fL;rw[h,Bool.false_and,Bool.and_false]
theorem fewT_code{n m:Nat}{t:List kC}(h0:¬ ((n:Nat):Int)<((t.length:Nat):Int))(h:t.all dgB=true)(hc:((gC 8 t:Nat):Int)≠0):fL n m t=true:=by
 unfold fL;rw[decide_eq_true (by omega),h,decide_eq_true (by omega)];rfl
theorem tmL_len{z:Int}{t:List kC}(h:((gC z t:Nat):Int)=0):(tmL z t).length=t.length:=by
 unfold tmL;rw[if_pos (by omega),xW]
theorem fewT_big{n m:Nat}{t:List kC}(hc:((gC 8 t:Nat):Int)=0)(h:(tmL 8 t).all (szB m)=false):fL n m t=false:=by
 unfold fL;rw[h,Bool.or_false,show decide (gC 8 t≠0)=false from decide_eq_false (by omega),Bool.and_false,Bool.and_false]
theorem fewT_yes{n m:Nat}{t:List kC}(h0:¬ ((n:Nat):Int)<((t.length:Nat):Int))(h:t.all dgB=true)(hs:(tmL 8 t).all (szB m)=true):fL n m t=true:=by
 unfold fL;rw[decide_eq_true (by omega),h,hs,Bool.or_true];rfl
theorem dgB_y{x:kC}(h:¬ ((8:Nat):Int)<((digR x.n:Nat):Int)):dgB x=true:=decide_eq_true (by omega)
theorem dgB_n{x:kC}(h:((8:Nat):Int)<((digR x.n:Nat):Int)):dgB x=false:=decide_eq_false (by omega)
theorem dg_ok{t:List kC}(h:t.all dgB=true):∀ x∈t,gZ x.n (vQ x.n) 8:=fun x hx=>by
 have h1:=List.all_eq_true.1 h x hx
 unfold dgB digR at h1
 rw[decide_eq_true_eq] at h1
 exact qok_raw (by decide) (by omega) (by omega)
theorem few_of{n m:Nat}{t:List kC}(h:fL n m t=true):t.length<=n/\(∀ x∈t,gZ x.n (vQ x.n) 8)/\(gC 8 t=0->∀ s∈tmL 8 t,s<=(m:Int)):=by
 unfold fL at h
 rw[Bool.and_eq_true,Bool.and_eq_true,Bool.or_eq_true,decide_eq_true_eq,decide_eq_true_eq] at h
 refine ⟨h.1,dg_ok h.2.1,fun hc s hs=>?_⟩
 rcases h.2.2 with h1 | h1
 ·exact absurd hc h1
 ·have:=List.all_eq_true.1 h1 s hs
  unfold szB at this
  rwa [decide_eq_true_eq] at this
theorem tame_of{n m:Nat}{bx:List R2}{t:List kC}(h:fL n m t=true)(hm:m<=140)(h8:bx.length<=8)(hb:∀ y∈bx,GL 24 y)(hc:gC ((bx.length:Nat):Int) t=0):dQ bx t:=by
 obtain ⟨_,h2,h3⟩:=few_of h
 have hc8:gC 8 t=0:=tm_mono (by omega) (by decide) hc
 refine ⟨hc,h2,hb,fun k hk=>?_⟩
 have h4:=h3 hc8 (fR (nS t k) (t.getD k tz)) (by unfold tmL;rw[if_pos hc8];exact szU_mem hk)
 omega
theorem gpt_24{xs:List Rat}(h:∀ q∈xs,QL q 24):∀ y∈List.map gpt xs,GL 24 y:=fun y hy=>by
 obtain ⟨q,hq,rfl⟩:=List.mem_map.1 hy
 exact gl_pt (h q hq)
theorem gpt_8{xs:List Rat}(h:∀ q∈xs,QL q 8):∀ y∈List.map gpt xs,GL 24 y:=gpt_24 fun q hq=>uV (h q hq) (by decide)
theorem shR_len{c n:Nat}{l:List kV}(h:shR c n l=true):l.length<=c:=by
 unfold shR at h;rw[Bool.and_eq_true,decide_eq_true_eq] at h;exact h.1
theorem shR_ok{c n:Nat}{l:List kV}(h:shR c n l=true)(h1:1<=n):∀ x∈l,gZ x (vQ x) n:=fun x hx=>by
 unfold shR at h;rw[Bool.and_eq_true] at h
 have h3:=shX_le (List.all_eq_true.1 h.2 x hx)
 unfold digR at h3
 exact qok_raw h1 (by omega) (by omega)
theorem vrow_map:∀ {l:List kV},vRow l=true->List.map jO (List.map vQ l)=l
 |[],_=>rfl
 |x::l,h=>by
  unfold vRow at h
  rw[List.all_cons,Bool.and_eq_true] at h
  rw[List.map_cons,List.map_cons,vrow_map (l:=l) h.2,ofQ_toQ h.1]
theorem row_form{c n:Nat}{l:List kV}(h:shR c n l=true)(h1:1<=n)(hv:vRow l=true):∃ xs:List Rat,l=List.map jO xs/\(∀ q∈xs,QL q n)/\xs.length<=c:=by
 refine ⟨l.map vQ,?_,fun q hq=>?_,by rw[List.length_map];exact shR_len h⟩
 ·exact (vrow_map hv).symm
 ·obtain ⟨x,hx,rfl⟩:=List.mem_map.1 hq
  exact (shR_ok h h1 x hx).ql
def exT:List kC:=[⟨1,0,0,zr⟩,⟨1,1,0,zr⟩,⟨4,0,1,zr⟩,⟨7,0,0,zr⟩,⟨2,2,3,zr⟩]
def exD:List kC:=[⟨1,0,0,zr⟩,⟨1,1,0,zr⟩,⟨0,0,0,jO ((2:Int):Rat)⟩,⟨4,2,0,zr⟩,⟨2,1,3,zr⟩]
def exX:List Rat:=zQ [2,3]
def exB:List R2:=[(((1:Int):Rat),((2:Int):Rat)),(((3:Int):Rat),((4:Int):Rat))]
theorem exX_ql:∀ q∈exX,QL q 1048576:=fun q hq=>uV (zQ_ql (by decide) q hq) (by decide)
theorem exB_gl:∀ x∈exB,GL 1048576 x:=by unfold exB;decide +kernel
theorem zr_ok:gZ zr (vQ zr) 1048576:=⟨rfl,by decide,by decide,by decide⟩
theorem exT_ok:∀ x∈exT,gZ x.n (vQ x.n) 1048576:=fun x hx=>by
 have:x.n=zr:=by
  unfold exT at hx
  simp only[List.mem_cons,List.not_mem_nil,or_false] at hx
  rcases hx with rfl | rfl | rfl | rfl | rfl<;>rfl
 rw[this]
 exact zr_ok
theorem exD_ok:∀ x∈exD,gZ x.n (vQ x.n) 1048576:=fun x hx=>by
 have:x.n=zr\/x.n=jO ((2:Int):Rat):=by
  unfold exD at hx
  simp only[List.mem_cons,List.not_mem_nil,or_false] at hx
  rcases hx with rfl | rfl | rfl | rfl | rfl<;>first | exact .inl rfl | exact .inr rfl
 rcases this with h | h
 ·rw[h];exact zr_ok
 ·rw[h,cL];exact kF (ql_i)
theorem exT_c0:gC ((2:Nat):Int) exT=0:=by decide +kernel
theorem exT_run:VRun exX exT:=by
 refine ⟨by decide +kernel,⟨fun k hk=>?_,fun k hk=>?_⟩⟩
 ·match k,hk with
  |0,_=>unfold QL;decide +kernel
  |1,_=>unfold QL;decide +kernel
  |2,_=>unfold QL;decide +kernel
  |3,_=>unfold QL;decide +kernel
  |4,_=>unfold QL;decide +kernel
 ·match k,hk with
  |0,_=>intro h;revert h;decide
  |1,_=>intro h;revert h;decide
  |2,_=>intro h;revert h;decide
  |3,_=>intro h;revert h;decide
  |4,_=>intro h;revert h;decide
theorem exD_run:VRun exX exD:=by
 refine ⟨by decide +kernel,⟨fun k hk=>?_,fun k hk=>?_⟩⟩
 ·match k,hk with
  |0,_=>unfold QL;decide +kernel
  |1,_=>unfold QL;decide +kernel
  |2,_=>unfold QL;decide +kernel
  |3,_=>unfold QL;decide +kernel
  |4,_=>unfold QL;decide +kernel
 ·match k,hk with
  |0,_=>intro h;revert h;decide
  |1,_=>intro h;revert h;decide
  |2,_=>intro h;revert h;decide
  |3,_=>intro h;revert h;decide
  |4,_=>intro h;revert h;decide
theorem exB_run:JRun exB exT:=by
 refine ⟨by decide +kernel,fun k hk=>?_,fun k hk=>?_⟩
 ·match k,hk with
  |0,_=>exact ⟨by decide +kernel,by decide +kernel,rfl⟩
  |1,_=>exact ⟨by decide +kernel,by decide +kernel,rfl⟩
  |2,_=>exact ⟨by decide +kernel,by decide +kernel,rfl⟩
  |3,_=>exact ⟨by decide +kernel,by decide +kernel,rfl⟩
  |4,_=>exact ⟨by decide +kernel,by decide +kernel,rfl⟩
 ·match k,hk with
  |0,_=>intro h;revert h;decide
  |1,_=>intro h;revert h;decide
  |2,_=>intro h;revert h;decide
  |3,_=>intro h;revert h;decide
  |4,_=>intro h;revert h;decide
theorem ex_10:dZ exX exT=((10:Int):Rat):=by decide +kernel
theorem ex_7:dZ exX exD=((7:Int):Rat):=by decide +kernel
theorem ex_v:(cC exB exT).v=(((4:Int):Rat),((12:Int):Rat)):=by decide +kernel
theorem ex_g:(cC exB exT).g=[(((5:Int):Rat),((8:Int):Rat)),(((1:Int):Rat),((2:Int):Rat))]:=by decide +kernel
instance:DecidableEq kS:=fun a b=>if h:a.neg=b.neg/\a.gs=b.gs then isTrue (by cases a;cases b;obtain ⟨rfl,rfl⟩:=h;rfl) else isFalse (fun e=>h (by rw[e];exact ⟨rfl,rfl⟩))
instance:DecidableEq kV:=fun a b=>if h:a.num=b.num/\a.den=b.den then isTrue (by cases a;cases b;obtain ⟨rfl,rfl⟩:=h;rfl) else isFalse (fun e=>h (by rw[e];exact ⟨rfl,rfl⟩))
instance:DecidableEq kC:=fun a b=>if h:a.op=b.op/\a.a=b.a/\a.b=b.b/\a.n=b.n then isTrue (by cases a;cases b;obtain ⟨rfl,rfl,rfl,rfl⟩:=h;rfl) else isFalse (fun e=>h (by rw[e];exact ⟨rfl,rfl,rfl,rfl⟩))
theorem ex_d:DRT 0 exT=exD:=by decide +kernel
theorem ex_c:DRC 0 exT=0:=by decide +kernel
theorem x_exm :jR Tryz.prog 40 [] (.sl 72 7 (List.map jM exT)):=by
 let y2:=uD
 let y1:=[(kC.mk 1 0 0 y2),(kC.mk 1 1 0 y2),(kC.mk 4 0 1 y2),(kC.mk 7 0 0 y2),(kC.mk 2 2 3 y2)]
 refine uU Tryz.func40 ?_
 refine jB<|kx [] [] (zE (fQ 72 7)<|zZ) ?_
 refine jB<|kx [(0,(vl 72 7 jM y1))] [] (zE (bC pl72 cX eN)<|zE (bC pl72 cX eN)<|zE (bC pl72 cX eN)<|zE (bC pl72 cX eN)<|zE (bC pl72 cX eN)<|zE (fH xZ cX eN)<|zM<|zZ) ?_
 refine jE ⟨_,(.tmp (d:=(.sl 72 7 (List.map jM y1))) rfl .nil),?_⟩
 rfl
theorem x_whole(zs:List Int)(hz:∀ z∈zs,-9223372036854775808<=z/\z<=9223372036854775807:=by decide)(hzl:zs.length<=1000000:=by decide):jR Tryz.prog 41 [(.sl 3 1 (List.map jH zs))] (.sl 32 4 (List.map jJ (List.map jO (zQ zs)))):=by
 refine uU Tryz.func41 ?_
 refine jB<|kx [] [] (zE (fQ 32 4)<|zZ) ?_
 refine jB<|kx [(3,(.own 0 32 4 0))] [(0,some (qN jJ []))] (zN (oBo 0 uE qU uG)<|zM<|zZ) ?_
 refine jB<|jB<|kx [(7,(vl 3 1 jH zs)),(8,(kG zs.length)),(9,(kG 0))] [] (zM<|zE (zL uI)<|zM<|zZ) ?_
 refine jL<|kQ (α:=Nat × List kV) (fun (i,o)=>⟨[(3,(.own 0 32 4 o.length)),(7,(vl 3 1 jH zs)),(8,(kG zs.length)),(9,(kG i))],[(0,some (qN jJ o))]⟩) (fun (i,o)=>i<=zs.length/\o=(zs.take i).map (fun z:Int=>jO (z:Rat))) (fun (i,o)=>zs.length-i) (0,[]) wk ⟨Nat.zero_le _,by simp⟩ ?_
 rintro ⟨i,o⟩ ⟨hi,ho⟩
 have hol:o.length=i:=by rw[ho,List.length_map,List.length_take];omega
 refine jB<|kx [(10,(vb (decide (((i:Nat):Int)<((zs.length:Nat):Int)))))] [] (zE gX<|zZ) ?_
 refine jB<|jF rfl (fun h1=>?_) (fun h1=>?_)
 ·replace h1:=vN h1
  have hzi:=zs_at hz (show i<zs.length by omega)
  refine jG<|jB<|jL<|jB<|kx [(5,(vi (zs.getD i 0)))] [] (zE (mV uI i (0:Int))<|zE (nK uC)<|zM<|zZ) ?_
  refine kf [(3,(.own 0 32 4 ((o++[(jO ((zs.getD i 0:Int):Rat))]).length)))] [(0,some (qN jJ (o++[(jO ((zs.getD i 0:Int):Rat))])))] (zM<|zM<|zE (kB (g_whole (zs.getD i 0) (by omega) (by omega)))<|zE (fH uE qU uG)<|zAS jJ o [(jO ((zs.getD i 0:Int):Rat))] rfl uE qU by32<|zM<|zF) ?_
  refine kx [(9,(kG (i+1)))] [] (zE (vY (i+1))<|zM<|zZ) ?_
  exact ⟨(i+1,o++[jO ((zs.getD i 0:Int):Rat)]),wk,⟨by omega,by rw[ho];exact mapt_step (f:=fun z:Int=>jO (z:Rat)) (by omega)⟩,(by first|omega|(dsimp only;omega))⟩
 ·replace h1:=vX h1
  refine kN<|jB<|kx [(2,(.own 0 32 4 o.length))] [] (zM<|zM<|zZ) ?_
  refine qL (yG (t:=2) (k:=0) (es:=List.map jJ o) rfl rfl (bH _ _ (fun _=>rfl)) (xH _ _ rfl) (pubs_take jJ o (fun _=>rfl) rfl)) ?_
  refine jE ⟨_,(.tmp (d:=(.sl 32 4 (List.map jJ o))) rfl .nil),?_⟩
  rw[ho,show i=zs.length by omega,List.take_length,show List.map (fun z:Int=>jO (z:Rat)) zs=List.map jO (zQ zs) from (by unfold zQ;rw[List.map_map];rfl)];rfl
theorem exT_tx:∀ x∈exT,x.op=0->TextAt (vQ x.n):=fun x hx h0=>by
 unfold exT at hx
 simp only[List.mem_cons,List.not_mem_nil,or_false] at hx
 rcases hx with rfl | rfl | rfl | rfl | rfl<;>exact absurd h0 (by decide)
theorem exB_runP:JRunP exB exT:=run_p exB_gl exT_ok exB_run
theorem x_known :jR Tryz.prog 8 [] (.val (.bool (true))):=by
 have hxl:exX.length=2:=rfl
 have hgl:(cC exB exT).g.length=2:=by rw[ex_g];rfl
 let y2:=(kJ.mk (jO ((5:Int):Rat)) (jO ((8:Int):Rat)))
 let y1:=(kJ.mk (jO ((4:Int):Rat)) (jO ((12:Int):Rat)))
 refine uU Tryz.func8 ?_
 refine jB<|kx [] [] (zM<|zZ) ?_
 refine jB<|kx [(1,(.ref 0 0)),(2,(kG 0))] [(0,some (bx (jJ (jO ((10:Int):Rat)))))] (zE (oQd (.sl 72 7 (List.map jM exT)) (.sl 72 7 (List.map jM exT)) (kB x_exm) (by exact rfl))<|zE (fH uI ze3 zo3)<|zE (oQd (.sl 32 4 (List.map jJ (List.map jO (zQ [((2:Nat):Int),((3:Nat):Int)])))) (.sl 32 4 (List.map jJ (List.map jO exX))) (kB (x_whole [((2:Nat):Int),((3:Nat):Int)])) (by exact rfl))<|zE (kB (p_val exT exT_ok exX exX_ql exT_run (by omega)))<|zM<|zE (oQd (jJ (jO (dZ exX exT))) (jJ (jO ((10:Int):Rat))) xU (by exact (congrArg (fun q=>jJ (jO q)) ex_10)))<|zE xU<|zN (vC 0 qU uG)<|zT (qM jS)<|zM<|zZ) ?_
 refine jB ?_
 have bn1:QL ((1:Int):Rat) 1:=(yB (z:=1) (xT))
 have bn2:QL ((2:Int):Rat) 1:=(yB (z:=2) (xT))
 have bn3:QL ((3:Int):Rat) 1:=(yB (z:=3) (xT))
 have bn4:QL ((4:Int):Rat) 1:=(yB (z:=4) (xT))
 refine kx [(3,(.ref 1 0)),(4,(kG 0))] [(1,some (bx (jP (uT (cC exB exT)))))] (zE (oQd (.sl 72 7 (List.map jM exT)) (.sl 72 7 (List.map jM exT)) (kB x_exm) (by exact rfl))<|zE (kB (h_whole 1 2))<|zE (kB (h_whole 3 4))<|zE (oQd (.sl 42 8 (List.map jN [(kJ.mk (jO ((1:Int):Rat)) (jO ((2:Int):Rat))),(kJ.mk (jO ((3:Int):Rat)) (jO ((4:Int):Rat)))])) (.sl 42 8 (List.map jN (List.map qH exB))) (fH cF xF xK) (by exact rfl))<|zE (kB (j_jets exT exT_ok exB exB_gl exB_runP))<|zM<|zE xU<|zE xU<|zN (vC 1 ze46 zo46)<|zT (qM sh46)<|zM<|zZ) ?_
 refine jB<|kx [(5,(vl 72 7 jM exD)),(6,(kG 0))] [] (zE (oQd (.sl 72 7 (List.map jM exT)) (.sl 72 7 (List.map jM exT)) (kB x_exm) (by exact rfl))<|zE (kB (p_drv exT exT_ok 2 0 exT_c0 (by omega) (tx_small 0) (tx_small 1) (tx_small 2) exT_tx))<|zM<|zE (oQd (.sl 72 7 (List.map jM (DRT 0 exT))) (.sl 72 7 (List.map jM exD)) xU (by exact (congrArg (fun t=>jT.sl 72 7 (List.map jM t)) ex_d)))<|zE (oQd (.val (.int .i64 ((((DRC 0 exT):Nat):Int)))) (.val (.int .i64 (((0:Nat):Int)))) xU (by exact (congrArg (fun n:Nat=>jT.val (.int .i64 ((n:Nat):Int))) ex_c)))<|zM<|zM<|zZ) ?_
 refine jB<|kx [(7,(.ref 2 0)),(8,(kG 0))] [(2,some (bx (jJ (jO ((7:Int):Rat)))))] (zM<|zE (fH uI ze3 zo3)<|zE (oQd (.sl 32 4 (List.map jJ (List.map jO (zQ [((2:Nat):Int),((3:Nat):Int)])))) (.sl 32 4 (List.map jJ (List.map jO exX))) (kB (x_whole [((2:Nat):Int),((3:Nat):Int)])) (by exact rfl))<|zE (kB (p_val exD exD_ok exX exX_ql exD_run (by omega)))<|zM<|zE (oQd (jJ (jO (dZ exX exD))) (jJ (jO ((7:Int):Rat))) xU (by exact (congrArg (fun q=>jJ (jO q)) ex_7)))<|zE xU<|zN (vC 2 qU uG)<|zT (qM jS)<|zM<|zZ) ?_
 refine jB<|jB<|kx [(55,(vb false))] [] (zM<|zE (nH false aK)<|zM<|zM<|zE (nH false aK)<|zE yS<|zM<|zM<|zE (nH false aK)<|zE yS<|zM<|zM<|zE (nH false aK)<|zE yS<|zM<|zE (kK mA)<|zR (mG (.sl 42 8 (List.map jN (List.map qH ((cC exB exT).g)))) (.sl 42 8 (List.map jN (List.map qH ((cC exB exT).g)))) (qI sh43) (by exact rfl))<|zE (oLn cF (((cC exB exT).g).length))<|zE (nH false aK (by exact bne_eq_false_iff_eq.2 (by rw[show ((cC exB exT).g).length=2 from (by rw[ex_g];rfl)]<;>rfl)))<|zE yS<|zZ) ?_
 refine qW ?_
 refine jG<|jB ?_
 have bn5:QL ((10:Int):Rat) 1:=(yB (z:=10) (xT))
 have bn6:QL ((7:Int):Rat) 1:=(yB (z:=7) (xT))
 have bn7:QL ((12:Int):Rat) 1:=(yB (z:=12) (xT))
 have bn8:QL ((5:Int):Rat) 1:=(yB (z:=5) (xT))
 have bn9:QL ((8:Int):Rat) 1:=(yB (z:=8) (xT))
 refine kd [(0,(vb true))] [] mo (wR (kR jS)<|wE (kB (g_whole 10))<|wE (nH true (kB (by have h:=g_same (jO ((10:Int):Rat)) (jO ((10:Int):Rat)) ((10:Int):Rat) ((10:Int):Rat) (jY (kF (yB (nP)))) (jY (kF bn5));rw[sameR_of] at h;exact h)) (by exact decide_eq_true rfl))<|wM<|wR (kR jS)<|wE (kB (g_whole 7))<|wE (nH true (kB (by have h:=g_same (jO ((7:Int):Rat)) (jO ((7:Int):Rat)) ((7:Int):Rat) ((7:Int):Rat) (jY (kF (yB (nP)))) (jY (kF bn6));rw[sameR_of] at h;exact h)) (by exact decide_eq_true rfl))<|wE gU<|wM<|wE (kK hH)<|wR (mG (jN (qH ((cC exB exT).v))) (jN y1) (kR kO) (by exact (congrArg (fun p=>jN (qH p)) ex_v)))<|wE (kB (h_whole 4 12))<|wE (kB (by have h:=h_same y1 y1 (mP (⟨qY (jY (kF (yB (nP))) (by decide:3<=3)),qY (jY (kF (yB (nP))) (by decide:3<=3))⟩)) (mP (⟨qY (jY (kF bn4) (by decide:1<=1)),qY (jY (kF bn7) (by decide:1<=1))⟩));rw[show sameG y1 y1=true from by rw[sameG_of];kernel_rfl] at h;exact h))<|wE gU<|wM<|wE (kK mA)<|wR (mG (.sl 42 8 (List.map jN (List.map qH ((cC exB exT).g)))) (.sl 42 8 (List.map jN (List.map qH ((cC exB exT).g)))) (qI sh43) (by exact rfl))<|wE (oXm cF qH 0 z2)<|wE (oQd (jN (qH (((cC exB exT).g).getD 0 z2))) (jN y2) (cV kO) (by exact (by rw[ex_g];rfl)))<|wE (kB (h_whole 5 8))<|wE (kB (by have h:=h_same y2 y2 (mP (⟨qY (jY (kF (yB (nP))) (by decide:3<=3)),qY (jY (kF (yB (nP))) (by decide:3<=3))⟩)) (mP (⟨qY (jY (kF bn8) (by decide:1<=1)),qY (jY (kF bn9) (by decide:1<=1))⟩));rw[show sameG y2 y2=true from by rw[sameG_of];kernel_rfl] at h;exact h))<|wE gU<|wM<|wE (kB x_exm)<|wE (oQd (.val (.int .i64 ((((gC 2 exT):Nat):Int)))) (.val (.int .i64 (((0:Nat):Int)))) (kB (j_chk exT exT_ok ((2:Nat):Int))) (by exact (congrArg (fun n:Nat=>jT.val (.int .i64 ((n:Nat):Int))) exT_c0)))<|wE (nH true xV)<|wE gU<|wM<|wZ) ?_
 refine jE ⟨_,(.tmp (d:=(.val (.bool (true)))) rfl .nil),?_⟩
 rfl
theorem u_brief(x:kV)(p:Rat)(hx:gZ x p 140737488355328):jR Tryz.prog 82 [(jJ x)] (.val (.bool ((brX x)))):=by
 refine uU Tryz.func82 ?_
 refine jB<|kx [(1,(.ref 0 0))] [(0,some (bx (jJ x)))] (zN (vZ 0)<|zM<|zZ) ?_
 refine jB<|kd [(3,(vl 107 1 jD x.num.gs)),(4,(vl 107 1 jD x.den.gs))] [] mo (wE (kK vP)<|wE (kK uO)<|wR (qI xG)<|wE (kK vB)<|wE (kK uO)<|wR (qI xG)<|wM<|wM<|wZ) ?_
 refine jB<|jB<|kx [(18,(vb (decide (1<((x.num.gs.length:Nat):Int))||decide (1<((x.den.gs.length:Nat):Int)))))] [] ?_ ?_
 ·refine zM<|zE (zL kD)<|zE dI<|zE (oV (vb (decide (1<((x.num.gs.length:Nat):Int)))) (qA (by kernel_rfl)))<|?_
  rcases hb1:(decide (1<((x.num.gs.length:Nat):Int))) with _ | _
  ·replace hb1:=vX hb1
   exact zM<|zE (zL kD)<|zE dI<|zE eM<|zZ
  ·replace hb1:=vN hb1
   exact zK<|zK<|zK<|zE gU<|zZ
 refine jF rfl (fun h2=>?_) (fun h2=>?_)
 ·refine jB<|kx [(2,(vb false))] [] (zM<|zZ) ?_
  refine jE ⟨_,(.tmp (d:=(.val (.bool (false)))) rfl .nil),?_⟩
  unfold brX;rw[if_pos h2];rfl
 ·refine jG<|jB<|kx [(2,(vb (((((x.num.gs.length:Nat):Int) == 0)||decide ((((x.num.gs.getD 0 0):Nat):Int)<100000))&&((((x.den.gs.length:Nat):Int) == 0)||decide ((((x.den.gs.getD 0 0):Nat):Int)<=100)))))] [] ?_ ?_
  ·refine zM<|zE (zL kD)<|zE xV<|zE (oV (vb (((x.num.gs.length:Nat):Int) == 0)) (qA (by kernel_rfl)))<|?_
   rcases hb3:(((x.num.gs.length:Nat):Int) == 0) with _ | _
   ·replace hb3:=ne_of_beq_false hb3
    refine zM<|zE (mV kD 0 (0:Nat))<|zE (nK qJ)<|zE gX<|zE eM<|zE (oV (vb (false||decide ((((x.num.gs.getD 0 0):Nat):Int)<100000))) (qA (by kernel_rfl)))<|?_
    rcases hb4:(false||decide ((((x.num.gs.getD 0 0):Nat):Int)<100000)) with _ | _
    ·exact zK<|zK<|zK<|zK<|zK<|zK<|zK<|zK<|zK<|zE yS<|zM<|zZ
    ·refine zM<|zE (zL kD)<|zE xV<|zE (oV (vb (((x.den.gs.length:Nat):Int) == 0)) (qA (by kernel_rfl)))<|?_
     rcases hb5:(((x.den.gs.length:Nat):Int) == 0) with _ | _
     ·replace hb5:=ne_of_beq_false hb5
      exact zM<|zE (mV kD 0 (0:Nat))<|zE (nK qJ)<|zE oLe<|zE eM<|zE eK<|zM<|zZ
     ·replace hb5:=eq_of_beq hb5
      exact zK<|zK<|zK<|zK<|zE gU<|zE gU<|zM<|zZ
   ·replace hb3:=eq_of_beq hb3
    refine zK<|zK<|zK<|zK<|zE gU<|zM<|zM<|zE (zL kD)<|zE xV<|zE (oV (vb (((x.den.gs.length:Nat):Int) == 0)) (qA (by kernel_rfl)))<|?_
    rcases hb6:(((x.den.gs.length:Nat):Int) == 0) with _ | _
    ·replace hb6:=ne_of_beq_false hb6
     exact zM<|zE (mV kD 0 (0:Nat))<|zE (nK qJ)<|zE oLe<|zE eM<|zE eK<|zM<|zZ
    ·replace hb6:=eq_of_beq hb6
     exact zK<|zK<|zK<|zK<|zE gU<|zE gU<|zM<|zZ
  refine jE ⟨_,(.tmp (d:=(.val (.bool ((((((x.num.gs.length:Nat):Int) == 0)||decide ((((x.num.gs.getD 0 0):Nat):Int)<100000))&&((((x.den.gs.length:Nat):Int) == 0)||decide ((((x.den.gs.getD 0 0):Nat):Int)<=100))))))) rfl .nil),?_⟩
  unfold brX;rw[if_neg (by rw[h2];decide)];rfl
theorem u_short(l:List kV)(hl:RowOk 140737488355328 l)(c:Nat)(hc:c<=1000)(n:Nat)(hn:n<=1000):jR Tryz.prog 44 [(.sl 32 4 (List.map jJ l)),(.val (.int .i64 (((c:Nat):Int)))),(.val (.int .i64 (((n:Nat):Int))))] (.val (.bool ((shR c n l)))):=by
 have hb:=hl.2
 let y1:=uD
 refine uU Tryz.func44 ?_
 refine jB<|kx [] [] (zM<|zZ) ?_
 refine jB<|jB<|kx [(11,(vb (decide (((c:Nat):Int)<((l.length:Nat):Int)))))] [] (zM<|zE (zL uE)<|zM<|zE dI<|zZ) ?_
 refine jF rfl (fun h1=>?_) (fun h1=>?_)
 ·replace h1:=vN h1
  refine jB<|kx [(6,(vb false))] [] (zM<|zZ) ?_
  refine jE ⟨_,(.tmp (d:=(.val (.bool (false)))) rfl .nil),?_⟩
  rw[shR_long (by omega)];rfl
 ·replace h1:=vX h1
  have hlk:=h1
  refine jG<|jB<|jB<|kx [(7,(kG 0))] [] (zM<|zZ) ?_
  refine jL<|kQ (α:=Nat) (fun i=>⟨[(0,(vl 32 4 jJ l)),(2,(kG n)),(7,(kG i))],[]⟩) (fun i=>i<=l.length/\(l.take i).all (shX n)=true) (fun i=>l.length-i) 0 wk ⟨Nat.zero_le _,by simp⟩ ?_
  rintro i ⟨hi,hal⟩
  refine jB<|jB<|kx [(15,(vb (decide (((i:Nat):Int)<((l.length:Nat):Int)))))] [] (zM<|zM<|zE (zL uE)<|zE gX<|zZ) ?_
  refine jF rfl (fun h2=>?_) (fun h2=>?_)
  ·replace h2:=vN h2
   refine jG<|jB<|jL<|jB<|kx [(36,(vb (decide (((n:Nat):Int)<(((digR (l.getD i y1)):Nat):Int))||(decide (((n:Nat):Int)<=6)&&!(brX (l.getD i y1))))))] [] ?_ ?_
   ·refine zM<|zM<|zE (mV uE i y1)<|zE (cV jS)<|zE (kB (g_digits (l.getD i y1) (vQ (l.getD i y1)) (qok_at hl.1 (show i<l.length by omega))))<|zM<|zE dI<|zE (oV (vb (decide (((n:Nat):Int)<(((digR (l.getD i y1)):Nat):Int)))) (qA (by kernel_rfl)))<|?_
    rcases hb3:(decide (((n:Nat):Int)<(((digR (l.getD i uD)):Nat):Int))) with _ | _
    ·replace hb3:=vX hb3
     refine zM<|zE oLe<|zE (oV (vb (decide (((n:Nat):Int)<=6))) (qA (by kernel_rfl)))<|?_
     rcases hb4:(decide (((n:Nat):Int)<=6)) with _ | _
     ·replace hb4:=vX hb4
      exact zK<|zK<|zK<|zK<|zK<|zK<|zE yS<|zE yS<|zZ
     ·replace hb4:=vN hb4
      exact zM<|zM<|zE (mV uE i y1)<|zE (cV jS)<|zE (kB (u_brief (l.getD i y1) (vQ (l.getD i y1)) (qok_at hl.1 (show i<l.length by omega))))<|zE mH<|zE eK<|zE eM<|zZ
    ·replace hb3:=vN hb3
     exact zK<|zK<|zK<|zK<|zK<|zK<|zK<|zK<|zK<|zK<|zE gU<|zZ
   refine jF rfl (fun h5=>?_) (fun h5=>?_)
   ·refine jB<|kx [(6,(vb false))] [] (zM<|zZ) ?_
    refine jE ⟨_,(.tmp (d:=(.val (.bool (false)))) rfl .nil),?_⟩
    rw[shR_no (all_no (i:=i) (d:=uD) (by omega) (shX_t h5))];rfl
   ·have hfi:shX n (l.getD i uD)=true:=shX_f h5
    refine jG<|kx [(7,(kG (i+1)))] [] (zM<|zE (vY (i+1))<|zM<|zZ) ?_
    exact ⟨(i+1),wk,⟨by omega,all_up (d:=uD) (by omega) hal hfi⟩,(by omega)⟩
  ·replace h2:=vX h2
   have hie:i=l.length:=by omega
   rw[hie,List.take_length] at hal
   refine kN<|jB<|kx [(6,(vb true))] [] (zM<|zZ) ?_
   refine jE ⟨_,(.tmp (d:=(.val (.bool (true)))) rfl .nil),?_⟩
   rw[shR_yes hlk hal];rfl
theorem u_few(t:List kC)(ht:yH 140737488355328 t)(n:Nat)(hn:n<=1000)(m:Nat)(hm:m<=1000)(htl:t.length<=140737488355328):jR Tryz.prog 9 [(.sl 72 7 (List.map jM t)),(.val (.int .i64 (((n:Nat):Int)))),(.val (.int .i64 (((m:Nat):Int))))] (.val (.bool ((fL n m t)))):=by
 refine uU Tryz.func9 ?_
 refine jB<|kx [] [] (zM<|zZ) ?_
 refine jB<|jB<|kx [(16,(vb (decide (((n:Nat):Int)<((t.length:Nat):Int)))))] [] (zM<|zE (zL xZ)<|zM<|zE dI<|zZ) ?_
 refine jF rfl (fun h1=>?_) (fun h1=>?_)
 ·replace h1:=vN h1
  refine jB<|kx [(6,(vb false))] [] (zM<|zZ) ?_
  refine jE ⟨_,(.tmp (d:=(.val (.bool (false)))) rfl .nil),?_⟩
  rw[fewT_long h1];rfl
 ·replace h1:=vX h1
  have hlk:=h1
  refine jG<|jB<|jB<|kx [(17,(vl 72 7 jM t)),(18,(kG t.length)),(19,(kG 0))] [] (zM<|zE (zL xZ)<|zM<|zZ) ?_
  refine jL<|kQ (α:=Nat) (fun i=>⟨[(0,(vl 72 7 jM t)),(2,(kG m)),(17,(vl 72 7 jM t)),(18,(kG t.length)),(19,(kG i))],[]⟩) (fun i=>i<=t.length/\(t.take i).all dgB=true) (fun i=>t.length-i) 0 wk ⟨Nat.zero_le _,by simp⟩ ?_
  rintro i ⟨hi,hal⟩
  refine jB<|kx [(20,(vb (decide (((i:Nat):Int)<((t.length:Nat):Int)))))] [] (zE gX<|zZ) ?_
  refine jB<|jF rfl (fun h2=>?_) (fun h2=>?_)
  ·replace h2:=vN h2
   refine jG<|jB<|jL<|jB<|kx [(8,(.ref 0 0))] [(0,some (bx (jM (t.getD i tz))))] (zE (mV xZ i (tz:kC))<|zE (cV dP)<|zN (vC 0 cX eN)<|zT (qM dP)<|zZ) ?_
   refine jB<|kx [(26,(vb (decide (8<(((digR ((t.getD i tz).n)):Nat):Int)))))] [] (zE (kK gV)<|zR (kR jS)<|zE (kB (g_digits ((t.getD i tz).n) (vQ (t.getD i tz).n) (tn_get ht (show i<t.length by omega))))<|zE dI<|zZ) ?_
   refine jF rfl (fun h3=>?_) (fun h3=>?_)
   ·replace h3:=vN h3
    refine jB<|kx [(6,(vb false))] [] (zM<|zZ) ?_
    refine jE ⟨_,(.tmp (d:=(.val (.bool (false)))) rfl .nil),?_⟩
    rw[fewT_dig (all_no (i:=i) (d:=tz) (by omega) (dgB_n h3))];rfl
   ·replace h3:=vX h3
    refine jG<|kx [(19,(kG (i+1)))] [] (zE (vY (i+1))<|zM<|zZ) ?_
    exact ⟨(i+1),wk,⟨by omega,all_up (d:=tz) (by omega) hal (dgB_y h3)⟩,(by first|omega|(dsimp only;omega))⟩
  ·replace h2:=vX h2
   have hie:i=t.length:=by omega
   rw[hie,List.take_length] at hal
   have hT8:yH 8 t:=dg_ok hal
   refine kN<|jB<|kx [(9,(vl 3 1 jH (tmL 8 t))),(10,(kG (gC 8 t)))] [] (zM<|zE (kB (u_sizes t (tn_up hT8) 8))<|zM<|zE xU<|zE xU<|zM<|zM<|zZ) ?_
   refine jB<|jB<|kx [(34,(vb ((((gC 8 t):Nat):Int) != 0)))] [] (zM<|zE aK<|zZ) ?_
   refine jF (b:=((((gC 8 t):Nat):Int) != 0)) rfl (fun h4=>?_) (fun h4=>?_)
   ·replace h4:=bne_iff_ne.1 h4
    refine jB<|kx [(6,(vb true))] [] (zM<|zZ) ?_
    refine jE ⟨_,(.tmp (d:=(.val (.bool (true)))) rfl .nil),?_⟩
    rw[fewT_code hlk hal h4];rfl
   ·replace h4:=bne_eq_false_iff_eq.1 h4
    have hc0:=h4
    have hll:=tmL_len hc0
    refine jG<|jB<|jB<|kx [(35,(vl 3 1 jH (tmL 8 t))),(36,(kG ((tmL 8 t).length))),(37,(kG 0))] [] (zM<|zE (zL uI (L:=(tmL 8 t)))<|zM<|zZ) ?_
    refine jL<|kQ (α:=Nat) (fun j=>⟨[(2,(kG m)),(35,(vl 3 1 jH (tmL 8 t))),(36,(kG ((tmL 8 t).length))),(37,(kG j))],[]⟩) (fun j=>j<=(tmL 8 t).length/\((tmL 8 t).take j).all (szB m)=true) (fun j=>(tmL 8 t).length-j) 0 wk ⟨Nat.zero_le _,by simp⟩ ?_
    rintro j ⟨hj,hal2⟩
    refine jB<|kx [(38,(vb (decide (((j:Nat):Int)<(((tmL 8 t).length:Nat):Int)))))] [] (zE gX<|zZ) ?_
    refine jB<|jF rfl (fun h5=>?_) (fun h5=>?_)
    ·replace h5:=vN h5
     refine jG<|jB<|jL<|jB<|kx [(12,(vi ((tmL 8 t).getD j 0)))] [] (zE (mV uI j (0:Int) (L:=(tmL 8 t)))<|zE (nK uC)<|zM<|zZ) ?_
     refine jB<|kx [(43,(vb (decide (((m:Nat):Int)<((tmL 8 t).getD j 0)))))] [] (zM<|zM<|zE dI<|zZ) ?_
     refine jF rfl (fun h6=>?_) (fun h6=>?_)
     ·replace h6:=vN h6
      refine jB<|kx [(6,(vb false))] [] (zM<|zZ) ?_
      refine jE ⟨_,(.tmp (d:=(.val (.bool (false)))) rfl .nil),?_⟩
      rw[fewT_big hc0 (all_no (i:=j) (d:=0) (by omega) (by unfold szB;exact decide_eq_false (by omega)))];rfl
     ·replace h6:=vX h6
      refine jG<|kx [(37,(kG (j+1)))] [] (zE (vY (j+1))<|zM<|zZ) ?_
      exact ⟨(j+1),wk,⟨by omega,all_up (d:=0) (by omega) hal2 (by unfold szB;exact decide_eq_true (by omega))⟩,(by first|omega|(dsimp only;omega))⟩
    ·replace h5:=vX h5
     have hje:j=(tmL 8 t).length:=by omega
     rw[hje,List.take_length] at hal2
     refine kN<|jB<|kx [(6,(vb true))] [] (zM<|zZ) ?_
     refine jE ⟨_,(.tmp (d:=(.val (.bool (true)))) rfl .nil),?_⟩
     rw[fewT_yes hlk hal hal2];rfl
end Go.Proofs.YtckccjhflbljgaaGreatDoor
namespace Go.Fid
def VBd(ss:List Int)(V:List Rat):Prop:=∀ j,j<V.length->∃ s:Nat,ss.getD j 0=(s:Int)/\1<=s/\QL (V.getD j 0) (bV s)
theorem vb_at{ss:List Int}{V:List Rat}(h:VBd ss V){a:Int}(h0:0<=a)(h1:a<V.length):∃ s:Nat,ss.getD a.toNat 0=(s:Int)/\1<=s/\QL (V.getD a.toNat 0) (bV s):=h a.toNat (by omega)
theorem vb_node{z:Int}{ss:List Int}{V xs:List Rat}{x:kC}(hk:ndC z ss x=0)(hl:ss.length=V.length)(hq:gZ x.n (vQ x.n) 8)(hb:∀ y∈xs,QL y 24)(h:VBd ss V) :
  ∃ s:Nat,fR ss x=(s:Int)/\1<=s/\QL (vV xs V x) (bV s):=by
 obtain ⟨h1,h2,h3,_⟩:=nd_0 hk
 unfold dE at h1
 unfold fJ at h2
 rcases mQ x.op with ⟨e,f⟩ | ⟨e,f⟩ | ⟨e,f⟩ | ⟨e,f⟩
 ·refine ⟨1,by unfold fR;rw[if_pos e];rfl,Nat.le_refl _,?_⟩
  rcases f with f | f
  ·unfold vV;simp only[f];exact uV hq.ql (by decide)
  ·unfold vV;simp only[f];exact uV (qlg hb (by decide) _) (by decide)
 ·obtain ⟨s,e1,e2,e3⟩:=vb_at h (a:=x.a) (by omega) (by omega)
  rcases f with f | f
  ·refine ⟨s,by unfold fR;rw[if_neg (by omega),if_pos f];exact e1,e2,?_⟩
   unfold vV;simp only[f];exact ql_neg e3
  ·refine ⟨2*s,by unfold fR;rw[if_neg (by omega),if_neg (by omega),if_pos f,e1];omega,by omega,?_⟩
   unfold vV;simp only[f];exact nN e3 e3 (by unfold bV;omega)
 ·obtain ⟨s,e1,e2,e3⟩:=vb_at h (a:=x.a) (by omega) (by omega)
  obtain ⟨r,g1,g2,g3⟩:=vb_at h (a:=x.b) (by omega) (by omega)
  refine ⟨s+r,by unfold fR;rw[if_neg (by omega),if_neg (by omega),if_neg (by omega),e1,g1];omega,by omega,?_⟩
  rcases f with f | f | f | f
  ·unfold vV;simp only[f];exact ql_add e3 g3 (by unfold bV;omega)
  ·unfold vV;simp only[f];exact ql_sub e3 g3 (by unfold bV;omega)
  ·unfold vV;simp only[f];exact nN e3 g3 (by unfold bV;omega)
  ·unfold vV;simp only[f];exact aM e3 g3 (by unfold bV;omega)
 ·omega
theorem gl_ptb{xs:List Rat}{n:Nat}(h:∀ y∈List.map gpt xs,GL n y):∀ q∈xs,QL q n:=fun q hq=>(h _ (List.mem_map.2 ⟨q,hq,rfl⟩)).1
theorem dQ.vb{xs:List Rat}{t:List kC}(h:dQ (List.map gpt xs) t):∀ {k:Nat},k<=t.length->VBd (nS t k) (vU xs t k)
 |0,_=>fun j hj=>by simp [vU] at hj
 |k+1,hk=>fun j hj=>by
  have ih:=h.vb (k:=k) (by omega)
  have l1:=xW t k
  have l2:=vU_len xs t k
  rw[vU_len] at hj
  have g1:(nS t (k+1)).getD j 0=_:=getD_snoc
  have g2:(vU xs t (k+1)).getD j 0=_:=getD_snoc
  rcases Nat.lt_or_ge j k with hjk | hjk
  ·rw[if_pos (by omega)] at g1 g2
   rw[g1,g2];exact ih j (by omega)
  ·rw[if_neg (by omega),if_pos (by omega)] at g1 g2
   rw[g1,g2]
   exact vb_node ((tm_0 h.c0).2.2.2.2 k (by omega)) (l1.trans l2.symm) (h.q _ (aG (by omega))) (gl_ptb h.b) ih
theorem dQ.vq{xs:List Rat}{t:List kC}(h:dQ (List.map gpt xs) t){k:Nat}(hk:k<t.length):QL (vV xs (vU xs t k) (t.getD k tz)) 1048576:=by
 obtain ⟨s,e1,e2,e3⟩:=vb_node ((tm_0 h.c0).2.2.2.2 k hk) ((xW t k).trans (vU_len xs t k).symm) (h.q _ (aG hk)) (gl_ptb h.b) (h.vb (Nat.le_of_lt hk))
 have e4:=h.s k hk
 exact uV e3 (bd_200 (s:=s) (by omega)).1
def vzB(xs:List Rat)(t:List kC)(k:Nat):Bool:=decide ((t.getD k tz).op=5)&&decide ((vU xs t k).getD (t.getD k tz).b.toNat 0=0)
def vzT(xs:List Rat)(t:List kC):Bool:=(List.range t.length).any (vzB xs t)
theorem vz_at{xs:List Rat}{t:List kC}{k:Nat}(h:vzB xs t k=false)(ho:(t.getD k tz).op=5):(vU xs t k).getD (t.getD k tz).b.toNat 0≠0:=by
 unfold vzB at h;rw[decide_eq_true ho,Bool.true_and] at h;exact of_decide_eq_false h
theorem dQ.vrun{xs:List Rat}{t:List kC}(h:dQ (List.map gpt xs) t)(hz:vzT xs t=false):VRun xs t :=
 ⟨by have:=h.c0;rwa [List.length_map] at this,fun k hk=>h.vq hk,fun k hk ho=>vz_at (by
  cases hp:vzB xs t k with
  |false=>rfl
  |true=>unfold vzT at hz;rw[List.any_eq_true.2 ⟨k,List.mem_range.2 hk,hp⟩] at hz;cases hz) ho⟩
theorem dQ.vfail{xs:List Rat}{t:List kC}(h:dQ (List.map gpt xs) t)(hz:vzT xs t=true):∃ k,VFail xs t k:=by
 obtain ⟨k,h1,h2,h3⟩:=fst_any hz
 unfold vzB at h3
 rw[Bool.and_eq_true,decide_eq_true_eq,decide_eq_true_eq] at h3
 exact ⟨k,by have:=h.c0;rwa [List.length_map] at this,h1,⟨fun i hi=>h.vq (by omega),fun i hi ho=>vz_at (h2 i hi) ho⟩,h3.1,h3.2⟩
end Go.Fid
namespace Go.Proofs.YtckccjhflbljgaaGreatDoor
open Go.Fid
theorem u_brief7(l:List kV)(hl:RowOk 140737488355328 l):jR Tryz.prog 10 [(.sl 32 4 (List.map jJ l))] (.val (.bool ((shR 4 8 l)))):=by
 refine uU Tryz.func10 ?_
 refine jB<|kx [] [] (zM<|zZ) ?_
 refine jB<|kx [(2,(vb (shR 4 8 l)))] [] (zM<|zE (kB (u_short l hl 4 (by omega) 8 (by omega)))<|zM<|zZ) ?_
 refine jE ⟨_,(.tmp (d:=(.val (.bool ((shR 4 8 l))))) rfl .nil),?_⟩
 rfl
theorem w_vaT(t:List kC)(ht:yH 140737488355328 t)(l:List kV)(hl:RowOk 140737488355328 l)(hw:fL 30 40 t=false)(htl:t.length<=140737488355328):jR Tryz.prog 3 [(.sl 72 7 (List.map jM t)),(.sl 32 4 (List.map jJ l))] (.val (.bool (true))):=by
 refine uU Tryz.func3 ?_
 refine jB<|kx [] [] (zM<|zZ) ?_
 refine jB<|jB<|kx [(10,(vb false))] [] (zE (kB x_known)<|zE mH<|zZ) ?_
 refine qW ?_
 refine jG<|jB<|jB<|kx [(18,(vb true))] [] (zM<|zE (nH false (kB (u_few t ht 30 (by omega) 40 (by omega) htl)) (by exact hw))<|zE mH<|zM<|zK<|zK<|zK<|zE gU<|zZ) ?_
 refine yR ?_
 refine jB<|kx [(4,(vb true))] [] (zM<|zZ) ?_
 refine jE ⟨_,(.tmp (d:=(.val (.bool (true)))) rfl .nil),?_⟩
 rfl
theorem w_vaS(t:List kC)(ht:yH 140737488355328 t)(l:List kV)(hl:RowOk 140737488355328 l)(hw:fL 30 40 t=true)(hs:shR 4 8 l=false)(htl:t.length<=140737488355328):jR Tryz.prog 3 [(.sl 72 7 (List.map jM t)),(.sl 32 4 (List.map jJ l))] (.val (.bool (true))):=by
 refine uU Tryz.func3 ?_
 refine jB<|kx [] [] (zM<|zZ) ?_
 refine jB<|jB<|kx [(10,(vb false))] [] (zE (kB x_known)<|zE mH<|zZ) ?_
 refine qW ?_
 refine jG<|jB<|jB<|kx [(18,(vb true))] [] (zM<|zE (nH true (kB (u_few t ht 30 (by omega) 40 (by omega) htl)) (by exact hw))<|zE mH<|zM<|zM<|zE (nH false (kB (u_brief7 l hl)) (by exact hs))<|zE mH<|zE yS<|zZ) ?_
 refine yR ?_
 refine jB<|kx [(4,(vb true))] [] (zM<|zZ) ?_
 refine jE ⟨_,(.tmp (d:=(.val (.bool (true)))) rfl .nil),?_⟩
 rfl
theorem w_va1(t:List kC)(ht:yH 1048576 t)(l:List kV)(hl:RowOk 1048576 l)(hw:fL 30 40 t=true)(hs:shR 4 8 l=true)(hv:vRow l=false)(hxb:l.length<=1000000)(htl:t.length<=140737488355328):jR Tryz.prog 3 [(.sl 72 7 (List.map jM t)),(.sl 32 4 (List.map jJ l))] (.val (.bool (true))):=by
 refine uU Tryz.func3 ?_
 refine jB<|kx [] [] (zM<|zZ) ?_
 refine jB<|jB<|kx [(10,(vb false))] [] (zE (kB x_known)<|zE mH<|zZ) ?_
 refine qW ?_
 refine jG<|jB<|jB<|kx [(18,(vb false))] [] (zM<|zE (nH true (kB (u_few t (tn_up ht) 30 (by omega) 40 (by omega) htl)) (by exact hw))<|zE mH<|zM<|zM<|zE (nH true (kB (u_brief7 l (row_up hl))) (by exact hs))<|zE mH<|zE yS<|zZ) ?_
 refine qW ?_
 refine jG<|jB<|kx [(5,(.ref 0 0)),(6,(kG 1))] [(0,some (bx (jJ uD)))] (zM<|zM<|zE (kB (p_valV t ht l hl hv hxb))<|zM<|zE xU<|zE xU<|zN (vC 0 qU uG)<|zT (qM jS)<|zM<|zZ) ?_
 refine jB<|kx [(7,(.ref 1 0)),(8,(kG 1))] [(1,some (bx (jJ uD)))] (zM<|zM<|zE (kB (u_valV t ht l hl hv hxb))<|zM<|zE xU<|zE xU<|zN (vC 1 qU uG)<|zT (qM jS)<|zM<|zZ) ?_
 refine jB<|jB<|kx [(32,(vb true))] [] (zM<|zE (nH true aK)<|zZ) ?_
 refine yR ?_
 refine jB<|kx [(4,(vb true))] [] (zM<|zM<|zE (nH true xV)<|zM<|zR (kR jS)<|zE (kB g_zeroT)<|zE gU<|zM<|zZ) ?_
 refine jE ⟨_,(.tmp (d:=(.val (.bool (true)))) rfl .nil),?_⟩
 rfl
theorem w_va2(t:List kC)(ht:yH 1048576 t)(xs:List Rat)(hx:∀ q∈xs,QL q 1048576)(hw:fL 30 40 t=true)(hs:shR 4 8 (List.map jO xs)=true)(hc:gC ((xs.length:Nat):Int) t≠0)(hxb:xs.length<=1000000)(htl:t.length<=140737488355328):jR Tryz.prog 3 [(.sl 72 7 (List.map jM t)),(.sl 32 4 (List.map jJ (List.map jO xs)))] (.val (.bool (true))):=by
 refine uU Tryz.func3 ?_
 refine jB<|kx [] [] (zM<|zZ) ?_
 refine jB<|jB<|kx [(10,(vb false))] [] (zE (kB x_known)<|zE mH<|zZ) ?_
 refine qW ?_
 refine jG<|jB<|jB<|kx [(18,(vb false))] [] (zM<|zE (nH true (kB (u_few t (tn_up ht) 30 (by omega) 40 (by omega) htl)) (by exact hw))<|zE mH<|zM<|zM<|zE (nH true (kB (u_brief7 (List.map jO xs) (row_up (pts_row hx (by omega))))) (by exact hs))<|zE mH<|zE yS<|zZ) ?_
 refine qW ?_
 refine jG<|jB<|kx [(5,(.ref 0 0)),(6,(kG (gC ((xs.length:Nat):Int) t)))] [(0,some (bx (jJ uD)))] (zM<|zM<|zE (kB (p_valC t ht xs hx hc hxb))<|zM<|zE xU<|zE xU<|zN (vC 0 qU uG)<|zT (qM jS)<|zM<|zZ) ?_
 refine jB<|kx [(7,(.ref 1 0)),(8,(kG (gC ((xs.length:Nat):Int) t)))] [(1,some (bx (jJ uD)))] (zM<|zM<|zE (kB (u_valC t ht xs hx hc hxb))<|zM<|zE xU<|zE xU<|zN (vC 1 qU uG)<|zT (qM jS)<|zM<|zZ) ?_
 refine jB<|jB<|kx [(32,(vb true))] [] (zM<|zE (nH true aK (by exact bne_iff_ne.2 (by have hx:=hc;omega)))<|zZ) ?_
 refine yR ?_
 refine jB<|kx [(4,(vb true))] [] (zM<|zM<|zE (nH true xV (by exact beq_self_eq_true _))<|zM<|zR (kR jS)<|zE (kB g_zeroT)<|zE gU<|zM<|zZ) ?_
 refine jE ⟨_,(.tmp (d:=(.val (.bool (true)))) rfl .nil),?_⟩
 rfl
theorem w_va3(t:List kC)(ht:yH 1048576 t)(xs:List Rat)(hx:∀ q∈xs,QL q 1048576)(hw:fL 30 40 t=true)(hs:shR 4 8 (List.map jO xs)=true)(hf:∃ k,VFail xs t k)(hxb:xs.length<=1000000)(htl:t.length<=140737488355328):jR Tryz.prog 3 [(.sl 72 7 (List.map jM t)),(.sl 32 4 (List.map jJ (List.map jO xs)))] (.val (.bool (true))):=by
 refine uU Tryz.func3 ?_
 refine jB<|kx [] [] (zM<|zZ) ?_
 refine jB<|jB<|kx [(10,(vb false))] [] (zE (kB x_known)<|zE mH<|zZ) ?_
 refine qW ?_
 refine jG<|jB<|jB<|kx [(18,(vb false))] [] (zM<|zE (nH true (kB (u_few t (tn_up ht) 30 (by omega) 40 (by omega) htl)) (by exact hw))<|zE mH<|zM<|zM<|zE (nH true (kB (u_brief7 (List.map jO xs) (row_up (pts_row hx (by omega))))) (by exact hs))<|zE mH<|zE yS<|zZ) ?_
 refine qW ?_
 refine jG<|jB<|kx [(5,(.ref 0 0)),(6,(kG 14))] [(0,some (bx (jJ uD)))] (zM<|zM<|zE (kB (p_valF t ht xs hx hf hxb))<|zM<|zE xU<|zE xU<|zN (vC 0 qU uG)<|zT (qM jS)<|zM<|zZ) ?_
 refine jB<|kx [(7,(.ref 1 0)),(8,(kG 14))] [(1,some (bx (jJ uD)))] (zM<|zM<|zE (kB (u_valF t ht xs hx hf hxb))<|zM<|zE xU<|zE xU<|zN (vC 1 qU uG)<|zT (qM jS)<|zM<|zZ) ?_
 refine jB<|jB<|kx [(32,(vb true))] [] (zM<|zE (nH true aK)<|zZ) ?_
 refine yR ?_
 refine jB<|kx [(4,(vb true))] [] (zM<|zM<|zE (nH true xV)<|zM<|zR (kR jS)<|zE (kB g_zeroT)<|zE gU<|zM<|zZ) ?_
 refine jE ⟨_,(.tmp (d:=(.val (.bool (true)))) rfl .nil),?_⟩
 rfl
theorem w_va4(t:List kC)(ht:yH 1048576 t)(xs:List Rat)(hx:∀ q∈xs,QL q 1048576)(hw:fL 30 40 t=true)(hs:shR 4 8 (List.map jO xs)=true)(hr:VRun xs t)(hxb:xs.length<=1000000)(htl:t.length<=140737488355328):jR Tryz.prog 3 [(.sl 72 7 (List.map jM t)),(.sl 32 4 (List.map jJ (List.map jO xs)))] (.val (.bool (true))):=by
 refine uU Tryz.func3 ?_
 refine jB<|kx [] [] (zM<|zZ) ?_
 refine jB<|jB<|kx [(10,(vb false))] [] (zE (kB x_known)<|zE mH<|zZ) ?_
 refine qW ?_
 refine jG<|jB<|jB<|kx [(18,(vb false))] [] (zM<|zE (nH true (kB (u_few t (tn_up ht) 30 (by omega) 40 (by omega) htl)) (by exact hw))<|zE mH<|zM<|zM<|zE (nH true (kB (u_brief7 (List.map jO xs) (row_up (pts_row hx (by omega))))) (by exact hs))<|zE mH<|zE yS<|zZ) ?_
 refine qW ?_
 refine jG<|jB<|kx [(5,(.ref 0 0)),(6,(kG 0))] [(0,some (bx (jJ (jO (dZ xs t)))))] (zM<|zM<|zE (kB (p_val t ht xs hx hr hxb))<|zM<|zE xU<|zE xU<|zN (vC 0 qU uG)<|zT (qM jS)<|zM<|zZ) ?_
 refine jB<|kx [(7,(.ref 1 0)),(8,(kG 0))] [(1,some (bx (jJ (jO (dZ xs t)))))] (zM<|zM<|zE (kB (u_val t ht xs hx hr hxb))<|zM<|zE xU<|zE xU<|zN (vC 1 qU uG)<|zT (qM jS)<|zM<|zZ) ?_
 refine jB<|jB<|kx [(32,(vb false))] [] (zM<|zE (nH false aK)<|zZ) ?_
 refine qW ?_
 refine jG<|jB<|kx [(4,(vb true))] [] (zM<|zE (nH true xV)<|zM<|zR (kR jS)<|zR (kR jS)<|zE (nH true (kB (by have h:=g_same (jO (dZ xs t)) (jO (dZ xs t)) (dZ xs t) (dZ xs t) (jY (kF hr.last)) (jY (kF hr.last));rw[sameR_of] at h;exact h)) (by exact decide_eq_true rfl))<|zE gU<|zM<|zZ) ?_
 refine jE ⟨_,(.tmp (d:=(.val (.bool (true)))) rfl .nil),?_⟩
 rfl
end Go.Proofs.YtckccjhflbljgaaGreatDoor
