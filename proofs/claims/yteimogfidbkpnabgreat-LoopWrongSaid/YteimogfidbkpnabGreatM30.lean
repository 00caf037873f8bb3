/- Part 30 of a proof: rules, plain facts, and functions walked. -/
import Derived.Test.YteimogfidbkpnabGreatM29
import Derived.Test.YteimogfidbkpnabGreatM25
import Derived.Test.YteimogfidbkpnabGreatM26
set_option linter.all false
set_option maxRecDepth 4000
namespace Go.Proofs.YteimogfidbkpnabGreat
open Go.Fid
theorem ar30:arrB Tryz.prog 30=some (2,5,1):=by kernel_rfl
theorem by36:zC Tryz.prog 36=some 48:=by kernel_rfl
theorem cb6:callB Tryz.prog 6=true:=by kernel_rfl
theorem el29:uK Tryz.prog 29=some (30,2):=by kernel_rfl
theorem sh5:kS Tryz.prog 5=some (false,1):=by kernel_rfl
theorem sh30:kS Tryz.prog 30=some (true,2):=by kernel_rfl
theorem un5:(Tryz.prog.underlying 5).isSome=true:=by kernel_rfl
theorem ze30:uZ Tryz.prog 30=some [.int .u8 0,.int .u8 0]:=by kernel_rfl
theorem zo30:mW [.int .u8 0,.int .u8 0] [.val (.int .u8 0),.val (.int .u8 0)]:=by simp [mW,Value.oneCell']
def p2(x:A2 (Nat)):Nat × Nat:=(x.a0,x.a1)
def mdB(ts:List jB):Bool:=!(ts.any qBad)
def mdR(ts:List jB)(p:List (A2 (Nat))):List jC:=if ts.any qBad=true then [] else dT ts (List.map p2 p)
theorem mem_gd{α:Type}{l:List α}{k:Nat}(d:α)(h:k<l.length):l.getD k d∈l:=by
 rw[List.getD_eq_getElem?_getD,List.getElem?_eq_getElem h];exact List.getElem_mem _
theorem p2_s{p:List (A2 (Nat))}{k:Nat}(d:A2 (Nat))(h:k<p.length):List.map p2 (p.take (k+1))=List.map p2 (p.take k)++[p2 (p.getD k d)]:=by
 rw[List.take_succ_eq_append_getElem h,List.map_append,List.getD_eq_getElem?_getD,List.getElem?_eq_getElem h];rfl
theorem any_s{ts:List jB}{k:Nat}(h:k<ts.length)(h1:(ts.take k).any qBad=false)(h2:qBad (uR ts k)=false):(ts.take (k+1)).any qBad=false:=by
 have e:uR ts k=ts[k]:=by unfold uR;rw[List.getD_eq_getElem?_getD,List.getElem?_eq_getElem h];rfl
 rw[List.take_succ_eq_append_getElem h,List.any_append,h1,← e];simp [h2]
theorem any_y{ts:List jB}{k:Nat}(h:k<ts.length)(h2:qBad (uR ts k)=true):ts.any qBad=true:=by
 have e:uR ts k=ts[k]:=by unfold uR;rw[List.getD_eq_getElem?_getD,List.getElem?_eq_getElem h];rfl
 exact List.any_eq_true.2 ⟨ts[k],List.getElem_mem _,e▸h2⟩
theorem sm_all{ts:List jB}(h:ts.any qBad=false):allSm ts:=fun q hq=>qBad_f (by have:=List.any_eq_false.1 h q hq;simpa using this)
theorem e_made(ts:List jB)(p:List (A2 (Nat)))(h1:1≤ts.length)(hbt:ts.length≤1000)(hbp:p.length≤1000)(hu:∀ x∈p,x.a0≤255∧x.a1≤255):eO Tryz.prog 6 [(vl 24 4 jF ts),(vl 30 2 mB p)] [] (.pr 0 36 6 ((mdR ts p).length) (.val (.bool ((mdB ts))))) [(0,some (vX jP (mdR ts p)))]:=by
 refine fn_introS Tryz.func6 rfl cb6 rfl ?_
 show qU _ _ _ _ ⟨[(0,(vl 24 4 jF ts)),(1,(vl 30 2 mB p))],[]⟩
 refine jA<|kx [] [(1,none)] (zO 1 36 6<|zM<|zZ) ?_
 refine jA<|kx [(6,(.own 2 36 6 0))] [(2,some (vX jP []))] (zO 2 36 6<|zZ) ?_
 refine jA<|jA<|kx [(15,(vl 24 4 jF ts)),(16,(jT ts.length)),(17,(jT 0))] [] (zM<|zE (xD cI)<|zM<|zZ) ?_
 refine jH<|kI (α:=Nat) (fun k=>⟨[(0,(vl 24 4 jF ts)),(1,(vl 30 2 mB p)),(6,(.own 2 36 6 0)),(15,(vl 24 4 jF ts)),(16,(jT ts.length)),(17,(jT k))],[(2,some (vX jP []))]⟩) (fun k=>k≤ts.length∧(ts.take k).any qBad=false) (fun k=>ts.length-k) 0 wk ⟨Nat.zero_le _,rfl⟩ ?_
 rintro k ⟨hk,hv⟩
 refine jA<|kx [(18,(vb (decide (((k:Nat):Int)<((ts.length:Nat):Int)))))] [] (zE uM<|zZ) ?_
 refine jA<|jG rfl (fun h1=>?_) (fun h1=>?_)
 ·replace h1:=uW h1
  refine jE<|jA<|jH<|jA<|kx [(8,(.ref 3 0))] [(3,some (bx (jF (ts.getD k (jB.mk 0 0 0 0)))))] (zE (gV cI k (jB.mk 0 0 0 0))<|zE (oCa kL)<|zH (uQ 3 vK vL)<|zT (qA kL)<|zZ) ?_
  refine jA<|kx [(63,(vb ((((((((decide (3<(ts.getD k (jB.mk 0 0 0 0)).a)||decide ((ts.getD k (jB.mk 0 0 0 0)).a < -3))||decide (3<(ts.getD k (jB.mk 0 0 0 0)).b))||decide ((ts.getD k (jB.mk 0 0 0 0)).b < -3))||decide (3<(ts.getD k (jB.mk 0 0 0 0)).c))||decide ((ts.getD k (jB.mk 0 0 0 0)).c < -3))||decide (3<(ts.getD k (jB.mk 0 0 0 0)).d))||decide ((ts.getD k (jB.mk 0 0 0 0)).d < -3))||((((gU ((ts.getD k (jB.mk 0 0 0 0)).a) ((ts.getD k (jB.mk 0 0 0 0)).b) ((ts.getD k (jB.mk 0 0 0 0)).c) ((ts.getD k (jB.mk 0 0 0 0)).d)):Nat):Int) != 0))))] [] ?_ ?_
  ·refine zE (kV vO)<|zR (kP qF)<|zE cK<|zE (oV (vb (decide (3<(ts.getD k (jB.mk 0 0 0 0)).a))) (kZ (by kernel_rfl)))<|?_
   rcases hb2:(decide (3<(ts.getD k (jB.mk 0 0 0 0)).a)) with _ | _
   ·replace hb2:=uY hb2
    refine zE (kV vO)<|zR (kP qF)<|zE uM<|zE cF<|zE (oV (vb (false||decide ((ts.getD k (jB.mk 0 0 0 0)).a < -3))) (kZ (by kernel_rfl)))<|?_
    rcases hb3:(false||decide ((ts.getD k (jB.mk 0 0 0 0)).a < -3)) with _ | _
    ·replace hb3:=uY (p:=((ts.getD k (jB.mk 0 0 0 0)).a < -3)) hb3
     refine zE (kV vP)<|zR (kP qF)<|zE cK<|zE cF<|zE (oV (vb (false||decide (3<(ts.getD k (jB.mk 0 0 0 0)).b))) (kZ (by kernel_rfl)))<|?_
     rcases hb4:(false||decide (3<(ts.getD k (jB.mk 0 0 0 0)).b)) with _ | _
     ·replace hb4:=uY (p:=(3<(ts.getD k (jB.mk 0 0 0 0)).b)) hb4
      refine zE (kV vP)<|zR (kP qF)<|zE uM<|zE cF<|zE (oV (vb (false||decide ((ts.getD k (jB.mk 0 0 0 0)).b < -3))) (kZ (by kernel_rfl)))<|?_
      rcases hb5:(false||decide ((ts.getD k (jB.mk 0 0 0 0)).b < -3)) with _ | _
      ·replace hb5:=uY (p:=((ts.getD k (jB.mk 0 0 0 0)).b < -3)) hb5
       refine zE (kV vM)<|zR (kP qF)<|zE cK<|zE cF<|zE (oV (vb (false||decide (3<(ts.getD k (jB.mk 0 0 0 0)).c))) (kZ (by kernel_rfl)))<|?_
       rcases hb6:(false||decide (3<(ts.getD k (jB.mk 0 0 0 0)).c)) with _ | _
       ·replace hb6:=uY (p:=(3<(ts.getD k (jB.mk 0 0 0 0)).c)) hb6
        refine zE (kV vM)<|zR (kP qF)<|zE uM<|zE cF<|zE (oV (vb (false||decide ((ts.getD k (jB.mk 0 0 0 0)).c < -3))) (kZ (by kernel_rfl)))<|?_
        rcases hb7:(false||decide ((ts.getD k (jB.mk 0 0 0 0)).c < -3)) with _ | _
        ·replace hb7:=uY (p:=((ts.getD k (jB.mk 0 0 0 0)).c < -3)) hb7
         refine zE (kV vN)<|zR (kP qF)<|zE cK<|zE cF<|zE (oV (vb (false||decide (3<(ts.getD k (jB.mk 0 0 0 0)).d))) (kZ (by kernel_rfl)))<|?_
         rcases hb8:(false||decide (3<(ts.getD k (jB.mk 0 0 0 0)).d)) with _ | _
         ·replace hb8:=uY (p:=(3<(ts.getD k (jB.mk 0 0 0 0)).d)) hb8
          refine zE (kV vN)<|zR (kP qF)<|zE uM<|zE cF<|zE (oV (vb (false||decide ((ts.getD k (jB.mk 0 0 0 0)).d < -3))) (kZ (by kernel_rfl)))<|?_
          rcases hb9:(false||decide ((ts.getD k (jB.mk 0 0 0 0)).d < -3)) with _ | _
          ·replace hb9:=uY (p:=((ts.getD k (jB.mk 0 0 0 0)).d < -3)) hb9
           exact zR (kY kL)<|zE (kE (qs_chk ((ts.getD k (jB.mk 0 0 0 0)).a) ((ts.getD k (jB.mk 0 0 0 0)).b) ((ts.getD k (jB.mk 0 0 0 0)).c) ((ts.getD k (jB.mk 0 0 0 0)).d)))<|zE fO<|zE cF<|zZ
          ·replace hb9:=uW (p:=((ts.getD k (jB.mk 0 0 0 0)).d < -3)) hb9
           exact zK<|zK<|zK<|zE xC<|zZ
         ·replace hb8:=uW (p:=(3<(ts.getD k (jB.mk 0 0 0 0)).d)) hb8
          exact zK<|zK<|zK<|zE xC<|zM<|zK<|zK<|zK<|zE xC<|zZ
        ·replace hb7:=uW (p:=((ts.getD k (jB.mk 0 0 0 0)).c < -3)) hb7
         exact zK<|zK<|zK<|zE xC<|zM<|zK<|zK<|zK<|zE xC<|zM<|zK<|zK<|zK<|zE xC<|zZ
       ·replace hb6:=uW (p:=(3<(ts.getD k (jB.mk 0 0 0 0)).c)) hb6
        exact zK<|zK<|zK<|zE xC<|zM<|zK<|zK<|zK<|zE xC<|zM<|zK<|zK<|zK<|zE xC<|zM<|zK<|zK<|zK<|zE xC<|zZ
      ·replace hb5:=uW (p:=((ts.getD k (jB.mk 0 0 0 0)).b < -3)) hb5
       exact zK<|zK<|zK<|zE xC<|zM<|zK<|zK<|zK<|zE xC<|zM<|zK<|zK<|zK<|zE xC<|zM<|zK<|zK<|zK<|zE xC<|zM<|zK<|zK<|zK<|zE xC<|zZ
     ·replace hb4:=uW (p:=(3<(ts.getD k (jB.mk 0 0 0 0)).b)) hb4
      exact zK<|zK<|zK<|zE xC<|zM<|zK<|zK<|zK<|zE xC<|zM<|zK<|zK<|zK<|zE xC<|zM<|zK<|zK<|zK<|zE xC<|zM<|zK<|zK<|zK<|zE xC<|zM<|zK<|zK<|zK<|zE xC<|zZ
    ·replace hb3:=uW (p:=((ts.getD k (jB.mk 0 0 0 0)).a < -3)) hb3
     exact zK<|zK<|zK<|zE xC<|zM<|zK<|zK<|zK<|zE xC<|zM<|zK<|zK<|zK<|zE xC<|zM<|zK<|zK<|zK<|zE xC<|zM<|zK<|zK<|zK<|zE xC<|zM<|zK<|zK<|zK<|zE xC<|zM<|zK<|zK<|zK<|zE xC<|zZ
   ·replace hb2:=uW hb2
    exact zK<|zK<|zK<|zE xC<|zM<|zK<|zK<|zK<|zE xC<|zM<|zK<|zK<|zK<|zE xC<|zM<|zK<|zK<|zK<|zE xC<|zM<|zK<|zK<|zK<|zE xC<|zM<|zK<|zK<|zK<|zE xC<|zM<|zK<|zK<|zK<|zE xC<|zM<|zK<|zK<|zK<|zE xC<|zZ
  refine jG rfl (fun h10=>?_) (fun h10=>?_)
  ·refine jA<|kx [(4,(.own 4 36 6 0)),(5,(vb false))] [(4,some (vX jP []))] (zO 4 36 6<|zM<|zZ) ?_
   refine kX (wk (l:=[(4,(.own 4 36 6 0)),(5,(vb false))]) (b:=[(4,some (vX jP []))])) ?_
   refine kX (sim_ren (S':=[(4,(.own 0 36 6 0)),(5,(vb false))]) (B':=[(0,some (vX jP []))]) 0 4) ?_
   have hy:ts.any qBad=true:=any_y (by omega) h10
   rw[show mdR ts p=[] from if_pos hy,show mdB ts=false by unfold mdB;rw[hy];rfl]
   refine jI ⟨cW (by kernel_rfl),aD (by kernel_rfl),.inr (.inr ⟨4,5,0,36,6,0,(.val (.bool (false))),rfl,rfl,rfl,?_⟩)⟩
   rfl
  ·refine jE<|kx [(17,(jT (k+1)))] [] (zE (qS (k+1))<|zM<|zZ) ?_
   exact ⟨(k+1),wk,⟨by omega,any_s (by omega) hv h10⟩,(by omega)⟩
 ·replace h1:=uY h1
  have hany:ts.any qBad=false:=by rw[show k=ts.length by omega,List.take_length] at hv;exact hv
  have hsm:=sm_all hany
  refine jW<|jA<|jA<|kx [(65,(vl 30 2 mB p)),(66,(jT p.length)),(67,(jT 0))] [] (zM<|zE (xD el29)<|zM<|zZ) ?_
  refine jH<|kI (α:=Nat × List jC) (fun (k,out)=>⟨[(0,(vl 24 4 jF ts)),(6,(.own 2 36 6 out.length)),(65,(vl 30 2 mB p)),(66,(jT p.length)),(67,(jT k))],[(2,some (vX jP out))]⟩) (fun (k,out)=>k≤p.length∧out=dT ts (List.map p2 (p.take k))) (fun (k,out)=>p.length-k) (0,[]) wk ⟨Nat.zero_le _,rfl⟩ ?_
  rintro ⟨k,out⟩ ⟨hk,ho⟩
  have hol:out.length≤k:=by rw[ho];have:=md_len (ts:=ts) (l:=List.map p2 (p.take k));have:=List.length_take_le k p;rw[List.length_map] at *;omega
  have hma:=Nat.mod_lt (p.getD k (A2.mk 0 0)).a0 (show 0<ts.length by omega)
  have hmb:=Nat.mod_lt (p.getD k (A2.mk 0 0)).a1 (show 0<ts.length by omega)
  have hsa:=sm_at hsm hma
  have hsb:=sm_at hsm hmb
  refine jA<|kx [(68,(vb (decide (((k:Nat):Int)<((p.length:Nat):Int)))))] [] (zE uM<|zZ) ?_
  refine jA<|jG rfl (fun h11=>?_) (fun h11=>?_)
  ·replace h11:=uW h11
   have hux:=hu _ (mem_gd (l:=p) (k:=k) (A2.mk 0 0) (by omega))
   refine jE<|jA<|jH<|jA<|kx [(10,(.ref 5 0))] [(5,some (bx (mB (p.getD k (A2.mk 0 0)))))] (zE (gV el29 k ((A2.mk 0 0):A2 (Nat)))<|zE (oCa sh30)<|zH (uQ 5 ze30 zo30)<|zT (qA sh30)<|zZ) ?_
   refine jA<|kd [(11,(jT ((p.getD k (A2.mk 0 0)).a0 % ts.length))),(12,(jT ((p.getD k (A2.mk 0 0)).a1 % ts.length)))] [] mo (wE (oXr ar30 0)<|wR (kP sh5)<|wE (yR un5 in3 ((p.getD k (A2.mk 0 0)).a0))<|wM<|wE (xD cI)<|wE (oRe ((p.getD k (A2.mk 0 0)).a0 % ts.length))<|wE (oXr ar30 1)<|wR (kP sh5)<|wE (yR un5 in3 ((p.getD k (A2.mk 0 0)).a1))<|wM<|wE (xD cI)<|wE (oRe ((p.getD k (A2.mk 0 0)).a1 % ts.length))<|wM<|wM<|wZ) ?_
   refine jA<|jA<|kx [(85,(vb (((((p.getD k (A2.mk 0 0)).a0 % ts.length):Nat):Int) == ((((p.getD k (A2.mk 0 0)).a1 % ts.length):Nat):Int))))] [] (zM<|zM<|zE gX<|zZ) ?_
   refine jG rfl (fun h12=>?_) (fun h12=>?_)
   ·replace h12:=eq_of_beq h12
    refine jW<|kx [(67,(jT (k+1)))] [] (zE (qS (k+1))<|zM<|zZ) ?_
    exact ⟨(k+1,out),wk,⟨by omega,by rw[p2_s (A2.mk 0 0) (by omega),md_n (show (p2 (p.getD k (A2.mk 0 0))).1 % ts.length=(p2 (p.getD k (A2.mk 0 0))).2 % ts.length by show ((p.getD k (A2.mk 0 0)).a0 % ts.length)=((p.getD k (A2.mk 0 0)).a1 % ts.length);omega)];exact ho⟩,(by first|omega|(dsimp only;omega))⟩
   ·replace h12:=ne_of_beq_false h12
    refine jE<|jA<|kd [(13,(.ref 6 0)),(14,(jT (qC (jZ (qV (uL (ts.getD ((p.getD k (A2.mk 0 0)).a1 % ts.length) (jB.mk 0 0 0 0)))) (ts.getD ((p.getD k (A2.mk 0 0)).a0 % ts.length) (jB.mk 0 0 0 0))))))] [(6,some (bx (jF (qV (jZ (qV (uL (ts.getD ((p.getD k (A2.mk 0 0)).a1 % ts.length) (jB.mk 0 0 0 0)))) (ts.getD ((p.getD k (A2.mk 0 0)).a0 % ts.length) (jB.mk 0 0 0 0)))))))] mo (wM<|wM<|wE (gV cI ((p.getD k (A2.mk 0 0)).a1 % ts.length) (jB.mk 0 0 0 0))<|wE (oCa kL)<|wM<|wM<|wE (gV cI ((p.getD k (A2.mk 0 0)).a0 % ts.length) (jB.mk 0 0 0 0))<|wE (oCa kL)<|wE (kE (l8_under (ts.getD ((p.getD k (A2.mk 0 0)).a1 % ts.length) (jB.mk 0 0 0 0)) (ts.getD ((p.getD k (A2.mk 0 0)).a0 % ts.length) (jB.mk 0 0 0 0)) hsb.2 hsa.2))<|wM<|wE qQ<|wE qQ<|wH (hc:=by kernel_rfl) (uQ 6 vK vL)<|wT (qA kL)<|wM<|wZ) ?_
    refine jA<|jA<|kx [(99,(vb false))] [] (zM<|zE (xR false fO (by exact bne_eq_false_iff_eq.2 (by rw[show (qC (jZ (qV (uL (ts.getD ((p.getD k (A2.mk 0 0)).a1 % ts.length) (jB.mk 0 0 0 0)))) (ts.getD ((p.getD k (A2.mk 0 0)).a0 % ts.length) (jB.mk 0 0 0 0))))=0 from (sm_btw hsb hsa)]<;>rfl)))<|zZ) ?_
    refine qZ ?_
    refine jE<|kf [(6,(.own 2 36 6 ((out++[(jC.mk ((((p.getD k (A2.mk 0 0)).a0 % ts.length):Nat):Int) ((((p.getD k (A2.mk 0 0)).a1 % ts.length):Nat):Int) (qV (jZ (qV (uL (ts.getD ((p.getD k (A2.mk 0 0)).a1 % ts.length) (jB.mk 0 0 0 0)))) (ts.getD ((p.getD k (A2.mk 0 0)).a0 % ts.length) (jB.mk 0 0 0 0)))))]).length)))] [(2,some (vX jP (out++[(jC.mk ((((p.getD k (A2.mk 0 0)).a0 % ts.length):Nat):Int) ((((p.getD k (A2.mk 0 0)).a1 % ts.length):Nat):Int) (qV (jZ (qV (uL (ts.getD ((p.getD k (A2.mk 0 0)).a1 % ts.length) (jB.mk 0 0 0 0)))) (ts.getD ((p.getD k (A2.mk 0 0)).a0 % ts.length) (jB.mk 0 0 0 0)))))])))] (zM<|zM<|zM<|zR (kY kL)<|zE (eQ pl36 ze36 zo36)<|zE (oBs mI ze36 zo36)<|zAS jP out [(jC.mk ((((p.getD k (A2.mk 0 0)).a0 % ts.length):Nat):Int) ((((p.getD k (A2.mk 0 0)).a1 % ts.length):Nat):Int) (qV (jZ (qV (uL (ts.getD ((p.getD k (A2.mk 0 0)).a1 % ts.length) (jB.mk 0 0 0 0)))) (ts.getD ((p.getD k (A2.mk 0 0)).a0 % ts.length) (jB.mk 0 0 0 0)))))] rfl mI ze36 by36<|zM<|zF) ?_
    refine kx [(67,(jT (k+1)))] [] (zE (qS (k+1))<|zM<|zZ) ?_
    exact ⟨(k+1,out++[(jC.mk ((((p.getD k (A2.mk 0 0)).a0 % ts.length):Nat):Int) ((((p.getD k (A2.mk 0 0)).a1 % ts.length):Nat):Int) (qV (jZ (qV (uL (ts.getD ((p.getD k (A2.mk 0 0)).a1 % ts.length) (jB.mk 0 0 0 0)))) (ts.getD ((p.getD k (A2.mk 0 0)).a0 % ts.length) (jB.mk 0 0 0 0)))))]),wk,⟨by omega,by rw[p2_s (A2.mk 0 0) (by omega),md_y (show (p2 (p.getD k (A2.mk 0 0))).1 % ts.length≠(p2 (p.getD k (A2.mk 0 0))).2 % ts.length by show ((p.getD k (A2.mk 0 0)).a0 % ts.length)≠((p.getD k (A2.mk 0 0)).a1 % ts.length);omega),ho];rfl⟩,(by first|omega|(dsimp only;omega))⟩
  ·replace h11:=uY h11
   refine jW<|jA<|kx [(4,(.own 2 36 6 out.length)),(5,(vb true))] [] (zM<|zM<|zM<|zZ) ?_
   refine kX (wk (l:=[(4,(.own 2 36 6 out.length)),(5,(vb true))]) (b:=[(2,some (vX jP out))])) ?_
   refine kX (sim_ren (S':=[(4,(.own 0 36 6 out.length)),(5,(vb true))]) (B':=[(0,some (vX jP out))]) 0 2) ?_
   have hR:mdR ts p=out:=by unfold mdR;rw[if_neg (by rw[hany];decide),ho,show k=p.length by omega,List.take_length]
   rw[hR,show mdB ts=true by unfold mdB;rw[hany];rfl]
   refine jI ⟨cW (by kernel_rfl),aD (by kernel_rfl),.inr (.inr ⟨4,5,0,36,6,out.length,(.val (.bool (true))),rfl,rfl,rfl,?_⟩)⟩
   rfl
end Go.Proofs.YteimogfidbkpnabGreat
namespace Go.Fid
section
variable {n:Nat} {es:List jC} {x:jC}
end
section
variable {ts:List jB} {l:List (Nat × Nat)}
end
def prL(l:List jB):jB:=l.foldl (fun q s=>jZ s q) q1
theorem prL_app(l:List jB)(s:jB):prL (l++[s])=jZ s (prL l):=by unfold prL;rw[List.foldl_append];rfl
theorem foldl_pr:∀ (l:List jB) (q r:jB),l.foldl (fun q s=>jZ s q) (jZ q r)=jZ (l.foldl (fun q s=>jZ s q) q) r
 |[],_,_=>rfl
 |s::l,q,r=>by
  show l.foldl _ (jZ s (jZ q r))=_
  rw[← vH];exact foldl_pr l (jZ s q) r
theorem prL_cons(s:jB)(l:List jB):prL (s::l)=jZ (prL l) s:=by
 show l.foldl _ (jZ s q1)=_
 rw[qmul_1,← q1_mul s,foldl_pr,q1_mul];rfl
theorem aro_pr{es:List jC}{ws:List Int}(ht:Tok es)(hw:wIn es ws)(h:mK es ws=0):Qcn (mZ es ws)∧xE (mZ es ws) (prL (ws.map (stQ es))):=by
 have hok:arOk es ws:=by
  unfold mK at h;split at h
  ·assumption
  ·cases h
 have hv:mZ es ws=arV es ws ws.length:=if_pos hok
 rw[hv]
 have key:∀ k,k≤ws.length→Qcn (arV es ws k)∧xE (arV es ws k) (prL ((ws.take k).map (stQ es))):=by
  intro k
  induction k with
  |zero=>intro _;exact ⟨q1_cn,by simp [prL];exact xE.refl _⟩
  |succ k ih=>
   intro hk
   obtain ⟨i1,i2⟩:=ih (by omega)
   have hs:=stQ_ok ht (wIn_at hw (i:=k) (by omega))
   have hnz:=vR hs.1 i1.1.1
   have hc:qC (jZ (stQ es (ws.getD k 0)) (arV es ws k))=0:=hok k (by omega)
   refine ⟨qV_cn hnz hc,?_⟩
   refine (qV_eq hnz hc).trans ?_
   rw[List.take_succ_eq_append_getElem (by omega),List.map_append,List.map_cons,List.map_nil,prL_app]
   have e:ws.getD k 0=ws[k]:=by rw[List.getD_eq_getElem?_getD,List.getElem?_eq_getElem (by omega)];rfl
   rw[e]
   exact (xE.refl _).mul i2
 have:=key ws.length (Nat.le_refl _)
 rwa [List.take_length] at this
theorem q_can_l{a p q:jB}(ha:nF a)(h:xE (jZ a p) (jZ a q)):xE p q:=by
 have e:=(xE.refl (uL a)).mul h
 rw[← vH,← vH,qcj_mul,hZ,hZ,q1_mul,q1_mul] at e
 have hn:=yN.1 ha
 exact (xE.sc hn p).symm.trans (e.trans (xE.sc hn q))
theorem q_can_r{a p q:jB}(ha:nF a)(h:xE (jZ p a) (jZ q a)):xE p q:=by
 have e:=h.mul (xE.refl (uL a))
 rw[vH,vH,qmul_cj,gJ,gJ,qmul_1,qmul_1] at e
 have hn:=yN.1 ha
 exact (xE.sc hn p).symm.trans (e.trans (xE.sc hn q))
theorem q_mid{p q r:jB}(hq:nF q):xE (jZ (jZ (uL p) q) (jZ (uL q) r)) (jZ (uL p) r):=by
 have e:jZ (jZ (uL p) q) (jZ (uL q) r)=qsc (qn q) (jZ (uL p) r):=by
  rw[vH,← vH q,qmul_cj,hZ,q1_mul,gJ]
 rw[e];exact xE.sc (yN.1 hq) _
theorem q_self{q:jB}(hq:nF q):xE (jZ (uL q) q) q1:=by
 rw[qcj_mul];exact xE.sc (yN.1 hq) _
section
variable {A B C s0 s1 s2:jB} (hA:nF A) (hB:nF B) (hC:nF C)
include hA hB hC
theorem tri_ok(h0:xE s0 (jZ (uL B) A))(h1:xE s1 (jZ (uL C) B))(h2:xE s2 (jZ (uL A) C)):xE (jZ (jZ s2 s1) s0) q1 :=
 (((h2.mul h1).trans (q_mid hC)).mul h0).trans ((q_mid hB).trans (q_self hA))
theorem tri_0(h1:xE s1 (jZ (uL C) B))(h2:xE s2 (jZ (uL A) C))(h:xE (jZ (jZ s2 s1) s0) q1):xE s0 (jZ (uL B) A):=by
 have e:=tri_ok hA hB hC (xE.refl _) h1 h2
 have hz:nF (jZ s2 s1):=vR (h2.symm.nz (vR (zD hA) hC)) (h1.symm.nz (vR (zD hC) hB))
 exact q_can_l hz (h.trans e.symm)
theorem tri_2(h0:xE s0 (jZ (uL B) A))(h1:xE s1 (jZ (uL C) B))(h:xE (jZ (jZ s2 s1) s0) q1):xE s2 (jZ (uL A) C):=by
 have e:=tri_ok hA hB hC h0 h1 (xE.refl _)
 have z1:=h1.symm.nz (vR (zD hC) hB)
 have z0:=h0.symm.nz (vR (zD hB) hA)
 exact q_can_r z1 (q_can_r z0 (h.trans e.symm))
theorem tri_1(h0:xE s0 (jZ (uL B) A))(h2:xE s2 (jZ (uL A) C))(h:xE (jZ (jZ s2 s1) s0) q1):xE s1 (jZ (uL C) B):=by
 have e:=tri_ok hA hB hC h0 (xE.refl _) h2
 have z2:=h2.symm.nz (vR (zD hA) hC)
 have z0:=h0.symm.nz (vR (zD hB) hA)
 exact q_can_l z2 (q_can_r z0 (h.trans e.symm))
end
def stA(W:Nat→jB)(es:List jC)(k:Int):Prop:=xE (stQ es k) (jZ (uL (W (stT es k).toNat)) (W (stF es k).toNat))
theorem stA_iff{n:Nat}{es:List jC}{W:Nat→jB}(hW:∀ j,j<n→nF (W j))(he:xI n es){k:Int}(hk:inE es k):stA W es k↔agE W (es.getD (sIx k) e0):=by
 have hx:EOkE n (es.getD (sIx k) e0):=gR he (sIx_lt hk)
 obtain ⟨m1,m2⟩:=eok_lt hx
 have hd:=qdiv (p:=W (es.getD (sIx k) e0).fr.toNat) (hW _ m2) hx.q.1
 unfold agE
 rw[hd]
 unfold stA stQ stT stF stE
 by_cases h0:0≤k
 ·rw[if_pos h0,if_pos h0,if_pos h0]
  exact ⟨xE.symm,xE.symm⟩
 ·rw[if_neg h0,if_neg h0,if_neg h0]
  have hq:=qV_eq (zD hx.q.1) (qC_cj hx.q)
  constructor
  ·intro h
   have:=(hq.symm.trans h).cj
   rw[qcj_cj,qcj_qmul,qcj_cj] at this
   exact this.symm
  ·intro h
   have:=h.cj
   rw[qcj_qmul,qcj_cj] at this
   exact hq.trans this.symm
theorem chQ_nn{p q:jB}(hp:nF p)(hq:nF q):0≤chQ p q:=by
 have h1:nE p q*nE p q≤qn p*qn q:=by
  have e:=qlagr p q
  have:=gM (p.a*q.b-p.b*q.a)
  have:=gM (p.a*q.c-p.c*q.a)
  have:=gM (p.a*q.d-p.d*q.a)
  have:=gM (p.b*q.c-p.c*q.b)
  have:=gM (p.b*q.d-p.d*q.b)
  have:=gM (p.c*q.d-p.d*q.c)
  omega
 have hpp:0<qn p:=by have:=qn_nn p;have:=yN.1 hp;omega
 have hqq:0<qn q:=by have:=qn_nn q;have:=yN.1 hq;omega
 have h2:(0:Rat)<((qn p:Int):Rat)*((qn q:Int):Rat):=Rat.mul_pos (by exact_mod_cast hpp) (by exact_mod_cast hqq)
 unfold chQ
 have h3:((nE p q:Int):Rat)*((nE p q:Int):Rat)≤((qn p:Int):Rat)*((qn q:Int):Rat):=by
  rw[← Rat.intCast_mul,← Rat.intCast_mul];exact_mod_cast h1
 have h4:((nE p q:Int):Rat)*((nE p q:Int):Rat) / (((qn p:Int):Rat)*((qn q:Int):Rat))≤1:=by
  rw[← Rat.not_lt,Rat.lt_div_iff h2,Rat.not_lt,Rat.one_mul];exact h3
 have:=(Rat.le_iff_sub_nonneg (((nE p q:Int):Rat)*((nE p q:Int):Rat) / (((qn p:Int):Rat)*((qn q:Int):Rat))) 1).1 h4
 exact this
theorem gn_tri{n:Nat}{es:List jC}{W:Nat→jB}{bad:Nat}(hW:∀ j,j<n→nF (W j))(he:xI n es)(hag:∀ i,i<es.length→i≠bad→agE W (es.getD i e0))(hbad:¬ agE W (es.getD bad e0)){t:T3}(ht:triIn es t)(hc:mK es (wt es t)=0) :
  gnT ((0:Int):Rat) es t=if t.1=bad∨t.2.1=bad∨t.2.2=bad then -1 else 1:=by
 have hin:=wt_in ht
 have hcl:=wt_cl he ht
 obtain ⟨hcn,hpr⟩:=aro_pr he.tok hin hc
 obtain ⟨l1,l2,l3,_⟩:=ht
 have hz:nF (mZ es (wt es t)):=hcn.1.1
 obtain ⟨j,k,hjk,e1,e2⟩:=wk_cases (es:=es) (t:=t)
 have hws:wt es t=[((t.1:Nat):Int),(cG es t.1 t.2.1 t.2.2).1,(cG es t.1 t.2.1 t.2.2).2]:=rfl
 generalize (cG es t.1 t.2.1 t.2.2).1=k1 at *
 generalize (cG es t.1 t.2.1 t.2.2).2=k2 at *
 have c0:=hcl 0 (by rw[hws];simp)
 have c1:=hcl 1 (by rw[hws];simp)
 have c2:=hcl 2 (by rw[hws];simp)
 have i0:inE es ((t.1:Nat):Int):=hin _ (by rw[hws];simp)
 have i1:inE es k1:=hin _ (by rw[hws];simp)
 have i2:inE es k2:=hin _ (by rw[hws];simp)
 rw[hws] at c0 c1 c2 hpr
 have c0:stF es k1=stT es ((t.1:Nat):Int):=c0
 have c1:stF es k2=stT es k1:=c1
 have c2:stF es ((t.1:Nat):Int)=stT es k2:=by simpa using c2
 have x0:sIx ((t.1:Nat):Int)=t.1:=by unfold sIx;rw[if_pos (by omega)];omega
 have x1:sIx k1=j:=by unfold sIx;rcases e1 with e | e<;>rw[e]<;>split<;>omega
 have x2:sIx k2=k:=by unfold sIx;rcases e2 with e | e<;>rw[e]<;>split<;>omega
 have b0:=eok_lt (gR he (k:=sIx ((t.1:Nat):Int)) (sIx_lt i0))
 have nzF:∀ q:Int,inE es q→nF (W (stF es q).toNat):=fun q hq=>by
  have:=eok_lt (gR he (k:=sIx q) (sIx_lt hq))
  unfold stF stE;split
  ·exact hW _ this.1
  ·exact hW _ this.2
 have hA:=nzF _ i0
 have hB:=nzF _ i1
 have hC:=nzF _ i2
 have a0:=stA_iff hW he i0
 have a1:=stA_iff hW he i1
 have a2:=stA_iff hW he i2
 unfold stA at a0 a1 a2
 rw[← c0,x0] at a0
 rw[← c1,x1] at a1
 rw[← c2,x2] at a2
 have hP:xE (mZ es (wt es t)) (jZ (jZ (stQ es k2) (stQ es k1)) (stQ es ((t.1:Nat):Int))):=by
  rw[hws]
  have e:prL (List.map (stQ es) [((t.1:Nat):Int),k1,k2])=jZ (jZ (stQ es k2) (stQ es k1)) (stQ es ((t.1:Nat):Int)):=by
   simp only[List.map_cons,List.map_nil,prL_cons]
   show jZ (jZ (jZ q1 _) _) _=_
   rw[q1_mul]
  rw[← e];exact hpr
 have hch:=chQ_0 q1_ok.1 hz
 have hnn:=chQ_nn q1_ok.1 hz
 unfold gnT gnS
 have hg:∀ {c:Rat},c=chQ q1 (mZ es (wt es t))→(0<cmpQ c ((0:Int):Rat)↔¬ xE (mZ es (wt es t)) q1):=fun {c} hcq=>by
  rw[cmpQ_gt,hcq]
  constructor
  ·intro h h2
   have:=hch.2 h2.symm
   rw[this] at h
   exact absurd h (by decide)
  ·intro h
   by_cases h2:0<chQ q1 (mZ es (wt es t))
   ·exact h2
   ·exact absurd (hch.1 (Rat.le_antisymm (Rat.not_lt.1 h2) hnn)).symm h
 have hg:=hg rfl
 have hjl:j<es.length:=by omega
 have hkl:k<es.length:=by omega
 by_cases hb:t.1=bad∨t.2.1=bad∨t.2.2=bad
 ·rw[if_pos hb,if_pos (hg.2 fun hq=>?_)]
  have hq:=hP.symm.trans hq
  by_cases hb0:t.1=bad
  ·refine hbad (hb0▸a0.1 (tri_0 hA hB hC (a1.2 (hag _ hjl (by omega))) (a2.2 (hag _ hkl (by omega))) hq))
  ·have g0:=a0.2 (hag _ (by omega) hb0)
   by_cases hb1:j=bad
   ·refine hbad (hb1▸a1.1 (tri_1 hA hB hC g0 (a2.2 (hag _ hkl (by omega))) hq))
   ·have hb2:k=bad:=by omega
    exact hbad (hb2▸a2.1 (tri_2 hA hB hC g0 (a1.2 (hag _ hjl hb1)) hq))
 ·rw[if_neg hb,if_neg (fun h=>hg.1 h (hP.trans (tri_ok hA hB hC (a0.2 (hag _ (by omega) (by omega))) (a1.2 (hag _ hjl (by omega))) (a2.2 (hag _ hkl (by omega))))))]
theorem tris_ext{es fs:List jC}(hl:es.length=fs.length)(h:∀ i,(es.getD i e0).fr=(fs.getD i e0).fr∧(es.getD i e0).to_=(fs.getD i e0).to_):jU es=jU fs:=by
 have ht:∀ i j k,trB es i j k=trB fs i j k:=fun i j k=>by unfold trB;rw[(h i).1,(h i).2,(h j).1,(h j).2,(h k).1,(h k).2]
 unfold jU tAll aA tIn
 simp only[hl,ht]
def cM(n:Nat):List (Nat × Nat):=(List.range n).flatMap fun b=>(List.range b).map fun a=>(a,b)
def plE(n:Nat):List jC:=(cM n).map fun x=>⟨((x.1:Nat):Int),((x.2:Nat):Int),q1⟩
theorem plN_lt{n:Nat}{x:Nat × Nat}(h:x∈cM n):x.1<x.2∧x.2<n:=by
 unfold cM at h
 simp only[List.mem_flatMap,List.mem_range,List.mem_map] at h
 obtain ⟨b,hb,a,ha,rfl⟩:=h
 exact ⟨ha,hb⟩
theorem mdL_pl{ts:List jB}:dT ts (cM ts.length)=(cM ts.length).map (mdE ts):=by
 unfold dT
 rw[List.filter_eq_self.2]
 intro x hx
 obtain ⟨h1,h2⟩:=plN_lt hx
 rw[decide_eq_true_eq,Nat.mod_eq_of_lt (by omega),Nat.mod_eq_of_lt h2];omega
def wrE(es:List jC)(bad:Nat)(q:jB):List jC:=es.set bad ⟨(es.getD bad e0).fr,(es.getD bad e0).to_,q⟩
theorem wrE_len(es:List jC)(bad:Nat)(q:jB):(wrE es bad q).length=es.length:=by simp [wrE]
theorem wrE_at{es:List jC}{bad:Nat}{q:jB}(hb:bad<es.length)(i:Nat):(wrE es bad q).getD i e0=if i=bad then ⟨(es.getD bad e0).fr,(es.getD bad e0).to_,q⟩ else es.getD i e0:=by
 unfold wrE
 rw[List.getD_eq_getElem?_getD,List.getElem?_set]
 by_cases h:bad=i
 ·subst h;rw[if_pos rfl,if_pos hb,if_pos rfl];rfl
 ·rw[if_neg h,if_neg (fun e=>h e.symm),← List.getD_eq_getElem?_getD]
def vtB(m:Nat)(l:List T3)(bad:Nat):List Int:=l.foldl (fun v t=>vT v t (if t.1=bad∨t.2.1=bad∨t.2.2=bad then -1 else 1)) (List.replicate m 0)
theorem vts_vtB{es:List jC}{bad:Nat}(h:∀ t∈jU es,gnT ((0:Int):Rat) es t=if t.1=bad∨t.2.1=bad∨t.2.2=bad then -1 else 1):vts ((0:Int):Rat) es (jU es)=vtB es.length (jU es) bad:=by
 unfold vts vtB
 have:∀ (l:List T3) (v:List Int),(∀ t∈l,gnT ((0:Int):Rat) es t=if t.1=bad∨t.2.1=bad∨t.2.2=bad then -1 else 1)→l.foldl (fun v t=>vT v t (gnT ((0:Int):Rat) es t)) v=l.foldl (fun v t=>vT v t (if t.1=bad∨t.2.1=bad∨t.2.2=bad then -1 else 1)) v:=by
  intro l
  induction l with
  |nil=>intro v _;rfl
  |cons t l ih=>intro v hl;rw[List.foldl_cons,List.foldl_cons,hl t (by simp)];exact ih _ fun u hu=>hl u (by simp [hu])
 exact this _ _ h
theorem pl_5:∀ bad,bad<10→selL (vtB 10 (jU (plE 5)) bad)=((List.range 10).filter fun i=>decide (i≠bad)).map fun i=>((i:Nat):Int):=by decide +kernel
theorem pl_6:∀ bad,bad<15→selL (vtB 15 (jU (plE 6)) bad)=((List.range 15).filter fun i=>decide (i≠bad)).map fun i=>((i:Nat):Int):=by decide +kernel
theorem pl_len(n:Nat)(h:n=5∨n=6):(cM n).length=if n=5 then 10 else 15:=by rcases h with rfl | rfl<;>decide
section
variable {ts:List jB} {bad:Nat} {q:jB} (hn:ts.length=5∨ts.length=6) (hs:allSm ts) (hb:bad<(dT ts (cM ts.length)).length) (hq:dU q) (hne:sameQ ((dT ts (cM ts.length)).getD bad e0).turn q=false)
include hn hs hb hq hne
theorem wr_sel(hc:seC (wrE (dT ts (cM ts.length)) bad q)=0):selL (vts ((0:Int):Rat) (wrE (dT ts (cM ts.length)) bad q) (jU (wrE (dT ts (cM ts.length)) bad q)))=((List.range (dT ts (cM ts.length)).length).filter fun i=>decide (i≠bad)).map fun i=>((i:Nat):Int):=by
 have h1:1≤ts.length:=by omega
 have he0:=md_ok (l:=cM ts.length) hs h1
 have hsol:=md_sol (l:=cM ts.length) hs h1
 have qP:(dT ts (cM ts.length)).length=(cM ts.length).length:=by rw[mdL_pl,List.length_map]
 have hl:(wrE (dT ts (cM ts.length)) bad q).length=(cM ts.length).length:=by rw[wrE_len,qP]
 have hx:=gR he0 hb
 have he:xI ts.length (wrE (dT ts (cM ts.length)) bad q):=fun y hy=>by
  obtain ⟨i,hi,rfl⟩:=List.getElem_of_mem hy
  have e:=wrE_at (q:=q) hb i
  rw[List.getD_eq_getElem?_getD,List.getElem?_eq_getElem hi,Option.getD_some] at e
  rw[e]
  split
  ·exact ⟨hx.f0,hx.f1,hx.t0,hx.t1,hx.ne,hq⟩
  ·exact gR he0 (by rw[wrE_len] at hi;exact hi)
 have hag:∀ i,i<(wrE (dT ts (cM ts.length)) bad q).length→i≠bad→agE (uR ts) ((wrE (dT ts (cM ts.length)) bad q).getD i e0):=fun i hi hne=>by
  rw[wrE_at hb,if_neg hne]
  exact hsol.2 _ (mem_getD (by rw[wrE_len] at hi;exact hi))
 have hbad:¬ agE (uR ts) ((wrE (dT ts (cM ts.length)) bad q).getD bad e0):=fun h=>by
  rw[wrE_at hb,if_pos rfl] at h
  have h2:=hsol.2 _ (mem_getD hb)
  obtain ⟨m1,m2⟩:=eok_lt hx
  have d1:=(qdiv (hsol.1 _ m2) hx.q.1).1 h2
  have d2:=(qdiv (hsol.1 _ m2) hq.1).1 h
  have:=(sameQ_iff hx.q hq).2 (d1.symm.trans d2)
  rw[hne] at this;cases this
 have hse:∀ t∈jU (wrE (dT ts (cM ts.length)) bad q),mK (wrE (dT ts (cM ts.length)) bad q) (wt (wrE (dT ts (cM ts.length)) bad q) t)=0:=by
  unfold seC at hc
  split at hc
  ·rename_i h;exact h
  ·cases hc
 rw[vts_vtB (bad:=bad) fun t ht=>gn_tri hsol.1 he hag hbad (tris_mem.1 ht) (hse t ht)]
 have hT:jU (wrE (dT ts (cM ts.length)) bad q)=jU (plE ts.length):=by
  refine tris_ext (by rw[hl];unfold plE;rw[List.length_map]) fun i=>?_
  have e1:∀ i,((dT ts (cM ts.length)).getD i e0).fr=((plE ts.length).getD i e0).fr∧((dT ts (cM ts.length)).getD i e0).to_=((plE ts.length).getD i e0).to_:=fun i=>by
   rw[mdL_pl]
   unfold plE
   rcases Nat.lt_or_ge i (cM ts.length).length with hi | hi
   ·have hm:=plN_lt (List.getElem_mem hi)
    simp only[List.getD_eq_getElem?_getD,List.getElem?_map,List.getElem?_eq_getElem hi,Option.map_some,Option.getD_some,mdE]
    rw[Nat.mod_eq_of_lt (by omega),Nat.mod_eq_of_lt hm.2]
    exact ⟨rfl,rfl⟩
   ·simp only[List.getD_eq_getElem?_getD,List.getElem?_map,List.getElem?_eq_none hi,Option.map_none,Option.getD_none]
    exact ⟨trivial,trivial⟩
  rw[wrE_at hb]
  split
  ·rename_i h;subst h;exact e1 i
  ·exact e1 i
 rw[hT,hl,qP]
 rw[qP,pl_len _ hn] at hb
 rw[pl_len _ hn]
 rcases hn with h | h<;>rw[h] at hb ⊢
 ·exact pl_5 bad hb
 ·exact pl_6 bad hb
theorem wr_lop:uP ((ts.length:Nat):Int) (wrE (dT ts (cM ts.length)) bad q)=0:=by
 have h1:1≤ts.length:=by omega
 have he0:=md_ok (l:=cM ts.length) hs h1
 have qP:(dT ts (cM ts.length)).length=(cM ts.length).length:=by rw[mdL_pl,List.length_map]
 have hx:=gR he0 hb
 refine lop_of (by omega) (by omega) (by rw[wrE_len,qP,pl_len _ hn];split<;>omega) ?_
 rw[Int.toNat_natCast]
 intro y hy
 obtain ⟨i,hi,rfl⟩:=List.getElem_of_mem hy
 have e:=wrE_at (q:=q) hb i
 rw[List.getD_eq_getElem?_getD,List.getElem?_eq_getElem hi,Option.getD_some] at e
 rw[e]
 split
 ·exact ⟨hx.f0,hx.f1,hx.t0,hx.t1,hx.ne,hq⟩
 ·exact gR he0 (by rw[wrE_len] at hi;exact hi)
end
section
variable {P:Program} {S:SL} {B:BS} {o:Oper} {x y:Operand} {k:Nat} {T:TypeId}
theorem bxs_sub{α:Type}{F:α→kF}{s:Nat}(hF:∀ g,(F g).cells.length=s){L:List α}{j i:Nat}(d v:α){c:List kF}(hj:j<L.length)(hi:i+c.length≤s)
  (hc:(F v).cells=(F (L.getD j d)).cells.take i++c++(F (L.getD j d)).cells.drop (i+c.length)):patch (vX F L) (j*s+i) (c.map SV.d)=vX F (L.set j v):=by
 rw[← bxs_set hF v hj]
 have hb1:(vX F L).length=L.length*s:=by unfold vX;rw[List.length_map,dA hF]
 have hrm:=fC (s:=s) hj
 have hlf:(F (L.getD j d)).cells.length=s:=hF _
 have cell:∀ r,r<s→(vX F L)[j*s+r]?=((F (L.getD j d)).cells[r]?).map SV.d:=fun r hr=>by
  unfold vX;rw[List.getElem?_map,bxs_cell hF d hj hr]
 have cv:∀ r,(F v).cells[r]?=if r<i then (F (L.getD j d)).cells[r]? else if r<i+c.length then c[r-i]? else (F (L.getD j d)).cells[r]?:=fun r=>by
  rw[hc,List.append_assoc]
  have hti:((F (L.getD j d)).cells.take i).length=i:=by rw[List.length_take,hlf];omega
  by_cases h1:r<i
  ·rw[if_pos h1,List.getElem?_append_left (by rw[hti];exact h1),List.getElem?_take,if_pos h1]
  ·rw[if_neg h1,List.getElem?_append_right (by rw[hti];omega),hti]
   by_cases h2:r<i+c.length
   ·rw[if_pos h2,List.getElem?_append_left (by omega)]
   ·rw[if_neg h2,List.getElem?_append_right (by omega),List.getElem?_drop]
    congr 1;omega
 apply List.ext_getElem?
 intro q
 rw[zU (by rw[List.length_map,hb1];omega),zU (by rw[List.length_map,hF,hb1];exact hrm),List.length_map,List.length_map,hF]
 by_cases h1:q<j*s
 ·rw[if_pos (by omega),if_pos h1]
 ·have h0:¬ q<j*s:=h1
  obtain ⟨r,rfl⟩:∃ r,q=j*s+r:=⟨q-j*s,by omega⟩
  rw[if_neg h0]
  by_cases hs:r<s
  ·have em:((F v).cells.map SV.d)[r]?=((F v).cells[r]?).map SV.d:=List.getElem?_map
   have ec:∀ q,(c.map SV.d)[q]?=(c[q]?).map SV.d:=fun q=>List.getElem?_map
   rw[if_pos (show j*s+r<j*s+s by omega),show j*s+r-j*s=r by omega,em,cv,cell r hs]
   by_cases h2:r<i
   ·rw[if_pos (show j*s+r<j*s+i by omega),if_pos h2]
   ·rw[if_neg (show ¬ j*s+r<j*s+i by omega),if_neg h2,ec]
    by_cases h3:r<i+c.length
    ·rw[if_pos (show j*s+r<j*s+i+c.length by omega),if_pos h3,show j*s+r-(j*s+i)=r-i by omega]
    ·rw[if_neg (show ¬ j*s+r<j*s+i+c.length by omega),if_neg h3]
  ·rw[if_neg (show ¬ j*s+r<j*s+i by omega),if_neg (show ¬ j*s+r<j*s+i+c.length by omega),if_neg (show ¬ j*s+r<j*s+s by omega)]
theorem oSf{α:Type}{F:α→kF}{L:List α}{s i n:Nat}{agg:Bool}(hs:kS P T=some (agg,n))(j:Nat)(d v:α)(c:kF)(ho:o.op=.store T x y:=by exact rfl)(hx:ev (jY S) x=.ref k (j*s+i):=by exact rfl)(hb:kD B k=some (vX F L):=by exact rfl)(hy:ev (jY S) y=.d c:=by kernel_rfl)(h2:c.ok1=true:=by kernel_rfl)(h3:c.cells.length=n:=by exact rfl)
  (hF:∀ g,(F g).cells.length=s:=by intro g;kernel_rfl) (hi:Nat.ble (i+n) s=true:=by kernel_rfl) (hc:(F v).cells=(F (L.getD j d)).cells.take i++c.cells++(F (L.getD j d)).cells.drop (i+c.cells.length):=by kernel_rfl) (h1:j<L.length:=by omega):TK P o S B k (vX F (L.set j v)):=by
 have hi2:i+c.cells.length≤s:=by rw[h3];exact Nat.le_of_ble_eq_true hi
 have hrm:=fC (s:=s) h1
 have h:=t_store (P:=P) (old:=vX F L) ho hx hy hs (.inl ⟨c,rfl,h2,rfl⟩) (by rw[List.length_map];exact h3) (by unfold vX;rw[List.length_map,dA hF];omega)
 rw[bxs_sub hF d v h1 hi2 hc] at h
 exact ⟨_,h,hb⟩
theorem oLf{α:Type}{F:α→kF}{L:List α}{s i n:Nat}(hs:kS P T=some (true,n))(j:Nat)(d:α)(c:kF)(ho:o.op=.load T x:=by exact rfl)(hx:ev (jY S) x=.ref k (j*s+i):=by exact rfl)(hb:kD B k=some (vX F L):=by exact rfl)(hF:∀ g,(F g).cells.length=s:=by intro g;kernel_rfl)(hi:Nat.ble (i+n) s=true:=by kernel_rfl)
  (hG:xN true ((((F (L.getD j d)).cells.drop i).take n).map SV.d)=.d c:=by kernel_rfl) (h1:j<L.length:=by omega):ROk P o S B k (.d c):=by
 have hi2:i+n≤s:=Nat.le_of_ble_eq_true hi
 have hrm:=fC (s:=s) h1
 have hb1:(vX F L).length=L.length*s:=by unfold vX;rw[List.length_map,dA hF]
 have h:=fS (P:=P) (cs:=vX F L) ho hx hs (fun h=>by cases h) (by rw[hb1];omega)
 have e:((vX F L).drop (j*s+i)).take n=(((F (L.getD j d)).cells.drop i).take n).map SV.d:=by
  apply List.ext_getElem?
  intro r
  rw[List.getElem?_take,List.getElem?_map,List.getElem?_take]
  split
  ·rw[List.getElem?_drop,List.getElem?_drop,Nat.add_assoc]
   unfold vX
   rw[List.getElem?_map,bxs_cell hF d h1 (by omega)]
  ·rfl
 rw[e,hG] at h
 exact ⟨_,h,hb⟩
end
end Go.Fid
namespace Go.Proofs.YteimogfidbkpnabGreat
open Go.Fid
theorem cb10:callB Tryz.prog 10=true:=by kernel_rfl
theorem cb33:callB Tryz.prog 33=true:=by kernel_rfl
def plA(n:Nat):List (A2 (Nat)):=(cM n).map fun x=>A2.mk x.1 x.2
def plR(b a:Nat):List (A2 (Nat)):=plA b++(List.range a).map fun a=>A2.mk a b
theorem plR_0(b:Nat):plR b 0=plA b:=by unfold plR;simp
theorem plR_s(b a:Nat):plR b (a+1)=plR b a++[A2.mk a b]:=by unfold plR;rw[List.range_succ,List.map_append,List.append_assoc];rfl
theorem plR_n(b:Nat):plR b b=plA (b+1):=by
 unfold plR plA cM
 rw[List.range_succ,List.flatMap_append,List.map_append]
 simp [List.map_map,Function.comp_def]
theorem plA_p2(n:Nat):List.map p2 (plA n)=cM n:=by
 unfold plA p2
 rw[List.map_map]
 exact List.map_id _
theorem plN_len:∀ n,n≤6→(cM n).length≤15:=by decide
theorem plA_len{n:Nat}(h:n≤6):(plA n).length≤15:=by unfold plA;rw[List.length_map];exact plN_len n h
theorem plR_len{b a:Nat}(h:b≤6)(h2:a≤6):(plR b a).length≤21:=by unfold plR;rw[List.length_append,List.length_map,List.length_range];have:=plA_len h;omega
theorem plA_u{n:Nat}(h:n≤6):∀ x∈plA n,x.a0≤255∧x.a1≤255:=by
 unfold plA
 intro x hx
 obtain ⟨y,hy,rfl⟩:=List.mem_map.1 hx
 have:=plN_lt hy
 exact ⟨by show y.1≤255;omega,by show y.2≤255;omega⟩
theorem mdR_pl{ts:List jB}(h:ts.any qBad=false):mdR ts (plA ts.length)=dT ts (cM ts.length):=by unfold mdR;rw[if_neg (by rw[h];decide),plA_p2]
theorem pl_n{n:Nat}(h:n=5∨n=6):10≤(cM n).length∧(cM n).length≤15:=by rcases h with rfl | rfl<;>decide
theorem selP_no(m bad:Nat):∀ x∈((List.range m).filter fun i=>decide (i≠bad)).map fun i=>((i:Nat):Int),x≠((bad:Nat):Int):=by
 intro x hx
 obtain ⟨i,hi,rfl⟩:=List.mem_map.1 hx
 have:=(List.mem_filter.1 hi).2
 simp only[decide_eq_true_eq] at this
 omega
theorem selP_len(m bad:Nat)(h:bad<m):(((List.range m).filter fun i=>decide (i≠bad)).map fun i=>((i:Nat):Int)).length=m-1:=by
 rw[List.length_map]
 have:∀ m,((List.range m).filter fun i=>decide (i≠bad)).length=if bad<m then m-1 else m:=by
  intro m
  induction m with
  |zero=>simp
  |succ m ih=>
   rw[List.range_succ,List.filter_append,List.length_append,ih]
   by_cases e:m=bad
   ·subst e;simp
   ·have e2:([m].filter fun i=>decide (i≠bad))=[m]:=by simp [e]
    rw[e2,List.length_singleton]
    split<;>split<;>omega
 rw[this,if_pos h]
theorem p_ixC(l:List Int)(v:Int)(hb:l.length≤1000000)(hn:∀ x∈l,x≠v):kB Tryz.prog 33 [(.sl 3 1 (List.map jO l)),(.val (.int .i64 (v)))] (.val (.int .i64 (-1))):=by
 refine jK Tryz.func33 rfl cb33 rfl ?_
 show qU _ _ _ _ ⟨[(0,(vl 3 1 jO l)),(1,(vi v))],[]⟩
 refine jA<|kx [] [] (zM<|zZ) ?_
 refine jA<|jA<|kx [(7,(jT l.length)),(8,(jT 0))] [] (zM<|zE (xD vF)<|zM<|zZ) ?_
 refine jH<|kI (α:=Nat) (fun k=>⟨[(0,(vl 3 1 jO l)),(1,(vi v)),(7,(jT l.length)),(8,(jT k))],[]⟩) (fun k=>k≤l.length) (fun k=>l.length-k) 0 wk (Nat.zero_le _) ?_
 rintro k hk
 refine jA<|kx [(9,(vb (decide (((k:Nat):Int)<((l.length:Nat):Int)))))] [] (zE uM<|zZ) ?_
 refine jA<|jG rfl (fun h1=>?_) (fun h1=>?_)
 ·replace h1:=uW h1
  have hm_:l.getD k 0≠v:=hn _ (mem_gd (l:=l) (k:=k) 0 (by omega))
  refine jE<|jA<|jH<|jA<|kx [(5,(jT k))] [] (zM<|zM<|zZ) ?_
  refine jA<|kx [(16,(vb (v == (l.getD k 0))))] [] (zM<|zM<|zM<|zE (gV vF k (0:Int))<|zE (nG qF)<|zE gX<|zZ) ?_
  refine jG (b:=(v == (l.getD k 0))) rfl (fun h2=>?_) (fun h2=>?_)
  ·replace h2:=eq_of_beq h2
   exact absurd h2.symm hm_
  ·replace h2:=ne_of_beq_false h2
   refine jE<|kx [(8,(jT (k+1)))] [] (zE (qS (k+1))<|zM<|zZ) ?_
   exact ⟨(k+1),wk,(by omega),(by omega)⟩
 ·replace h1:=uY h1
  refine jW<|jA<|kx [(4,(vi (-1)))] [] (zM<|zZ) ?_
  refine jI ⟨_,(.tmp (d:=(.val (.int .i64 (-1)))) rfl .nil),?_⟩
  rfl
theorem p_cnC(l:List Int)(v:Int)(hb:l.length≤1000000)(hn:∀ x∈l,x≠v):kB Tryz.prog 10 [(.sl 3 1 (List.map jO l)),(.val (.int .i64 (v)))] (.val (.bool (false))):=by
 refine jK Tryz.func10 rfl cb10 rfl ?_
 show qU _ _ _ _ ⟨[(0,(vl 3 1 jO l)),(1,(vi v))],[]⟩
 refine jA<|kx [] [] (zM<|zZ) ?_
 refine jA<|kx [(4,(vb false))] [] (zM<|zM<|zE (kE (p_ixC l v hb hn))<|zE (xR false oGe)<|zM<|zZ) ?_
 refine jI ⟨_,(.tmp (d:=(.val (.bool (false)))) rfl .nil),?_⟩
 rfl
theorem slb0:slB ((0:Int):Rat)=false:=by decide +kernel
theorem wr_sl{ts:List jB}{es:List jC}{bad:Nat}{q:jB}(hn:ts.length=5∨ts.length=6)(hs:allSm ts)(hes:dT ts (cM ts.length)=es)(hb:bad<es.length)(hq:dU q)(hne:sameQ (es.getD bad (jC.mk 0 0 (jB.mk 0 0 0 0))).turn q=false) :
  ∃ (c:Nat) (sl:List Int),(c=0∨c=3)∧slC ((ts.length:Nat):Int) (es.set bad (jC.mk (es.getD bad (jC.mk 0 0 (jB.mk 0 0 0 0))).fr (es.getD bad (jC.mk 0 0 (jB.mk 0 0 0 0))).to_ q)) (zB ((0:Int):Rat)) ((0:Int):Rat)=c ∧
   slV ((ts.length:Nat):Int) (es.set bad (jC.mk (es.getD bad (jC.mk 0 0 (jB.mk 0 0 0 0))).fr (es.getD bad (jC.mk 0 0 (jB.mk 0 0 0 0))).to_ q)) (zB ((0:Int):Rat)) ((0:Int):Rat)=okL c sl∧sl.length=es.length-1∧∀ x∈sl,x≠((bad:Nat):Int):=by
 subst hes
 have h0:=wr_lop hn hs hb hq hne
 refine ⟨seC (wrE (dT ts (cM ts.length)) bad q),_,?_,?_,?_,selP_len _ _ hb,selP_no _ _⟩
 ·unfold seC;split<;>simp
 ·show okC (uP ((ts.length:Nat):Int) (wrE (dT ts (cM ts.length)) bad q)) _=_
  rw[okC_0 h0]
  exact (if_pos (gF _)).trans (if_neg (by rw[slb0];decide))
 ·show okL (uP ((ts.length:Nat):Int) (wrE (dT ts (cM ts.length)) bad q)) _=_
  rw[eB h0]
  show sldV (wrE (dT ts (cM ts.length)) bad q) _ _=_
  have h2:seC (wrE (dT ts (cM ts.length)) bad q)=0∨seC (wrE (dT ts (cM ts.length)) bad q)=3:=by unfold seC;split<;>simp
  rcases h2 with h2 | h2
  ·rw[(sld_0 (gF _) slb0 h2).2,wr_sel hn hs hb hq hne h2,eB h2]
  ·rw[(sld_3 (gF _) slb0 h2).2,okL_n (by rw[h2];decide)]
end Go.Proofs.YteimogfidbkpnabGreat
