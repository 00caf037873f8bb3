/- Part 31 of a proof: rules, plain facts, and functions walked. -/
import Derived.Test.YtnajallgoaiahaaGreatDoorM30
import Derived.Test.YtnajallgoaiahaaGreatDoorM28
import Derived.Test.YtnajallgoaiahaaGreatDoorM29
import Derived.Test.YtnajallgoaiahaaGreatDoorM18
import Derived.Test.YtnajallgoaiahaaGreatDoorM17
import Derived.Test.YtnajallgoaiahaaGreatDoorM22
import Derived.Test.YtnajallgoaiahaaGreatDoorM10
set_option linter.all false
set_option maxRecDepth 4000
namespace Go.Proofs.YtnajallgoaiahaaGreatDoor
open Go.Fid
theorem cb17:callB Tryz.prog 17=true:=by kernel_rfl
theorem cb46:callB Tryz.prog 46=true:=by kernel_rfl
theorem cb70:callB Tryz.prog 70=true:=by kernel_rfl
theorem cb104:callB Tryz.prog 104=true:=by kernel_rfl
theorem u_brief(x:jO)(p:Rat)(hx:mN x p 140737488355328):jQ Tryz.prog 104 [(jK x)] (.val (.bool ((brX x)))):=by
 refine jG Tryz.func104 rfl cb104 rfl ?_
 show qK _ _ _ _ ⟨[(0,(.d (jK x)))],[]⟩
 refine jB<|kx [(1,(.ref 0 0))] [(0,some (bx (jK x)))] (zN (vN 0)<|zM<|zZ) ?_
 refine jB<|kd [(3,(vl 140 1 jC x.num.gs)),(4,(vl 140 1 jC x.den.gs))] [] mo (wE (kZ yD)<|wE (kZ vL)<|wR (qS xZ)<|wE (kZ xI)<|wE (kZ vL)<|wR (qS xZ)<|wM<|wM<|wZ) ?_
 refine jB<|jB<|kx [(18,(vb (decide (1<((x.num.gs.length:Nat):Int))||decide (1<((x.den.gs.length:Nat):Int)))))] [] ?_ ?_
 ·refine zM<|zE (vC kH)<|zE mT<|zE (oV (vb (decide (1<((x.num.gs.length:Nat):Int)))) (kV (by kernel_rfl)))<|?_
  rcases hb1:(decide (1<((x.num.gs.length:Nat):Int))) with _ | _
  ·replace hb1:=vM hb1
   exact zM<|zE (vC kH)<|zE mT<|zE cL<|zZ
  ·replace hb1:=vI hb1
   exact zK<|zK<|zK<|zE xS<|zZ
 refine jF rfl (fun h2=>?_) (fun h2=>?_)
 ·refine jB<|kx [(2,(vb false))] [] (zM<|zZ) ?_
  refine jE ⟨_,(.tmp (d:=(.val (.bool (false)))) rfl .nil),?_⟩
  unfold brX;rw[if_pos h2];rfl
 ·refine jD<|jB<|kx [(2,(vb (((((x.num.gs.length:Nat):Int) == 0)||decide ((((x.num.gs.getD 0 0):Nat):Int)<100000))&&((((x.den.gs.length:Nat):Int) == 0)||decide ((((x.den.gs.getD 0 0):Nat):Int)≤100)))))] [] ?_ ?_
  ·refine zM<|zE (vC kH)<|zE yQ<|zE (oV (vb (((x.num.gs.length:Nat):Int) == 0)) (kV (by kernel_rfl)))<|?_
   rcases hb3:(((x.num.gs.length:Nat):Int) == 0) with _ | _
   ·replace hb3:=ne_of_beq_false hb3
    refine zM<|zE (yL kH 0 (0:Nat))<|zE (yR qP)<|zE xT<|zE cL<|zE (oV (vb (false||decide ((((x.num.gs.getD 0 0):Nat):Int)<100000))) (kV (by kernel_rfl)))<|?_
    rcases hb4:(false||decide ((((x.num.gs.getD 0 0):Nat):Int)<100000)) with _ | _
    ·exact zK<|zK<|zK<|zK<|zK<|zK<|zK<|zK<|zK<|zE zG<|zM<|zZ
    ·refine zM<|zE (vC kH)<|zE yQ<|zE (oV (vb (((x.den.gs.length:Nat):Int) == 0)) (kV (by kernel_rfl)))<|?_
     rcases hb5:(((x.den.gs.length:Nat):Int) == 0) with _ | _
     ·replace hb5:=ne_of_beq_false hb5
      exact zM<|zE (yL kH 0 (0:Nat))<|zE (yR qP)<|zE oLe<|zE cL<|zE fM<|zM<|zZ
     ·replace hb5:=eq_of_beq hb5
      exact zK<|zK<|zK<|zK<|zE xS<|zE xS<|zM<|zZ
   ·replace hb3:=eq_of_beq hb3
    refine zK<|zK<|zK<|zK<|zE xS<|zM<|zM<|zE (vC kH)<|zE yQ<|zE (oV (vb (((x.den.gs.length:Nat):Int) == 0)) (kV (by kernel_rfl)))<|?_
    rcases hb6:(((x.den.gs.length:Nat):Int) == 0) with _ | _
    ·replace hb6:=ne_of_beq_false hb6
     exact zM<|zE (yL kH 0 (0:Nat))<|zE (yR qP)<|zE oLe<|zE cL<|zE fM<|zM<|zZ
    ·replace hb6:=eq_of_beq hb6
     exact zK<|zK<|zK<|zK<|zE xS<|zE xS<|zM<|zZ
  refine jE ⟨_,(.tmp (d:=(.val (.bool ((((((x.num.gs.length:Nat):Int) == 0)||decide ((((x.num.gs.getD 0 0):Nat):Int)<100000))&&((((x.den.gs.length:Nat):Int) == 0)||decide ((((x.den.gs.getD 0 0):Nat):Int)≤100))))))) rfl .nil),?_⟩
  unfold brX;rw[if_neg (by rw[h2];decide)];rfl
theorem eW(l:List jO)(hl:uY 140737488355328 l)(c:Nat)(hc:c≤1000)(n:Nat)(hn:n≤1000):jQ Tryz.prog 46 [(.sl 45 4 (List.map jK l)),(.val (.int .i64 (((c:Nat):Int)))),(.val (.int .i64 (((n:Nat):Int))))] (.val (.bool ((fE c n l)))):=by
 have hb:=hl.2
 let y1:=qM
 refine jG Tryz.func46 rfl cb46 rfl ?_
 show qK _ _ _ _ ⟨[(0,(vl 45 4 jK l)),(1,(jV c)),(2,(jV n))],[]⟩
 refine jB<|kx [] [] (zM<|zZ) ?_
 refine jB<|jB<|kx [(11,(vb (decide (((c:Nat):Int)<((l.length:Nat):Int)))))] [] (zM<|zE (vC uI)<|zM<|zE mT<|zZ) ?_
 refine jF rfl (fun h1=>?_) (fun h1=>?_)
 ·replace h1:=vI h1
  refine jB<|kx [(6,(vb false))] [] (zM<|zZ) ?_
  refine jE ⟨_,(.tmp (d:=(.val (.bool (false)))) rfl .nil),?_⟩
  rw[shR_long (by omega)];rfl
 ·replace h1:=vM h1
  have hlk:=h1
  refine jD<|jB<|jB<|kx [(7,(jV 0))] [] (zM<|zZ) ?_
  refine jH<|kL (α:=Nat) (fun i=>⟨[(0,(vl 45 4 jK l)),(2,(jV n)),(7,(jV i))],[]⟩) (fun i=>i≤l.length∧(l.take i).all (shX n)=true) (fun i=>l.length-i) 0 wk ⟨Nat.zero_le _,by simp⟩ ?_
  rintro i ⟨hi,hal⟩
  refine jB<|jB<|kx [(15,(vb (decide (((i:Nat):Int)<((l.length:Nat):Int)))))] [] (zM<|zM<|zE (vC uI)<|zE xT<|zZ) ?_
  refine jF rfl (fun h2=>?_) (fun h2=>?_)
  ·replace h2:=vI h2
   refine jD<|jB<|jH<|jB<|kx [(36,(vb (decide (((n:Nat):Int)<(((digR (l.getD i y1)):Nat):Int))||(decide (((n:Nat):Int)≤6)&&!(brX (l.getD i y1))))))] [] ?_ ?_
   ·refine zM<|zM<|zE (yL uI i y1)<|zE (nA jS)<|zE (jZ (g_digits (l.getD i y1) (qJ (l.getD i y1)) (xO hl.1 (show i<l.length by omega))))<|zM<|zE mT<|zE (oV (vb (decide (((n:Nat):Int)<(((digR (l.getD i y1)):Nat):Int)))) (kV (by kernel_rfl)))<|?_
    rcases hb3:(decide (((n:Nat):Int)<(((digR (l.getD i qM)):Nat):Int))) with _ | _
    ·replace hb3:=vM hb3
     refine zM<|zE oLe<|zE (oV (vb (decide (((n:Nat):Int)≤6))) (kV (by kernel_rfl)))<|?_
     rcases hb4:(decide (((n:Nat):Int)≤6)) with _ | _
     ·replace hb4:=vM hb4
      exact zK<|zK<|zK<|zK<|zK<|zK<|zE zG<|zE zG<|zZ
     ·replace hb4:=vI hb4
      exact zM<|zM<|zE (yL uI i y1)<|zE (nA jS)<|zE (jZ (u_brief (l.getD i y1) (qJ (l.getD i y1)) (xO hl.1 (show i<l.length by omega))))<|zE nF<|zE fM<|zE cL<|zZ
    ·replace hb3:=vI hb3
     exact zK<|zK<|zK<|zK<|zK<|zK<|zK<|zK<|zK<|zK<|zE xS<|zZ
   refine jF rfl (fun h5=>?_) (fun h5=>?_)
   ·refine jB<|kx [(6,(vb false))] [] (zM<|zZ) ?_
    refine jE ⟨_,(.tmp (d:=(.val (.bool (false)))) rfl .nil),?_⟩
    rw[shR_no (all_no (i:=i) (d:=qM) (by omega) (shX_t h5))];rfl
   ·have hfi:shX n (l.getD i qM)=true:=shX_f h5
    refine jD<|kx [(7,(jV (i+1)))] [] (zM<|zE (vY (i+1))<|zM<|zZ) ?_
    exact ⟨(i+1),wk,⟨by omega,all_up (d:=qM) (by omega) hal hfi⟩,(by omega)⟩
  ·replace h2:=vM h2
   have hie:i=l.length:=by omega
   rw[hie,List.take_length] at hal
   refine kJ<|jB<|kx [(6,(vb true))] [] (zM<|zZ) ?_
   refine jE ⟨_,(.tmp (d:=(.val (.bool (true)))) rfl .nil),?_⟩
   rw[shR_yes hlk hal];rfl
theorem u_shortM(m:List (List jO))(hm:xG 140737488355328 m)(c:Nat)(hc:c≤1000)(n:Nat)(hn:n≤1000):jQ Tryz.prog 70 [(.sl 24 1 (List.map jL m)),(.val (.int .i64 (((c:Nat):Int)))),(.val (.int .i64 (((n:Nat):Int))))] (.val (.bool ((shM c n m)))):=by
 have hb:=hm.2
 refine jG Tryz.func70 rfl cb70 rfl ?_
 show qK _ _ _ _ ⟨[(0,(vl 24 1 jL m)),(1,(jV c)),(2,(jV n))],[]⟩
 refine jB<|kx [] [] (zM<|zZ) ?_
 refine jB<|jB<|kx [(11,(vb (decide (((c:Nat):Int)<((m.length:Nat):Int)))))] [] (zM<|zE (vC mC)<|zM<|zE mT<|zZ) ?_
 refine jF rfl (fun h1=>?_) (fun h1=>?_)
 ·replace h1:=vI h1
  refine jB<|kx [(6,(vb false))] [] (zM<|zZ) ?_
  refine jE ⟨_,(.tmp (d:=(.val (.bool (false)))) rfl .nil),?_⟩
  rw[shM_long (by omega)];rfl
 ·replace h1:=vM h1
  have hlk:=h1
  refine jD<|jB<|jB<|kx [(7,(jV 0))] [] (zM<|zZ) ?_
  refine jH<|kL (α:=Nat) (fun i=>⟨[(0,(vl 24 1 jL m)),(1,(jV c)),(2,(jV n)),(7,(jV i))],[]⟩) (fun i=>i≤m.length∧(m.take i).all (fE c n)=true) (fun i=>m.length-i) 0 wk ⟨Nat.zero_le _,by simp⟩ ?_
  rintro i ⟨hi,hal⟩
  refine jB<|jB<|kx [(15,(vb (decide (((i:Nat):Int)<((m.length:Nat):Int)))))] [] (zM<|zM<|zE (vC mC)<|zE xT<|zZ) ?_
  refine jF rfl (fun h2=>?_) (fun h2=>?_)
  ·replace h2:=vI h2
   refine jD<|jB<|jH<|jB<|kx [(25,(vb (!(fE c n (m.getD i [])))))] [] (zM<|zM<|zE (yL mC i ([]:List (jO)))<|zE (yR yG)<|zM<|zM<|zE (jZ (eW (m.getD i []) (xM (d:=[]) hm (show i<m.length by omega)) c (by omega) n (by omega)))<|zE nF<|zZ) ?_
   refine jF (b:=!(fE c n (m.getD i []))) rfl (fun h3=>?_) (fun h3=>?_)
   ·refine jB<|kx [(6,(vb false))] [] (zM<|zZ) ?_
    refine jE ⟨_,(.tmp (d:=(.val (.bool (false)))) rfl .nil),?_⟩
    rw[shM_no (all_no (i:=i) (d:=[]) (by omega) (by simpa using h3))];rfl
   ·have hfi:fE c n (m.getD i [])=true:=by simpa using h3
    refine jD<|kx [(7,(jV (i+1)))] [] (zM<|zE (vY (i+1))<|zM<|zZ) ?_
    exact ⟨(i+1),wk,⟨by omega,all_up (d:=[]) (by omega) hal hfi⟩,(by omega)⟩
  ·replace h2:=vM h2
   have hie:i=m.length:=by omega
   rw[hie,List.take_length] at hal
   refine kJ<|jB<|kx [(6,(vb true))] [] (zM<|zZ) ?_
   refine jE ⟨_,(.tmp (d:=(.val (.bool (true)))) rfl .nil),?_⟩
   rw[shM_yes hlk hal];rfl
theorem u_table(m:List (List jO))(hm:xG 140737488355328 m):jQ Tryz.prog 17 [(.sl 24 1 (List.map jL m))] (.val (.bool ((shM 5 6 m)))):=by
 refine jG Tryz.func17 rfl cb17 rfl ?_
 show qK _ _ _ _ ⟨[(0,(vl 24 1 jL m))],[]⟩
 refine jB<|kx [] [] (zM<|zZ) ?_
 refine jB<|kx [(2,(vb (shM 5 6 m)))] [] (zM<|zE (jZ (u_shortM m hm 5 (by omega) 6 (by omega)))<|zM<|zZ) ?_
 refine jE ⟨_,(.tmp (d:=(.val (.bool ((shM 5 6 m))))) rfl .nil),?_⟩
 rfl
def dgB(x:kN):Bool:=decide (digR x.n≤8)
def szB(m:Nat)(s:Int):Bool:=decide (s≤(m:Int))
def nK(n m:Nat)(t:List kN):Bool:=decide (t.length≤n)&&(t.all dgB&&(decide (mP 8 t≠0)||(tmL 8 t).all (szB m)))
theorem fewT_long{n m:Nat}{t:List kN}(h:((n:Nat):Int)<((t.length:Nat):Int)):nK n m t=false:=by unfold nK;rw[decide_eq_false (by omega)];rfl
theorem fewT_dig{n m:Nat}{t:List kN}(h:t.all dgB=false):nK n m t=false:=by unfold nK;rw[h,Bool.false_and,Bool.and_false]
theorem fewT_code{n m:Nat}{t:List kN}(h0:¬ ((n:Nat):Int)<((t.length:Nat):Int))(h:t.all dgB=true)(hc:((mP 8 t:Nat):Int)≠0):nK n m t=true:=by
 unfold nK;rw[decide_eq_true (by omega),h,decide_eq_true (by omega)];rfl
theorem tmL_len{z:Int}{t:List kN}(h:((mP z t:Nat):Int)=0):(tmL z t).length=t.length:=by
 unfold tmL;rw[if_pos (by omega),uU]
theorem fewT_big{n m:Nat}{t:List kN}(hc:((mP 8 t:Nat):Int)=0)(h:(tmL 8 t).all (szB m)=false):nK n m t=false:=by
 unfold nK;rw[h,Bool.or_false,show decide (mP 8 t≠0)=false from decide_eq_false (by omega),Bool.and_false,Bool.and_false]
theorem fewT_yes{n m:Nat}{t:List kN}(h0:¬ ((n:Nat):Int)<((t.length:Nat):Int))(h:t.all dgB=true)(hs:(tmL 8 t).all (szB m)=true):nK n m t=true:=by
 unfold nK;rw[decide_eq_true (by omega),h,hs,Bool.or_true];rfl
theorem dgB_y{x:kN}(h:¬ ((8:Nat):Int)<((digR x.n:Nat):Int)):dgB x=true:=decide_eq_true (by omega)
theorem dgB_n{x:kN}(h:((8:Nat):Int)<((digR x.n:Nat):Int)):dgB x=false:=decide_eq_false (by omega)
theorem dg_ok{t:List kN}(h:t.all dgB=true):∀ x∈t,mN x.n (qJ x.n) 8:=fun x hx=>by
 have h1:=List.all_eq_true.1 h x hx
 unfold dgB digR at h1
 rw[decide_eq_true_eq] at h1
 exact bN (by decide) (by omega) (by omega)
theorem few_of{n m:Nat}{t:List kN}(h:nK n m t=true):t.length≤n∧(∀ x∈t,mN x.n (qJ x.n) 8)∧(mP 8 t=0→∀ s∈tmL 8 t,s≤(m:Int)):=by
 unfold nK at h
 rw[Bool.and_eq_true,Bool.and_eq_true,Bool.or_eq_true,decide_eq_true_eq,decide_eq_true_eq] at h
 refine ⟨h.1,dg_ok h.2.1,fun hc s hs=>?_⟩
 rcases h.2.2 with h1 | h1
 ·exact absurd hc h1
 ·have:=List.all_eq_true.1 h1 s hs
  unfold szB at this
  rwa [decide_eq_true_eq] at this
theorem tame_of{n m:Nat}{bx:List R2}{t:List kN}(h:nK n m t=true)(hm:m≤200)(h8:bx.length≤8)(hb:∀ y∈bx,GL 8 y)(hc:mP ((bx.length:Nat):Int) t=0):eS bx t:=by
 obtain ⟨_,h2,h3⟩:=few_of h
 have hc8:mP 8 t=0:=tm_mono (by omega) (by decide) hc
 refine ⟨hc,h2,hb,fun k hk=>?_⟩
 have h4:=h3 hc8 (eM (yY t k) (t.getD k tz)) (by unfold tmL;rw[if_pos hc8];exact szU_mem hk)
 omega
theorem gpt_8{xs:List Rat}(h:∀ q∈xs,QL q 8):∀ y∈List.map gD xs,GL 8 y:=fun y hy=>by
 obtain ⟨q,hq,rfl⟩:=List.mem_map.1 hy
 exact gl_pt (h q hq)
theorem shR_len{c n:Nat}{l:List jO}(h:fE c n l=true):l.length≤c:=by
 unfold fE at h;rw[Bool.and_eq_true,decide_eq_true_eq] at h;exact h.1
theorem shR_ok{c n:Nat}{l:List jO}(h:fE c n l=true)(h1:1≤n):∀ x∈l,mN x (qJ x) n:=fun x hx=>by
 unfold fE at h;rw[Bool.and_eq_true] at h
 have h3:=shX_le (List.all_eq_true.1 h.2 x hx)
 unfold digR at h3
 exact bN h1 (by omega) (by omega)
theorem vrow_map:∀ {l:List jO},gY l=true→List.map jP (List.map qJ l)=l
 |[],_=>rfl
 |x::l,h=>by
  unfold gY at h
  rw[List.all_cons,Bool.and_eq_true] at h
  rw[List.map_cons,List.map_cons,vrow_map (l:=l) h.2,ofQ_toQ h.1]
theorem row_form{c n:Nat}{l:List jO}(h:fE c n l=true)(h1:1≤n)(hv:gY l=true):∃ xs:List Rat,l=List.map jP xs∧(∀ q∈xs,QL q n)∧xs.length≤c:=by
 refine ⟨l.map qJ,?_,fun q hq=>?_,by rw[List.length_map];exact shR_len h⟩
 ·exact (vrow_map hv).symm
 ·obtain ⟨x,hx,rfl⟩:=List.mem_map.1 hq
  exact (shR_ok h h1 x hx).ql
theorem cb45:callB Tryz.prog 45=true:=by kernel_rfl
theorem u_few(t:List kN)(ht:xK 140737488355328 t)(n:Nat)(hn:n≤1000)(m:Nat)(hm:m≤1000)(htl:t.length≤140737488355328):jQ Tryz.prog 45 [(.sl 83 7 (List.map kK t)),(.val (.int .i64 (((n:Nat):Int)))),(.val (.int .i64 (((m:Nat):Int))))] (.val (.bool ((nK n m t)))):=by
 refine jG Tryz.func45 rfl cb45 rfl ?_
 show qK _ _ _ _ ⟨[(0,(vl 83 7 kK t)),(1,(jV n)),(2,(jV m))],[]⟩
 refine jB<|kx [] [] (zM<|zZ) ?_
 refine jB<|jB<|kx [(16,(vb (decide (((n:Nat):Int)<((t.length:Nat):Int)))))] [] (zM<|zE (vC hH)<|zM<|zE mT<|zZ) ?_
 refine jF rfl (fun h1=>?_) (fun h1=>?_)
 ·replace h1:=vI h1
  refine jB<|kx [(6,(vb false))] [] (zM<|zZ) ?_
  refine jE ⟨_,(.tmp (d:=(.val (.bool (false)))) rfl .nil),?_⟩
  rw[fewT_long h1];rfl
 ·replace h1:=vM h1
  have hlk:=h1
  refine jD<|jB<|jB<|kx [(17,(vl 83 7 kK t)),(18,(jV t.length)),(19,(jV 0))] [] (zM<|zE (vC hH)<|zM<|zZ) ?_
  refine jH<|kL (α:=Nat) (fun i=>⟨[(0,(vl 83 7 kK t)),(2,(jV m)),(17,(vl 83 7 kK t)),(18,(jV t.length)),(19,(jV i))],[]⟩) (fun i=>i≤t.length∧(t.take i).all dgB=true) (fun i=>t.length-i) 0 wk ⟨Nat.zero_le _,by simp⟩ ?_
  rintro i ⟨hi,hal⟩
  refine jB<|kx [(20,(vb (decide (((i:Nat):Int)<((t.length:Nat):Int)))))] [] (zE xT<|zZ) ?_
  refine jB<|jF rfl (fun h2=>?_) (fun h2=>?_)
  ·replace h2:=vI h2
   refine jD<|jB<|jH<|jB<|kx [(8,(.ref 0 0))] [(0,some (bx (kK (t.getD i tz))))] (zE (yL hH i (tz:kN))<|zE (nA aV)<|zN (uB 0 bE zo83)<|zT (qD aV)<|zZ) ?_
   refine jB<|kx [(26,(vb (decide (8<(((digR ((t.getD i tz).n)):Nat):Int)))))] [] (zE (kZ dR)<|zR (kO jS)<|zE (jZ (g_digits ((t.getD i tz).n) (qJ (t.getD i tz).n) (tn_get ht (show i<t.length by omega))))<|zE mT<|zZ) ?_
   refine jF rfl (fun h3=>?_) (fun h3=>?_)
   ·replace h3:=vI h3
    refine jB<|kx [(6,(vb false))] [] (zM<|zZ) ?_
    refine jE ⟨_,(.tmp (d:=(.val (.bool (false)))) rfl .nil),?_⟩
    rw[fewT_dig (all_no (i:=i) (d:=tz) (by omega) (dgB_n h3))];rfl
   ·replace h3:=vM h3
    refine jD<|kx [(19,(jV (i+1)))] [] (zE (vY (i+1))<|zM<|zZ) ?_
    exact ⟨(i+1),wk,⟨by omega,all_up (d:=tz) (by omega) hal (dgB_y h3)⟩,(by first|omega|(dsimp only;omega))⟩
  ·replace h2:=vM h2
   have hie:i=t.length:=by omega
   rw[hie,List.take_length] at hal
   have hT8:xK 8 t:=dg_ok hal
   refine kJ<|jB<|kx [(9,(vl 3 1 qA (tmL 8 t))),(10,(jV (mP 8 t)))] [] (zM<|zE (jZ (u_sizes t (tn_up hT8 (by decide)) 8))<|zM<|zE vT<|zE vT<|zM<|zM<|zZ) ?_
   refine jB<|jB<|kx [(34,(vb ((((mP 8 t):Nat):Int) != 0)))] [] (zM<|zE cM<|zZ) ?_
   refine jF (b:=((((mP 8 t):Nat):Int) != 0)) rfl (fun h4=>?_) (fun h4=>?_)
   ·replace h4:=bne_iff_ne.1 h4
    refine jB<|kx [(6,(vb true))] [] (zM<|zZ) ?_
    refine jE ⟨_,(.tmp (d:=(.val (.bool (true)))) rfl .nil),?_⟩
    rw[fewT_code hlk hal h4];rfl
   ·replace h4:=bne_eq_false_iff_eq.1 h4
    have hc0:=h4
    have hll:=tmL_len hc0
    refine jD<|jB<|jB<|kx [(35,(vl 3 1 qA (tmL 8 t))),(36,(jV ((tmL 8 t).length))),(37,(jV 0))] [] (zM<|zE (vC nP (L:=(tmL 8 t)))<|zM<|zZ) ?_
    refine jH<|kL (α:=Nat) (fun j=>⟨[(2,(jV m)),(35,(vl 3 1 qA (tmL 8 t))),(36,(jV ((tmL 8 t).length))),(37,(jV j))],[]⟩) (fun j=>j≤(tmL 8 t).length∧((tmL 8 t).take j).all (szB m)=true) (fun j=>(tmL 8 t).length-j) 0 wk ⟨Nat.zero_le _,by simp⟩ ?_
    rintro j ⟨hj,hal2⟩
    refine jB<|kx [(38,(vb (decide (((j:Nat):Int)<(((tmL 8 t).length:Nat):Int)))))] [] (zE xT<|zZ) ?_
    refine jB<|jF rfl (fun h5=>?_) (fun h5=>?_)
    ·replace h5:=vI h5
     refine jD<|jB<|jH<|jB<|kx [(12,(vi ((tmL 8 t).getD j 0)))] [] (zE (yL nP j (0:Int) (L:=(tmL 8 t)))<|zE (yR hP)<|zM<|zZ) ?_
     refine jB<|kx [(43,(vb (decide (((m:Nat):Int)<((tmL 8 t).getD j 0)))))] [] (zM<|zM<|zE mT<|zZ) ?_
     refine jF rfl (fun h6=>?_) (fun h6=>?_)
     ·replace h6:=vI h6
      refine jB<|kx [(6,(vb false))] [] (zM<|zZ) ?_
      refine jE ⟨_,(.tmp (d:=(.val (.bool (false)))) rfl .nil),?_⟩
      rw[fewT_big hc0 (all_no (i:=j) (d:=0) (by omega) (by unfold szB;exact decide_eq_false (by omega)))];rfl
     ·replace h6:=vM h6
      refine jD<|kx [(37,(jV (j+1)))] [] (zE (vY (j+1))<|zM<|zZ) ?_
      exact ⟨(j+1),wk,⟨by omega,all_up (d:=0) (by omega) hal2 (by unfold szB;exact decide_eq_true (by omega))⟩,(by first|omega|(dsimp only;omega))⟩
    ·replace h5:=vM h5
     have hje:j=(tmL 8 t).length:=by omega
     rw[hje,List.take_length] at hal2
     refine kJ<|jB<|kx [(6,(vb true))] [] (zM<|zZ) ?_
     refine jE ⟨_,(.tmp (d:=(.val (.bool (true)))) rfl .nil),?_⟩
     rw[fewT_yes hlk hal hal2];rfl
theorem tame_fail{bv:List R2}{t:List kN}(h:eS bv t)(hd:dzT bv t=true):∃ k,JFailP bv t k:=by
 obtain ⟨k,hk⟩:=dz_fst hd
 exact ⟨k,fail_p h hk⟩
def nM(f:List kN→Nat):List (List kN)→Nat
 |[]=>0
 |t::ts=>if f t=0 then nM f ts else f t
theorem fstC_app(f:List kN→Nat):∀ ts us,nM f (ts++us)=if nM f ts=0 then nM f us else nM f ts
 |[],us=>rfl
 |t::ts,us=>by
  rw[List.cons_append,nM,nM,fstC_app f ts us]
  by_cases h:f t=0
  ·rw[if_pos h,if_pos h]
  ·rw[if_neg h,if_neg h,if_neg h]
theorem fstC_up(f:List kN→Nat){ts:List (List kN)}{i:Nat}(hi:i<ts.length):nM f (ts.take (i+1))=if nM f (ts.take i)=0 then f (ts.getD i []) else nM f (ts.take i):=by
 rw[List.take_succ_eq_append_getElem hi,fstC_app,List.getD_eq_getElem?_getD,List.getElem?_eq_getElem hi]
 show (if _ then (if f ts[i]=0 then 0 else f ts[i]) else _)=_
 by_cases h:f ts[i]=0
 ·rw[if_pos h,Option.getD_some,h]
 ·rw[if_neg h,Option.getD_some]
theorem fstC_split(f:List kN→Nat)(ts:List (List kN))(i:Nat):nM f ts=if nM f (ts.take i)=0 then nM f (ts.drop i) else nM f (ts.take i):=by
 rw[← fstC_app,List.take_append_drop]
theorem fstC_all{f:List kN→Nat}{ts:List (List kN)}(h:nM f ts=0):∀ t∈ts,f t=0:=by
 induction ts with
 |nil=>intro t ht;simp at ht
 |cons u ts ih=>
  rw[nM] at h
  by_cases hu:f u=0
  ·rw[if_pos hu] at h
   intro t ht
   rcases List.mem_cons.1 ht with rfl | ht
   ·exact hu
   ·exact ih h t ht
  ·rw[if_neg hu] at h;exact absurd h hu
theorem fstC_at{f:List kN→Nat}{ts:List (List kN)}{i:Nat}(hi:i<ts.length)(h0:nM f (ts.take i)=0)(h:f (ts.getD i [])≠0):nM f ts=f (ts.getD i []):=by
 rw[fstC_split f ts (i+1),fstC_up f hi,if_pos h0,if_neg h]
def tmN(xs:List Rat)(t:List kN):Nat:=mP ((xs.length:Nat):Int) t
def dzC(xs:List Rat)(t:List kN):Nat:=bif dzT (List.map gD xs) t then 14 else 0
def cdQ(xs:List Rat)(q:List (List jO))(ts:List (List kN)):Nat:=if nM (tmN xs) ts=0 then mW q xs.length else nM (tmN xs) ts
def tbC(xs:List Rat)(q:List (List jO))(ts:List (List kN)):Nat:=if cdQ xs q ts=0 then nM (dzC xs) ts else cdQ xs q ts
section
variable {xs:List Rat} {q:List (List jO)} {ts:List (List kN)} {i:Nat}
theorem tbE1(hi:i<ts.length)(h0:nM (tmN xs) (ts.take i)=0)(h:((mP ((xs.length:Nat):Int) (ts.getD i []):Nat):Int)≠0):mP ((xs.length:Nat):Int) (ts.getD i [])=tbC xs q ts:=by
 have h1:tmN xs (ts.getD i [])≠0:=fun e=>h (by unfold tmN at e;rw[e];rfl)
 have h2:nM (tmN xs) ts=tmN xs (ts.getD i []):=fstC_at hi h0 h1
 unfold tbC cdQ
 rw[h2,if_neg h1,if_neg h1];rfl
theorem tbE2(h0:nM (tmN xs) ts=0)(h:((mW q xs.length:Nat):Int)≠0):mW q xs.length=tbC xs q ts:=by
 unfold tbC cdQ
 rw[if_pos h0,if_neg (by omega)]
theorem tbE3(h0:nM (tmN xs) ts=0)(hf:((mW q xs.length:Nat):Int)=0)(hi:i<ts.length)(hd:nM (dzC xs) (ts.take i)=0)(h:dzT (List.map gD xs) (ts.getD i [])=true):14=tbC xs q ts:=by
 have h2:dzC xs (ts.getD i [])=14:=by unfold dzC;rw[h];rfl
 have h1:=fstC_at hi hd (by rw[h2];decide)
 unfold tbC cdQ
 rw[if_pos h0,if_pos (by omega),h1,h2]
theorem tbE4(h0:nM (tmN xs) ts=0)(hf:((mW q xs.length:Nat):Int)=0)(hd:nM (dzC xs) ts=0):tbC xs q ts=0:=by
 unfold tbC cdQ
 rw[if_pos h0,if_pos (by omega),hd]
theorem dzC_n(h:dzT (List.map gD xs) (ts.getD i [])=false):dzC xs (ts.getD i [])=0:=by unfold dzC;rw[h];rfl
theorem fst_up0{f:List kN→Nat}(hi:i<ts.length)(h0:nM f (ts.take i)=0)(h:f (ts.getD i [])=0):nM f (ts.take (i+1))=0:=by rw[fstC_up f hi,if_pos h0,h]
theorem tm_of(h0:nM (tmN xs) ts=0)(hi:i<ts.length):tmN xs (ts.getD i [])=0:=mem_at (fstC_all h0) hi
theorem tb_0(h:tbC xs q ts=0):nM (tmN xs) ts=0∧mW q xs.length=0∧nM (dzC xs) ts=0:=by
 unfold tbC at h
 by_cases h1:cdQ xs q ts=0
 ·rw[if_pos h1] at h
  unfold cdQ at h1
  by_cases h2:nM (tmN xs) ts=0
  ·rw[if_pos h2] at h1;exact ⟨h2,h1,h⟩
  ·rw[if_neg h2] at h1;exact absurd h1 h2
 ·rw[if_neg h1] at h;exact absurd h h1
theorem dz_of(hd:nM (dzC xs) ts=0):∀ t∈ts,dzT (List.map gD xs) t=false:=fun t ht=>by
 have h:=fstC_all hd t ht
 unfold dzC at h
 cases hz:dzT (List.map gD xs) t with
 |false=>rfl
 |true=>rw[hz] at h;exact absurd h (by decide)
end
def covJ(q:List (List jO))(a b:List jO)(i:Nat):Nat→Rat
 |0=>0
 |j+1=>covJ q a b i j+qJ ((q.getD i []).getD j zr)*(qJ (a.getD i zr)*qJ (b.getD j zr))
def covA(q:List (List jO))(a b:List jO):Nat→Rat
 |0=>0
 |i+1=>covA q a b i+covJ q a b i b.length
theorem covJ_eq(q:List (List jO))(a b:List jO)(i:Nat):∀ j,covJ q a b i j=qJ (a.getD i zr)*aO (q.getD i []) b j
 |0=>by rw[covJ,aO];grind
 |j+1=>by rw[covJ,aO,covJ_eq q a b i j];grind
theorem covA_eq{q:List (List jO)}{a b:List jO}(h:∀ i,i<a.length→(q.getD i []).length=b.length)(hq:a.length=q.length):∀ i,i≤a.length→covA q a b i=aO a (appR q b) i
 |0,_=>rfl
 |i+1,hi=>by
  rw[covA,aO,covA_eq h hq i (by omega),covJ_eq]
  have e:qJ ((appR q b).getD i zr)=aO (q.getD i []) b b.length:=by
   unfold appR
   rw[List.getD_eq_getElem?_getD,List.getElem?_map,List.getElem?_eq_getElem (show i<q.length by omega),Option.map_some,Option.getD_some,gU,dotR,← h i (by omega),List.getD_eq_getElem?_getD,List.getElem?_eq_getElem (show i<q.length by omega),Option.getD_some]
  rw[e]
theorem cov_all{q:List (List jO)}{a b:List jO}(hr:gQ q q.length b.length)(hq:a.length=q.length):covA q a b a.length=xU q a b :=
 covA_eq (fun i hi=>(hr.at (show i<q.length by omega)).1) hq _ (Nat.le_refl _)
theorem covJ_ql{q:List (List jO)}{a b:List jO}(hq:xG 1048576 q)(ha:uY 1048576 a)(hb:uY 1048576 b)(i:Nat)(hi:i<q.length):∀ j,QL (covJ q a b i j) (j*3145730+1)
 |0=>vR mJ (by omega)
 |j+1=>by
  rw[covJ]
  have h1:QL (qJ ((q.getD i []).getD j zr)) 1048576:=row_ql (xM (d:=[]) hq hi) (by decide)
  exact zP (covJ_ql hq ha hb i hi j) (qQ h1 (qQ (row_ql (j:=i) ha (by decide)) (row_ql (j:=j) hb (by decide)) (Nat.le_refl _)) (Nat.le_refl _)) (by rw[Nat.add_mul];omega)
theorem covA_ql{q:List (List jO)}{a b:List jO}(hq:xG 1048576 q)(ha:uY 1048576 a)(hb:uY 1048576 b)(hb8:b.length≤8):∀ i,i≤q.length→QL (covA q a b i) (i*25165850+1)
 |0,_=>vR mJ (by omega)
 |i+1,hi=>by
  rw[covA]
  exact zP (covA_ql hq ha hb hb8 i (by omega)) (vR (covJ_ql hq ha hb i (by omega) b.length) (show _≤25165848 by omega)) (by rw[Nat.add_mul];omega)
theorem cov_sumA{q:List (List jO)}{a b:List jO}(hq:xG 1048576 q)(ha:uY 1048576 a)(hb:uY 1048576 b)(hb8:b.length≤8)(hq8:q.length≤8){i:Nat}(hi:i≤q.length):QL (covA q a b i) 268435456 :=
 vR (covA_ql hq ha hb hb8 i hi) (by omega)
theorem cov_8{q:List (List jO)}{a b:List jO}(hq:xG 1048576 q)(ha:uY 1048576 a)(hb:uY 1048576 b)(hr:gQ q q.length b.length)(hq8:q.length≤8)(hb8:b.length≤8)(hal:a.length=q.length):QL (xU q a b) 268435456:=by
 rw[← cov_all hr hal];exact cov_sumA hq ha hb hb8 hq8 (by omega)
theorem tab_at{q:List (List jO)}{xs:List Rat}{ts:List (List kN)}{i j:Nat}(hi:i<ts.length)(hj:j<ts.length):((gF q (List.map (qW xs) ts)).getD i []).getD j zr=jP (xU q (qW xs (ts.getD i [])) (qW xs (ts.getD j []))):=by
 unfold gF
 simp only[List.getD_eq_getElem?_getD,List.getElem?_map,List.getElem?_eq_getElem hi,List.getElem?_eq_getElem hj,Option.map_some,Option.getD_some]
theorem tab_len{q:List (List jO)}{gs:List (List jO)}{i:Nat}(hi:i<gs.length):((gF q gs).getD i []).length=gs.length:=by
 unfold gF
 rw[List.getD_eq_getElem?_getD,List.getElem?_map,List.getElem?_eq_getElem hi,Option.map_some,Option.getD_some,List.length_map]
def rawA(l:List jO)(q:List (List jO)):Nat:=bif gY l&&decide (nZ q=0) then 0 else 1
def rawC(l:List jO)(q:List (List jO)):Nat:=bif gY l&&decide (nZ q=0) then 6 else 1
theorem rawC_0{l:List jO}{q:List (List jO)}:rawC l q≠0:=by unfold rawC;cases (gY l&&decide (nZ q=0))<;>decide
theorem raw_t{l:List jO}{q:List (List jO)}(h:(!(gY l)||((nZ q:Nat):Int) != ((0:Nat):Int))=true):(gY l&&decide (nZ q=0))=false:=by
 rcases hv:gY l with _ | _
 ·rfl
 ·rw[hv,Bool.not_true,Bool.false_or,bne_iff_ne] at h
  rw[Bool.true_and,decide_eq_false_iff_not];omega
theorem raw_f{l:List jO}{q:List (List jO)}(h:(!(gY l)||((nZ q:Nat):Int) != ((0:Nat):Int))=false):(gY l&&decide (nZ q=0))=true:=by
 rw[Bool.or_eq_false_iff,Bool.not_eq_false',bne_eq_false_iff_eq] at h
 rw[h.1,Bool.true_and,decide_eq_true_eq];omega
theorem rawA_1{l:List jO}{q:List (List jO)}(h:(gY l&&decide (nZ q=0))=false):1=rawA l q∧1=rawC l q:=by unfold rawA rawC;rw[h];exact ⟨rfl,rfl⟩
theorem rawA_0{l:List jO}{q:List (List jO)}(h:(gY l&&decide (nZ q=0))=true):0=rawA l q∧6=rawC l q:=by unfold rawA rawC;rw[h];exact ⟨rfl,rfl⟩
theorem p_valR(rb:List jW)(hrb:∀ a∈rb,GOk 1048576 a)(hbl:rb.length≤1048576):jQ Tryz.prog 71 [(.sl 61 8 (List.map jI rb))] (.val (.bool ((List.all rb uG)))):=by
 let y1:=(jW.mk qM qM)
 refine jG Tryz.func71 rfl cb71 rfl ?_
 show qK _ _ _ _ ⟨[(0,(vl 61 8 jI rb))],[]⟩
 refine jB<|kx [] [] (zM<|zZ) ?_
 refine jB<|jB<|kx [(5,(vl 61 8 jI rb)),(6,(jV rb.length)),(7,(jV 0))] [] (zM<|zE (vC gN)<|zM<|zZ) ?_
 refine jH<|kL (α:=Nat) (fun i=>⟨[(5,(vl 61 8 jI rb)),(6,(jV rb.length)),(7,(jV i))],[]⟩) (fun i=>i≤rb.length∧(rb.take i).all uG=true) (fun i=>rb.length-i) 0 wk ⟨Nat.zero_le _,by simp⟩ ?_
 rintro i ⟨hi,hal⟩
 refine jB<|kx [(8,(vb (decide (((i:Nat):Int)<((rb.length:Nat):Int)))))] [] (zE xT<|zZ) ?_
 refine jB<|jF rfl (fun h1=>?_) (fun h1=>?_)
 ·replace h1:=vI h1
  refine jD<|jB<|jH<|jB<|kx [(4,(.ref 0 0))] [(0,some (bx (jI (rb.getD i y1))))] (zE (yL gN i y1)<|zE (nA kF)<|zN (uB 0 uC uH)<|zT (qD kF)<|zZ) ?_
  refine jB<|kx [(13,(vb (!(uG (rb.getD i y1)))))] [] (zR (kO kF)<|zE (jZ (bJ (rb.getD i y1) (gW (gok_get hrb (show i<rb.length by omega)) (by decide))))<|zE nF<|zZ) ?_
  refine jF rfl (fun h2=>?_) (fun h2=>?_)
  ·refine jB<|kx [(2,(vb false))] [] (zM<|zZ) ?_
   refine jE ⟨_,(.tmp (d:=(.val (.bool (false)))) rfl .nil),?_⟩
   rw[all_not (f:=uG) (l:=rb) (i:=i) (d:=(jW.mk qM qM)) (by omega) (by simpa using h2)];rfl
  ·refine jD<|kx [(7,(jV (i+1)))] [] (zE (vY (i+1))<|zM<|zZ) ?_
   exact ⟨(i+1),wk,⟨by omega,all_take (d:=(jW.mk qM qM)) (by omega) hal (by simpa using h2)⟩,(by first|omega|(dsimp only;omega))⟩
 ·replace h1:=vM h1
  have hie:i=rb.length:=by omega
  rw[hie,List.take_length] at hal
  refine kJ<|jB<|kx [(2,(vb true))] [] (zM<|zZ) ?_
  refine jE ⟨_,(.tmp (d:=(.val (.bool (true)))) rfl .nil),?_⟩
  rw[hal];rfl
theorem ptr_t{l:List jO}{q:List (List jO)}(h:(!(List.map (fun x=>jW.mk x x) l).all uG||((nZ q:Nat):Int) != ((0:Nat):Int))=true):(gY l&&decide (nZ q=0))=false:=raw_t (by rwa [ptr_all] at h)
theorem ptr_f{l:List jO}{q:List (List jO)}(h:(!(List.map (fun x=>jW.mk x x) l).all uG||((nZ q:Nat):Int) != ((0:Nat):Int))=false):(gY l&&decide (nZ q=0))=true:=raw_f (by rwa [ptr_all] at h)
theorem p_tabR(ts:List (List kN))(hts:∀ t∈ts,xK 1048576 t)(l:List jO)(hl:uY 1048576 l)(q:List (List jO))(hq:xG 1048576 q)(hz:(gY l&&decide (nZ q=0))=true→ts.length=0)(hxb:l.length≤1048576):jQ Tryz.prog 18 [(.sl 23 1 (List.map xE ts)),(.sl 45 4 (List.map jK l)),(.sl 24 1 (List.map jL q))] (.tup [(.sl 24 1 (List.map jL [])),(.val (.int .i64 ((((rawC l q):Nat):Int))))]):=by
 have hlb:=hl.2
 have hgx:(List.map (fun x=>jW.mk x x) l).length=l.length:=List.length_map _
 refine jG Tryz.func18 rfl cb18 rfl ?_
 show qK _ _ _ _ ⟨[(0,(vl 23 1 xE ts)),(1,(vl 45 4 jK l)),(2,(vl 24 1 jL q))],[]⟩
 refine jB<|kx [] [] (zE (dZ 24 1)<|zM<|zZ) ?_
 refine jB<|jB<|kx [(31,(vb (!(List.all (List.map (fun x=>jW.mk x x) l) uG)||((((nZ q):Nat):Int) != ((0:Nat):Int)))))] [] ?_ ?_
 ·refine zM<|zE (jZ (p_ptsR l hl hxb))<|zE (jZ (p_valR (List.map (fun x=>jW.mk x x) l) (ptr_ok hl) (by omega)))<|zE nF<|zE (oV (vb (!(List.all (List.map (fun x=>jW.mk x x) l) uG))) (kV (by kernel_rfl)))<|?_
  rcases hb1:(!(List.all (List.map (fun x=>jW.mk x x) l) uG)) with _ | _
  ·exact zM<|zE (jZ (m_chk q hq))<|zE cM<|zE cL<|zZ
  ·exact zK<|zK<|zK<|zE xS<|zZ
 refine jF rfl (fun h2=>?_) (fun h2=>?_)
 ·refine jB<|kx [(6,(vl 24 1 jL [])),(7,(jV 1))] [] (zE (dZ 24 1)<|zM<|zZ) ?_
  refine jE ⟨_,(.tmp (d:=(.sl 24 1 (List.map jL []))) rfl (.tmp (d:=(.val (.int .i64 (((1:Nat):Int))))) rfl .nil)),?_⟩
  rw[← (rawA_1 (ptr_t h2)).2];rfl
 ·refine jD<|jB<|jB<|kx [(34,(vb (((ts.length:Nat):Int) == ((0:Nat):Int))))] [] (zM<|zE (vC el32)<|zE yQ<|zZ) ?_
  refine jF rfl (fun h3=>?_) (fun h3=>?_)
  ·replace h3:=eq_of_beq h3
   refine jB<|kx [(6,(vl 24 1 jL [])),(7,(jV 6))] [] (zE (dZ 24 1)<|zM<|zZ) ?_
   refine jE ⟨_,(.tmp (d:=(.sl 24 1 (List.map jL []))) rfl (.tmp (d:=(.val (.int .i64 (((6:Nat):Int))))) rfl .nil)),?_⟩
   rw[← (rawA_0 (ptr_f h2)).2];rfl
  ·replace h3:=ne_of_beq_false h3
   have h9:=hz (ptr_f h2);exfalso;omega
theorem p_tabE(ts:List (List kN))(hts:∀ t∈ts,xK 1048576 t)(xs:List Rat)(hx:∀ q∈xs,QL q 1048576)(q:List (List jO))(hq:xG 1048576 q)(hE:tbC xs q ts≠0)(hr0:gQ q q.length (q.getD 0 []).length)(hTm:∀ t∈ts,tmN xs t=0→eS (List.map gD xs) t)(h1:1≤ts.length)(h64:ts.length≤64)(hxb:xs.length≤1000000):jQ Tryz.prog 18 [(.sl 23 1 (List.map xE ts)),(.sl 45 4 (List.map jK (List.map jP xs))),(.sl 24 1 (List.map jL q))] (.tup [(.sl 24 1 (List.map jL [])),(.val (.int .i64 ((((tbC xs q ts):Nat):Int))))]):=by
 have hx64:xs.length≤1000000:=hxb
 have hqm:=hr0.r64
 have hc0:=rect_chk hr0
 have hxn:((List.map jP xs).length)=xs.length:=List.length_map _
 have hgx:(List.map gD xs).length=xs.length:=List.length_map _
 refine jG Tryz.func18 rfl cb18 rfl ?_
 show qK _ _ _ _ ⟨[(0,(vl 23 1 xE ts)),(1,(vl 45 4 jK (List.map jP xs))),(2,(vl 24 1 jL q))],[]⟩
 refine jB<|kx [] [] (zE (dZ 24 1)<|zM<|zZ) ?_
 refine jB<|jB<|kx [(31,(vb false))] [] (zM<|zE (jZ (p_pts xs hx hxb))<|zE (jZ (p_val (List.map gD xs) (pts_gl hx) (by omega)))<|zE nF<|zM<|zM<|zE (jZ (m_chk q hq))<|zE (xD false cM (by exact bne_eq_false_iff_eq.2 (by rw[show (nZ q)=0 from hc0]<;>rfl)))<|zE zG<|zZ) ?_
 refine kY ?_
 refine jD<|jB<|jB<|kx [(34,(vb (((ts.length:Nat):Int) == ((0:Nat):Int))))] [] (zM<|zE (vC el32)<|zE yQ<|zZ) ?_
 refine jF rfl (fun h1=>?_) (fun h1=>?_)
 ·replace h1:=eq_of_beq h1
  exfalso;omega
 ·replace h1:=ne_of_beq_false h1
  refine jD<|jB<|jB<|kx [(37,(vb (decide (((64:Nat):Int)<((ts.length:Nat):Int)))))] [] (zM<|zE (vC el32)<|zE mT<|zZ) ?_
  refine jF rfl (fun h2=>?_) (fun h2=>?_)
  ·replace h2:=vI h2
   exfalso;omega
  ·replace h2:=vM h2
   refine jD<|jB<|jB<|kx [(38,(vl 23 1 xE ts)),(39,(jV ts.length)),(40,(jV 0))] [] (zM<|zE (vC el32)<|zM<|zZ) ?_
   refine jH<|kL (α:=Nat) (fun i=>⟨[(0,(vl 23 1 xE ts)),(1,(vl 45 4 jK (List.map jP xs))),(2,(vl 24 1 jL q)),(38,(vl 23 1 xE ts)),(39,(jV ts.length)),(40,(jV i))],[]⟩) (fun i=>i≤ts.length∧nM (tmN xs) (ts.take i)=0) (fun i=>ts.length-i) 0 wk ⟨Nat.zero_le _,rfl⟩ ?_
   rintro i ⟨hi,hc⟩
   refine jB<|kx [(41,(vb (decide (((i:Nat):Int)<((ts.length:Nat):Int)))))] [] (zE xT<|zZ) ?_
   refine jB<|jF rfl (fun h3=>?_) (fun h3=>?_)
   ·replace h3:=vI h3
    refine jD<|jB<|jH<|jB<|kx [(9,(vl 83 7 kK (ts.getD i [])))] [] (zE (yL el32 i ([]:List (kN)))<|zE (yR sh23)<|zM<|zZ) ?_
    refine jB<|kx [(10,(jV (mP ((xs.length:Nat):Int) (ts.getD i []))))] [] (zM<|zM<|zE (oLn uI xs.length)<|zE (jZ (j_chk (ts.getD i []) (mem_at (P:=xK 1048576) hts (show i<ts.length by omega)) ((xs.length:Nat):Int)))<|zM<|zZ) ?_
    refine jB<|kx [(49,(vb ((((mP ((xs.length:Nat):Int) (ts.getD i [])):Nat):Int) != ((0:Nat):Int))))] [] (zM<|zE cM<|zZ) ?_
    refine jF rfl (fun h4=>?_) (fun h4=>?_)
    ·replace h4:=bne_iff_ne.1 h4
     refine jB<|kx [(6,(vl 24 1 jL [])),(7,(jV (mP ((xs.length:Nat):Int) (ts.getD i []))))] [] (zM<|zE (dZ 24 1)<|zM<|zZ) ?_
     refine jE ⟨_,(.tmp (d:=(.sl 24 1 (List.map jL []))) rfl (.tmp (d:=(.val (.int .i64 ((((mP ((xs.length:Nat):Int) (ts.getD i [])):Nat):Int))))) rfl .nil)),?_⟩
     rw[tbE1 (q:=q) (by omega) hc h4];rfl
    ·replace h4:=bne_eq_false_iff_eq.1 h4
     refine jD<|kx [(40,(jV (i+1)))] [] (zE (vY (i+1))<|zM<|zZ) ?_
     exact ⟨i+1,wk,⟨by omega,fst_up0 (by omega) hc (show tmN xs (ts.getD i [])=0 by unfold tmN;omega)⟩,(by first|omega|(dsimp only;omega))⟩
   ·replace h3:=vM h3
    have hc1:nM (tmN xs) ts=0:=by rw[show i=ts.length by omega,List.take_length] at hc;exact hc
    refine kJ<|jB<|jB<|kx [(11,(jV (mW q xs.length)))] [] (zM<|zM<|zE (oLn uI xs.length)<|zE (jZ (p_fit q hq xs.length hr0))<|zM<|zZ) ?_
    refine jB<|kx [(57,(vb ((((mW q xs.length):Nat):Int) != ((0:Nat):Int))))] [] (zM<|zE cM<|zZ) ?_
    refine jF rfl (fun h5=>?_) (fun h5=>?_)
    ·replace h5:=bne_iff_ne.1 h5
     refine jB<|kx [(6,(vl 24 1 jL [])),(7,(jV (mW q xs.length)))] [] (zM<|zE (dZ 24 1)<|zM<|zZ) ?_
     refine jE ⟨_,(.tmp (d:=(.sl 24 1 (List.map jL []))) rfl (.tmp (d:=(.val (.int .i64 ((((mW q xs.length):Nat):Int))))) rfl .nil)),?_⟩
     rw[tbE2 hc1 h5];rfl
    ·replace h5:=bne_eq_false_iff_eq.1 h5
     have hfz:=h5
     refine jD<|jB<|kx [(12,(.own 0 24 1 0))] [(0,some (bm jL []))] (zO 0 24 1<|zZ) ?_
     refine jB<|jB<|kx [(59,(vl 23 1 xE ts)),(60,(jV ts.length)),(61,(jV 0))] [] (zM<|zE (vC el32)<|zM<|zZ) ?_
     refine jH<|kL (α:=Nat × List (List jO)) (fun (i,o)=>⟨[(1,(vl 45 4 jK (List.map jP xs))),(2,(vl 24 1 jL q)),(12,(.own 0 24 1 o.length)),(59,(vl 23 1 xE ts)),(60,(jV ts.length)),(61,(jV i))],[(0,some (bm jL o))]⟩) (fun (i,o)=>i≤ts.length∧o=(ts.take i).map (qW xs)∧nM (dzC xs) (ts.take i)=0) (fun (i,o)=>ts.length-i) (0,[]) wk ⟨Nat.zero_le _,by simp,rfl⟩ ?_
     rintro ⟨i,o⟩ ⟨hi,ho,hd⟩
     have hol:o.length=i:=by rw[ho,List.length_map,List.length_take];omega
     refine jB<|kx [(62,(vb (decide (((i:Nat):Int)<((ts.length:Nat):Int)))))] [] (zE xT<|zZ) ?_
     refine jB<|jF rfl (fun h6=>?_) (fun h6=>?_)
     ·replace h6:=vI h6
      have hTi:=mem_at hTm (show i<ts.length by omega) (tm_of hc1 (show i<ts.length by omega))
      refine jD<|jB<|jH<|jB<|kx [(14,(vl 83 7 kK (ts.getD i [])))] [] (zE (yL el32 i ([]:List (kN)))<|zE (yR sh23)<|zM<|zZ) ?_
      refine jB ?_
      rcases hdz:(dzT (List.map gD xs) (ts.getD i [])) with _ | _
      ·refine kx [(15,(vl 45 4 jK (qW xs (ts.getD i [])))),(16,(jV 0))] [] (zM<|zM<|zE (jZ (p_grd (ts.getD i []) (mem_at (P:=xK 1048576) hts (show i<ts.length by omega)) xs hx (tame_run hTi hdz) hxb))<|zM<|zE vT<|zE vT<|zM<|zM<|zZ) ?_
       refine jB<|jB<|kx [(72,(vb false))] [] (zM<|zE (xD false cM)<|zZ) ?_
       refine kY ?_
       refine jD<|kf [(12,(.own 0 24 1 ((o++[(qW xs (ts.getD i []))]).length)))] [(0,some (bm jL (o++[(qW xs (ts.getD i []))])))] (zM<|zM<|zE (dG el33 ze24 zo24)<|zA jL o [(qW xs (ts.getD i []))] rfl el33 ze24 by24<|zM<|zF) ?_
       refine kx [(61,(jV (i+1)))] [] (zE (vY (i+1))<|zM<|zZ) ?_
       exact ⟨(i+1,o++[qW xs (ts.getD i [])]),wk,⟨by omega,by rw[ho];exact dJ (by omega),fst_up0 (by omega) hd (dzC_n hdz)⟩,(by first|omega|(dsimp only;omega))⟩
      ·refine kx [(15,(vl 45 4 jK [])),(16,(jV 14))] [] (zM<|zM<|zE (jZ (p_grdF (ts.getD i []) (mem_at (P:=xK 1048576) hts (show i<ts.length by omega)) xs hx (tame_fail hTi hdz) hxb))<|zM<|zE vT<|zE vT<|zM<|zM<|zZ) ?_
       refine jB<|jB<|kx [(72,(vb true))] [] (zM<|zE (xD true cM)<|zZ) ?_
       refine vP ?_
       refine jB<|kx [(6,(vl 24 1 jL [])),(7,(jV 14))] [] (zM<|zE (dZ 24 1)<|zM<|zZ) ?_
       refine jE ⟨_,(.tmp (d:=(.sl 24 1 (List.map jL []))) rfl (.tmp (d:=(.val (.int .i64 (((14:Nat):Int))))) rfl .nil)),?_⟩
       rw[← tbE3 hc1 (by omega) (by omega) hd hdz];rfl
     ·replace h6:=vM h6
      exact absurd (tbE4 hc1 (by omega) (by rw[show i=ts.length by omega,List.take_length] at hd;exact hd)) hE
theorem p_tab8(ts:List (List kN))(hts:∀ t∈ts,xK 1048576 t)(xs:List Rat)(hx:∀ q∈xs,QL q 1048576)(q:List (List jO))(hq:xG 1048576 q)(hjs:∀ t∈ts,fS (List.map gD xs) t)(hr:gQ q q.length xs.length)(hf:mW q xs.length=0)(hxq:xs.length=q.length)(h1:1≤ts.length)(h64:ts.length≤64)(h8:q.length≤8):jQ Tryz.prog 18 [(.sl 23 1 (List.map xE ts)),(.sl 45 4 (List.map jK (List.map jP xs))),(.sl 24 1 (List.map jL q))] (.tup [(.sl 24 1 (List.map jL (gF q (List.map (qW xs) ts)))),(.val (.int .i64 (((0:Nat):Int))))]):=p_tab ts hts xs hx q hq hjs hr hf hxq h1 h64
theorem p_var8(t:List kN)(ht:xK 1048576 t)(xs:List Rat)(hx:∀ q∈xs,QL q 1048576)(q:List (List jO))(hq:xG 1048576 q)(hj:fS (List.map gD xs) t)(hr:gQ q q.length xs.length)(hf:mW q xs.length=0)(hxq:xs.length=q.length)(h8:q.length≤8):jQ Tryz.prog 22 [(.sl 83 7 (List.map kK t)),(.sl 45 4 (List.map jK (List.map jP xs))),(.sl 24 1 (List.map jL q))] (.tup [(jK (jP (xU q (qW xs t) (qW xs t)))),(.val (.int .i64 (((0:Nat):Int))))]):=p_var t ht xs hx q hq hj hr hf hxq
end Go.Proofs.YtnajallgoaiahaaGreatDoor
namespace Go.Fid
theorem den_pos(u:Rat):((u.den:Nat):Int)≠0:=by have:=u.den_pos;omega
end Go.Fid
namespace Go.Proofs.YtnajallgoaiahaaGreatDoor
open Go.Fid
theorem cb148:callB Tryz.prog 148=true:=by kernel_rfl
theorem cb228:callB Tryz.prog 228=true:=by kernel_rfl
theorem f_counted(x:kU)(a:Int)(hx:yZ x a 68719476736):jQ Tryz.prog 228 [(jN x)] (jN (kD a)):=by
 refine jG Tryz.func228 rfl cb228 rfl ?_
 show qK _ _ _ _ ⟨[(0,(.d (jN x)))],[]⟩
 refine jB<|kx [(1,(.ref 0 0)),(2,(.ref 1 0))] [(0,some (bx (jN x))),(1,some (bx (jN (kU.mk false []))))] (zN (vN 0)<|zN (uB 1 yH yF)<|zZ) ?_
 refine jB<|jB<|kx [(4,(vb (uF x)))] [] (zR (kO jY)<|zE (jZ (t_valid x (Nat.le_trans hx.l (by decide))))<|zZ) ?_
 refine jF (b:=(uF x)) rfl (fun h1=>?_) (fun h1=>?_)
 ·refine jB<|kx [] [(1,some (bx (jN x)))] (zR (kO jY)<|zT (qD jY)<|zZ) ?_
  refine jE ⟨_,(kP (cs:=(bx (jN x))) (d:=(jN x)) rfl rfl jY rfl rfl .nil),?_⟩
  rw[← hx.v,ofZ_toZ h1];rfl
 ·refine jD<|jB<|kx [] [(1,some (bx (jN (kD 0))))] (zE (jZ (t_of 0 (by decide) (by decide)))<|zT (qD jY)<|zZ) ?_
  refine jE ⟨_,(kP (cs:=(bx (jN (kD 0)))) (d:=(jN (kD 0))) rfl rfl jY rfl rfl .nil),?_⟩
  rw[← hx.v,toZ_bad h1,ofZ_zero];rfl
theorem f_newO(num:kU)(a:Int)(aL:yZ num a 68719476736)(den:kU)(b:Int)(eX:yZ den b 68719476736)(hb:b≠0):jQ Tryz.prog 148 [(jN num),(jN den)] (.tup [(jK (jP (Rat.divInt a b))),(.val (.int .i64 (0)))]):=by
 refine jG Tryz.func148 rfl cb148 rfl ?_
 show qK _ _ _ _ ⟨[(0,(.d (jN num))),(1,(.d (jN den)))],[]⟩
 refine jB<|kx [(2,(.ref 0 0)),(3,(.ref 1 0)),(4,(.ref 2 0))] [(0,some (bx (jN num))),(1,some (bx (jN den))),(2,some (bx (jK qM)))] (zN (vN 0)<|zN (vN 1)<|zN (uB 2 uL uQ)<|zM<|zZ) ?_
 refine jB<|kd [] [(0,some (bx (jN (kD a)))),(1,some (bx (jN (kD b))))] mo (wR (kO jY)<|wE (jZ (f_counted num a aL))<|wR (kO jY)<|wE (jZ (f_counted den b eX))<|wT (qD jY)<|wT (qD jY)<|wZ) ?_
 refine jB<|jB<|kx [(12,(vb false))] [] (zR (kO jY)<|zE (jZ (s_sign (mS (yZ.ln eX)) (by decide)))<|zE (xD false yQ (by exact beq_eq_false_iff_ne.2 (signI_ne hb)))<|zZ) ?_
 refine kY ?_
 refine jD<|jB<|kx [(5,(jV 0))] [(2,some (bx (jK (jP (Rat.divInt a b)))))] (zR (kO jY)<|zR (kO jY)<|zE (jZ (cI (kD a) (kD b) a b (mS (yZ.ln aL)) (mS (yZ.ln eX)) (by assumption)))<|zT (qD jS)<|zM<|zZ) ?_
 refine jE ⟨_,(kP (cs:=(bx (jK (jP (Rat.divInt a b))))) (d:=(jK (jP (Rat.divInt a b)))) rfl rfl jS rfl rfl (.tmp (d:=(.val (.int .i64 (0)))) rfl .nil)),?_⟩
 rfl
end Go.Proofs.YtnajallgoaiahaaGreatDoor
