/- Part 35 of a proof: rules, plain facts, and functions walked. -/
import Derived.Test.YtnajallgoaiahaaGreatDoorM34
import Derived.Test.YtnajallgoaiahaaGreatDoorM30
import Derived.Test.YtnajallgoaiahaaGreatDoorM32
import Derived.Test.YtnajallgoaiahaaGreatDoorM20
import Derived.Test.YtnajallgoaiahaaGreatDoorM18
import Derived.Test.YtnajallgoaiahaaGreatDoorM24
import Derived.Test.YtnajallgoaiahaaGreatDoorM10
import Derived.Test.YtnajallgoaiahaaGreatDoorM19
import Derived.Test.YtnajallgoaiahaaGreatDoorM28
set_option linter.all false
set_option maxRecDepth 4000
namespace Go.Proofs.YtnajallgoaiahaaGreatDoor
open Go.Fid
theorem u_brief(x:jR)(p:Rat)(hx:hP x p 140737488355328):jO Tryz.prog 104 [(jJ x)] (.val (.bool ((brX x)))):=by
 refine qY Tryz.func104 ?_
 refine jB<|kx [(1,(.ref 0 0))] [(0,some (bx (jJ x)))] (zN (uU 0)<|zM<|zZ) ?_
 refine jB<|kd [(3,(vl 140 1 jD x.num.gs)),(4,(vl 140 1 jD x.den.gs))] [] mo (wE (kV zB)<|wE (kV vR)<|wR (uE yD)<|wE (kV xI)<|wE (kV vR)<|wR (uE yD)<|wM<|wM<|wZ) ?_
 refine jB<|jB<|kx [(18,(vb (decide (1<((x.num.gs.length:Nat):Int))||decide (1<((x.den.gs.length:Nat):Int)))))] [] ?_ ?_
 ·refine zM<|zE (vP kO)<|zE hH<|zE (oV (vb (decide (1<((x.num.gs.length:Nat):Int)))) (qC (by kernel_rfl)))<|?_
  rcases hb1:(decide (1<((x.num.gs.length:Nat):Int))) with _ | _
  ·replace hb1:=vB hb1
   exact zM<|zE (vP kO)<|zE hH<|zE dG<|zZ
  ·replace hb1:=uV hb1
   exact zK<|zK<|zK<|zE yR<|zZ
 refine jG rfl (fun h2=>?_) (fun h2=>?_)
 ·refine jB<|kx [(2,(vb false))] [] (zM<|zZ) ?_
  refine jE ⟨_,(.tmp (d:=(.val (.bool (false)))) rfl .nil),?_⟩
  unfold brX;rw[if_pos h2];rfl
 ·refine jC<|jB<|kx [(2,(vb (((((x.num.gs.length:Nat):Int) == 0)||decide ((((x.num.gs.getD 0 0):Nat):Int)<100000))&&((((x.den.gs.length:Nat):Int) == 0)||decide ((((x.den.gs.getD 0 0):Nat):Int)<=100)))))] [] ?_ ?_
  ·refine zM<|zE (vP kO)<|zE xR<|zE (oV (vb (((x.num.gs.length:Nat):Int) == 0)) (qC (by kernel_rfl)))<|?_
   rcases hb3:(((x.num.gs.length:Nat):Int) == 0) with _ | _
   ·replace hb3:=ne_of_beq_false hb3
    refine zM<|zE (yE kO 0 (0:Nat))<|zE (yV uB)<|zE xK<|zE dG<|zE (oV (vb (false||decide ((((x.num.gs.getD 0 0):Nat):Int)<100000))) (qC (by kernel_rfl)))<|?_
    rcases hb4:(false||decide ((((x.num.gs.getD 0 0):Nat):Int)<100000)) with _ | _
    ·exact zK<|zK<|zK<|zK<|zK<|zK<|zK<|zK<|zK<|zE xQ<|zM<|zZ
    ·refine zM<|zE (vP kO)<|zE xR<|zE (oV (vb (((x.den.gs.length:Nat):Int) == 0)) (qC (by kernel_rfl)))<|?_
     rcases hb5:(((x.den.gs.length:Nat):Int) == 0) with _ | _
     ·replace hb5:=ne_of_beq_false hb5
      exact zM<|zE (yE kO 0 (0:Nat))<|zE (yV uB)<|zE oLe<|zE dG<|zE fR<|zM<|zZ
     ·replace hb5:=eq_of_beq hb5
      exact zK<|zK<|zK<|zK<|zE yR<|zE yR<|zM<|zZ
   ·replace hb3:=eq_of_beq hb3
    refine zK<|zK<|zK<|zK<|zE yR<|zM<|zM<|zE (vP kO)<|zE xR<|zE (oV (vb (((x.den.gs.length:Nat):Int) == 0)) (qC (by kernel_rfl)))<|?_
    rcases hb6:(((x.den.gs.length:Nat):Int) == 0) with _ | _
    ·replace hb6:=ne_of_beq_false hb6
     exact zM<|zE (yE kO 0 (0:Nat))<|zE (yV uB)<|zE oLe<|zE dG<|zE fR<|zM<|zZ
    ·replace hb6:=eq_of_beq hb6
     exact zK<|zK<|zK<|zK<|zE yR<|zE yR<|zM<|zZ
  refine jE ⟨_,(.tmp (d:=(.val (.bool ((((((x.num.gs.length:Nat):Int) == 0)||decide ((((x.num.gs.getD 0 0):Nat):Int)<100000))&&((((x.den.gs.length:Nat):Int) == 0)||decide ((((x.den.gs.getD 0 0):Nat):Int)<=100))))))) rfl .nil),?_⟩
  unfold brX;rw[if_neg (by rw[h2];decide)];rfl
theorem u_short(l:List jR)(hl:xN 140737488355328 l)(c:Nat)(hc:c<=1000)(n:Nat)(hn:n<=1000):jO Tryz.prog 46 [(.sl 45 4 (List.map jJ l)),(.val (.int .i64 (((c:Nat):Int)))),(.val (.int .i64 (((n:Nat):Int))))] (.val (.bool ((shR c n l)))):=by
 have hb:=hl.2
 let y1:=kH
 refine qY Tryz.func46 ?_
 refine jB<|kx [] [] (zM<|zZ) ?_
 refine jB<|jB<|kx [(11,(vb (decide (((c:Nat):Int)<((l.length:Nat):Int)))))] [] (zM<|zE (vP uQ)<|zM<|zE hH<|zZ) ?_
 refine jG rfl (fun h1=>?_) (fun h1=>?_)
 ·replace h1:=uV h1
  refine jB<|kx [(6,(vb false))] [] (zM<|zZ) ?_
  refine jE ⟨_,(.tmp (d:=(.val (.bool (false)))) rfl .nil),?_⟩
  rw[shR_long (by omega)];rfl
 ·replace h1:=vB h1
  have hlk:=h1
  refine jC<|jB<|jB<|kx [(7,(jS 0))] [] (zM<|zZ) ?_
  refine jH<|kF (α:=Nat) (fun i=>⟨[(0,(vl 45 4 jJ l)),(2,(jS n)),(7,(jS i))],[]⟩) (fun i=>i<=l.length/\(l.take i).all (shX n)=true) (fun i=>l.length-i) 0 wk ⟨Nat.zero_le _,by simp⟩ ?_
  rintro i ⟨hi,hal⟩
  refine jB<|jB<|kx [(15,(vb (decide (((i:Nat):Int)<((l.length:Nat):Int)))))] [] (zM<|zM<|zE (vP uQ)<|zE xK<|zZ) ?_
  refine jG rfl (fun h2=>?_) (fun h2=>?_)
  ·replace h2:=uV h2
   refine jC<|jB<|jH<|jB<|kx [(36,(vb (decide (((n:Nat):Int)<(((xP (l.getD i y1)):Nat):Int))||(decide (((n:Nat):Int)<=6)&&!(brX (l.getD i y1))))))] [] ?_ ?_
   ·refine zM<|zM<|zE (yE uQ i y1)<|zE (yJ jQ)<|zE (jV (nF (l.getD i y1) (qS (l.getD i y1)) (xL hl.1 (show i<l.length by omega))))<|zM<|zE hH<|zE (oV (vb (decide (((n:Nat):Int)<(((xP (l.getD i y1)):Nat):Int)))) (qC (by kernel_rfl)))<|?_
    rcases hb3:(decide (((n:Nat):Int)<(((xP (l.getD i kH)):Nat):Int))) with _ | _
    ·replace hb3:=vB hb3
     refine zM<|zE oLe<|zE (oV (vb (decide (((n:Nat):Int)<=6))) (qC (by kernel_rfl)))<|?_
     rcases hb4:(decide (((n:Nat):Int)<=6)) with _ | _
     ·replace hb4:=vB hb4
      exact zK<|zK<|zK<|zK<|zK<|zK<|zE xQ<|zE xQ<|zZ
     ·replace hb4:=uV hb4
      exact zM<|zM<|zE (yE uQ i y1)<|zE (yJ jQ)<|zE (jV (u_brief (l.getD i y1) (qS (l.getD i y1)) (xL hl.1 (show i<l.length by omega))))<|zE gD<|zE fR<|zE dG<|zZ
    ·replace hb3:=uV hb3
     exact zK<|zK<|zK<|zK<|zK<|zK<|zK<|zK<|zK<|zK<|zE yR<|zZ
   refine jG rfl (fun h5=>?_) (fun h5=>?_)
   ·refine jB<|kx [(6,(vb false))] [] (zM<|zZ) ?_
    refine jE ⟨_,(.tmp (d:=(.val (.bool (false)))) rfl .nil),?_⟩
    rw[shR_no (all_no (i:=i) (d:=kH) (by omega) (shX_t h5))];rfl
   ·have hfi:shX n (l.getD i kH)=true:=shX_f h5
    refine jC<|kx [(7,(jS (i+1)))] [] (zM<|zE (vO (i+1))<|zM<|zZ) ?_
    exact ⟨(i+1),wk,⟨by omega,all_up (d:=kH) (by omega) hal hfi⟩,(by omega)⟩
  ·replace h2:=vB h2
   have hie:i=l.length:=by omega
   rw[hie,List.take_length] at hal
   refine kD<|jB<|kx [(6,(vb true))] [] (zM<|zZ) ?_
   refine jE ⟨_,(.tmp (d:=(.val (.bool (true)))) rfl .nil),?_⟩
   rw[shR_yes hlk hal];rfl
theorem u_shortM(m:List (List jR))(hm:uY 140737488355328 m)(c:Nat)(hc:c<=1000)(n:Nat)(hn:n<=1000):jO Tryz.prog 70 [(.sl 24 1 (List.map jT m)),(.val (.int .i64 (((c:Nat):Int)))),(.val (.int .i64 (((n:Nat):Int))))] (.val (.bool ((shM c n m)))):=by
 have hb:=hm.2
 refine qY Tryz.func70 ?_
 refine jB<|kx [] [] (zM<|zZ) ?_
 refine jB<|jB<|kx [(11,(vb (decide (((c:Nat):Int)<((m.length:Nat):Int)))))] [] (zM<|zE (vP yH)<|zM<|zE hH<|zZ) ?_
 refine jG rfl (fun h1=>?_) (fun h1=>?_)
 ·replace h1:=uV h1
  refine jB<|kx [(6,(vb false))] [] (zM<|zZ) ?_
  refine jE ⟨_,(.tmp (d:=(.val (.bool (false)))) rfl .nil),?_⟩
  rw[shM_long (by omega)];rfl
 ·replace h1:=vB h1
  have hlk:=h1
  refine jC<|jB<|jB<|kx [(7,(jS 0))] [] (zM<|zZ) ?_
  refine jH<|kF (α:=Nat) (fun i=>⟨[(0,(vl 24 1 jT m)),(1,(jS c)),(2,(jS n)),(7,(jS i))],[]⟩) (fun i=>i<=m.length/\(m.take i).all (shR c n)=true) (fun i=>m.length-i) 0 wk ⟨Nat.zero_le _,by simp⟩ ?_
  rintro i ⟨hi,hal⟩
  refine jB<|jB<|kx [(15,(vb (decide (((i:Nat):Int)<((m.length:Nat):Int)))))] [] (zM<|zM<|zE (vP yH)<|zE xK<|zZ) ?_
  refine jG rfl (fun h2=>?_) (fun h2=>?_)
  ·replace h2:=uV h2
   refine jC<|jB<|jH<|jB<|kx [(25,(vb (!(shR c n (m.getD i [])))))] [] (zM<|zM<|zE (yE yH i ([]:List (jR)))<|zE (yV cF)<|zM<|zM<|zE (jV (u_short (m.getD i []) (vT (d:=[]) hm (show i<m.length by omega)) c (by omega) n (by omega)))<|zE gD<|zZ) ?_
   refine jG (b:=!(shR c n (m.getD i []))) rfl (fun h3=>?_) (fun h3=>?_)
   ·refine jB<|kx [(6,(vb false))] [] (zM<|zZ) ?_
    refine jE ⟨_,(.tmp (d:=(.val (.bool (false)))) rfl .nil),?_⟩
    rw[shM_no (all_no (i:=i) (d:=[]) (by omega) (by simpa using h3))];rfl
   ·have hfi:shR c n (m.getD i [])=true:=by simpa using h3
    refine jC<|kx [(7,(jS (i+1)))] [] (zM<|zE (vO (i+1))<|zM<|zZ) ?_
    exact ⟨(i+1),wk,⟨by omega,all_up (d:=[]) (by omega) hal hfi⟩,(by omega)⟩
  ·replace h2:=vB h2
   have hie:i=m.length:=by omega
   rw[hie,List.take_length] at hal
   refine kD<|jB<|kx [(6,(vb true))] [] (zM<|zZ) ?_
   refine jE ⟨_,(.tmp (d:=(.val (.bool (true)))) rfl .nil),?_⟩
   rw[shM_yes hlk hal];rfl
theorem fS(m:List (List jR))(hm:uY 140737488355328 m):jO Tryz.prog 17 [(.sl 24 1 (List.map jT m))] (.val (.bool ((shM 5 6 m)))):=by
 refine qY Tryz.func17 ?_
 refine jB<|kx [] [] (zM<|zZ) ?_
 refine jB<|kx [(2,(vb (shM 5 6 m)))] [] (zM<|zE (jV (u_shortM m hm 5 (by omega) 6 (by omega)))<|zM<|zZ) ?_
 refine jE ⟨_,(.tmp (d:=(.val (.bool ((shM 5 6 m))))) rfl .nil),?_⟩
 rfl
def dgB(x:qB):Bool:=decide (xP x.n<=8)
def szB(m:Nat)(s:Int):Bool:=decide (s<=(m:Int))
def dK(n m:Nat)(t:List qB):Bool:=decide (t.length<=n)&&(t.all dgB&&(decide (gK 8 t≠0)||(eG 8 t).all (szB m)))
theorem fewT_long{n m:Nat}{t:List qB}(h:((n:Nat):Int)<((t.length:Nat):Int)):dK n m t=false:=by unfold dK;rw[decide_eq_false (by omega)];rfl
theorem fewT_dig{n m:Nat}{t:List qB}(h:t.all dgB=false):dK n m t=false:=by unfold dK;rw[h,Bool.false_and,Bool.and_false]
theorem fewT_code{n m:Nat}{t:List qB}(h0:¬ ((n:Nat):Int)<((t.length:Nat):Int))(h:t.all dgB=true)(hc:((gK 8 t:Nat):Int)≠0):dK n m t=true:=by
 unfold dK;rw[decide_eq_true (by omega),h,decide_eq_true (by omega)];rfl
theorem tmL_len{z:Int}{t:List qB}(h:((gK z t:Nat):Int)=0):(eG z t).length=t.length:=by
 unfold eG;rw[if_pos (by omega),gY]
theorem fewT_big{n m:Nat}{t:List qB}(hc:((gK 8 t:Nat):Int)=0)(h:(eG 8 t).all (szB m)=false):dK n m t=false:=by
 unfold dK;rw[h,Bool.or_false,show decide (gK 8 t≠0)=false from decide_eq_false (by omega),Bool.and_false,Bool.and_false]
theorem fewT_yes{n m:Nat}{t:List qB}(h0:¬ ((n:Nat):Int)<((t.length:Nat):Int))(h:t.all dgB=true)(hs:(eG 8 t).all (szB m)=true):dK n m t=true:=by
 unfold dK;rw[decide_eq_true (by omega),h,hs,Bool.or_true];rfl
theorem dgB_y{x:qB}(h:¬ ((8:Nat):Int)<((xP x.n:Nat):Int)):dgB x=true:=decide_eq_true (by omega)
theorem dgB_n{x:qB}(h:((8:Nat):Int)<((xP x.n:Nat):Int)):dgB x=false:=decide_eq_false (by omega)
theorem dg_ok{t:List qB}(h:t.all dgB=true):∀ x∈t,hP x.n (qS x.n) 8:=fun x hx=>by
 have h1:=List.all_eq_true.1 h x hx
 unfold dgB xP at h1
 rw[decide_eq_true_eq] at h1
 exact fC (by decide) (by omega) (by omega)
theorem few_of{n m:Nat}{t:List qB}(h:dK n m t=true):t.length<=n/\(∀ x∈t,hP x.n (qS x.n) 8)/\(gK 8 t=0->∀ s∈eG 8 t,s<=(m:Int)):=by
 unfold dK at h
 rw[Bool.and_eq_true,Bool.and_eq_true,Bool.or_eq_true,decide_eq_true_eq,decide_eq_true_eq] at h
 refine ⟨h.1,dg_ok h.2.1,fun hc s hs=>?_⟩
 rcases h.2.2 with h1 | h1
 ·exact absurd hc h1
 ·have:=List.all_eq_true.1 h1 s hs
  unfold szB at this
  rwa [decide_eq_true_eq] at this
theorem tame_of{n m:Nat}{bx:List R2}{t:List qB}(h:dK n m t=true)(hm:m<=140)(h8:bx.length<=8)(hb:∀ y∈bx,GL 24 y)(hc:gK ((bx.length:Nat):Int) t=0):mR bx t:=by
 obtain ⟨_,h2,h3⟩:=few_of h
 have hc8:gK 8 t=0:=tm_mono (by omega) (by decide) hc
 refine ⟨hc,h2,hb,fun k hk=>?_⟩
 have h4:=h3 hc8 (szN (cW t k) (t.getD k tz)) (by unfold eG;rw[if_pos hc8];exact szU_mem hk)
 omega
theorem gpt_24{xs:List Rat}(h:∀ q∈xs,QL q 24):∀ y∈List.map yX xs,GL 24 y:=fun y hy=>by
 obtain ⟨q,hq,rfl⟩:=List.mem_map.1 hy
 exact fQ (h q hq)
theorem vrow_map:∀ {l:List jR},aN l=true->List.map jN (List.map qS l)=l
 |[],_=>rfl
 |x::l,h=>by
  unfold aN at h
  rw[List.all_cons,Bool.and_eq_true] at h
  rw[List.map_cons,List.map_cons,vrow_map (l:=l) h.2,bK h.1]
theorem u_few(t:List qB)(ht:zL 140737488355328 t)(n:Nat)(hn:n<=1000)(m:Nat)(hm:m<=1000)(htl:t.length<=140737488355328):jO Tryz.prog 45 [(.sl 83 7 (List.map kS t)),(.val (.int .i64 (((n:Nat):Int)))),(.val (.int .i64 (((m:Nat):Int))))] (.val (.bool ((dK n m t)))):=by
 refine qY Tryz.func45 ?_
 refine jB<|kx [] [] (zM<|zZ) ?_
 refine jB<|jB<|kx [(16,(vb (decide (((n:Nat):Int)<((t.length:Nat):Int)))))] [] (zM<|zE (vP iW)<|zM<|zE hH<|zZ) ?_
 refine jG rfl (fun h1=>?_) (fun h1=>?_)
 ·replace h1:=uV h1
  refine jB<|kx [(6,(vb false))] [] (zM<|zZ) ?_
  refine jE ⟨_,(.tmp (d:=(.val (.bool (false)))) rfl .nil),?_⟩
  rw[fewT_long h1];rfl
 ·replace h1:=vB h1
  have hlk:=h1
  refine jC<|jB<|jB<|kx [(17,(vl 83 7 kS t)),(18,(jS t.length)),(19,(jS 0))] [] (zM<|zE (vP iW)<|zM<|zZ) ?_
  refine jH<|kF (α:=Nat) (fun i=>⟨[(0,(vl 83 7 kS t)),(2,(jS m)),(17,(vl 83 7 kS t)),(18,(jS t.length)),(19,(jS i))],[]⟩) (fun i=>i<=t.length/\(t.take i).all dgB=true) (fun i=>t.length-i) 0 wk ⟨Nat.zero_le _,by simp⟩ ?_
  rintro i ⟨hi,hal⟩
  refine jB<|kx [(20,(vb (decide (((i:Nat):Int)<((t.length:Nat):Int)))))] [] (zE xK<|zZ) ?_
  refine jB<|jG rfl (fun h2=>?_) (fun h2=>?_)
  ·replace h2:=uV h2
   refine jC<|jB<|jH<|jB<|kx [(8,(.ref 0 0))] [(0,some (bx (kS (t.getD i tz))))] (zE (yE iW i (tz:qB))<|zE (yJ iR)<|zN (qR 0 ze83 zo83)<|zT (qA iR)<|zZ) ?_
   refine jB<|kx [(26,(vb (decide (8<(((xP ((t.getD i tz).n)):Nat):Int)))))] [] (zE (kV dP)<|zR (kJ jQ)<|zE (jV (nF ((t.getD i tz).n) (qS (t.getD i tz).n) (tn_get ht (show i<t.length by omega))))<|zE hH<|zZ) ?_
   refine jG rfl (fun h3=>?_) (fun h3=>?_)
   ·replace h3:=uV h3
    refine jB<|kx [(6,(vb false))] [] (zM<|zZ) ?_
    refine jE ⟨_,(.tmp (d:=(.val (.bool (false)))) rfl .nil),?_⟩
    rw[fewT_dig (all_no (i:=i) (d:=tz) (by omega) (dgB_n h3))];rfl
   ·replace h3:=vB h3
    refine jC<|kx [(19,(jS (i+1)))] [] (zE (vO (i+1))<|zM<|zZ) ?_
    exact ⟨(i+1),wk,⟨by omega,all_up (d:=tz) (by omega) hal (dgB_y h3)⟩,(by first|omega|(dsimp only;omega))⟩
  ·replace h2:=vB h2
   have hie:i=t.length:=by omega
   rw[hie,List.take_length] at hal
   have hT8:zL 8 t:=dg_ok hal
   refine kD<|jB<|kx [(9,(vl 3 1 qK (eG 8 t))),(10,(jS (gK 8 t)))] [] (zM<|zE (jV (u_sizes t (tn_up hT8) 8))<|zM<|zE uX<|zE uX<|zM<|zM<|zZ) ?_
   refine jB<|jB<|kx [(34,(vb ((((gK 8 t):Nat):Int) != 0)))] [] (zM<|zE mF<|zZ) ?_
   refine jG (b:=((((gK 8 t):Nat):Int) != 0)) rfl (fun h4=>?_) (fun h4=>?_)
   ·replace h4:=bne_iff_ne.1 h4
    refine jB<|kx [(6,(vb true))] [] (zM<|zZ) ?_
    refine jE ⟨_,(.tmp (d:=(.val (.bool (true)))) rfl .nil),?_⟩
    rw[fewT_code hlk hal h4];rfl
   ·replace h4:=bne_eq_false_iff_eq.1 h4
    have hc0:=h4
    have hll:=tmL_len hc0
    refine jC<|jB<|jB<|kx [(35,(vl 3 1 qK (eG 8 t))),(36,(jS ((eG 8 t).length))),(37,(jS 0))] [] (zM<|zE (vP nW (L:=(eG 8 t)))<|zM<|zZ) ?_
    refine jH<|kF (α:=Nat) (fun j=>⟨[(2,(jS m)),(35,(vl 3 1 qK (eG 8 t))),(36,(jS ((eG 8 t).length))),(37,(jS j))],[]⟩) (fun j=>j<=(eG 8 t).length/\((eG 8 t).take j).all (szB m)=true) (fun j=>(eG 8 t).length-j) 0 wk ⟨Nat.zero_le _,by simp⟩ ?_
    rintro j ⟨hj,hal2⟩
    refine jB<|kx [(38,(vb (decide (((j:Nat):Int)<(((eG 8 t).length:Nat):Int)))))] [] (zE xK<|zZ) ?_
    refine jB<|jG rfl (fun h5=>?_) (fun h5=>?_)
    ·replace h5:=uV h5
     refine jC<|jB<|jH<|jB<|kx [(12,(vi ((eG 8 t).getD j 0)))] [] (zE (yE nW j (0:Int) (L:=(eG 8 t)))<|zE (yV cL)<|zM<|zZ) ?_
     refine jB<|kx [(43,(vb (decide (((m:Nat):Int)<((eG 8 t).getD j 0)))))] [] (zM<|zM<|zE hH<|zZ) ?_
     refine jG rfl (fun h6=>?_) (fun h6=>?_)
     ·replace h6:=uV h6
      refine jB<|kx [(6,(vb false))] [] (zM<|zZ) ?_
      refine jE ⟨_,(.tmp (d:=(.val (.bool (false)))) rfl .nil),?_⟩
      rw[fewT_big hc0 (all_no (i:=j) (d:=0) (by omega) (by unfold szB;exact decide_eq_false (by omega)))];rfl
     ·replace h6:=vB h6
      refine jC<|kx [(37,(jS (j+1)))] [] (zE (vO (j+1))<|zM<|zZ) ?_
      exact ⟨(j+1),wk,⟨by omega,all_up (d:=0) (by omega) hal2 (by unfold szB;exact decide_eq_true (by omega))⟩,(by first|omega|(dsimp only;omega))⟩
    ·replace h5:=vB h5
     have hje:j=(eG 8 t).length:=by omega
     rw[hje,List.take_length] at hal2
     refine kD<|jB<|kx [(6,(vb true))] [] (zM<|zZ) ?_
     refine jE ⟨_,(.tmp (d:=(.val (.bool (true)))) rfl .nil),?_⟩
     rw[fewT_yes hlk hal hal2];rfl
theorem bP(t:List qB)(ht:zL 140737488355328 t)(l:List jR)(hl:xN 140737488355328 l)(htl:t.length<=140737488355328):jO Tryz.prog 12 [(.sl 83 7 (List.map kS t)),(.sl 45 4 (List.map jJ l))] (.val (.bool ((dK 16 10 t&&shR 4 6 l)))):=by
 refine qY Tryz.func12 ?_
 refine jB<|kx [] [] (zM<|zZ) ?_
 refine jB<|kx [(4,(vb ((dK 16 10 t)&&(shR 4 6 l))))] [] ?_ ?_
 ·refine zM<|zE (jV (u_few t ht 16 (by omega) 10 (by omega) htl))<|zE (oV (vb (dK 16 10 t)) (qC (by kernel_rfl)))<|?_
  rcases hb1:(dK 16 10 t) with _ | _
  ·exact zK<|zK<|zE xQ<|zM<|zZ
  ·exact zM<|zE (jV (u_short l hl 4 (by omega) 6 (by omega)))<|zE fR<|zM<|zZ
 refine jE ⟨_,(.tmp (d:=(.val (.bool (((dK 16 10 t)&&(shR 4 6 l)))))) rfl .nil),?_⟩
 rfl
theorem tame_fail{bv:List R2}{t:List qB}(h:mR bv t)(hd:dzT bv t=true):∃ k,JFailP bv t k:=by
 obtain ⟨k,hk⟩:=dz_fst hd
 exact ⟨k,fail_p h hk⟩
section
variable {xs:List Rat} {q:List (List jR)} {ts:List (List qB)} {i:Nat}
end
def covJ(q:List (List jR))(a b:List jR)(i:Nat):Nat->Rat
 |0=>0
 |j+1=>covJ q a b i j+qS ((q.getD i []).getD j zr)*(qS (a.getD i zr)*qS (b.getD j zr))
def covA(q:List (List jR))(a b:List jR):Nat->Rat
 |0=>0
 |i+1=>covA q a b i+covJ q a b i b.length
theorem covJ_eq(q:List (List jR))(a b:List jR)(i:Nat):∀ j,covJ q a b i j=qS (a.getD i zr)*lD (q.getD i []) b j
 |0=>by rw[covJ,lD];grind
 |j+1=>by rw[covJ,lD,covJ_eq q a b i j];grind
theorem covA_eq{q:List (List jR)}{a b:List jR}(h:∀ i,i<a.length->(q.getD i []).length=b.length)(hq:a.length=q.length):∀ i,i<=a.length->covA q a b i=lD a (appR q b) i
 |0,_=>rfl
 |i+1,hi=>by
  rw[covA,lD,covA_eq h hq i (by omega),covJ_eq]
  have e:qS ((appR q b).getD i zr)=lD (q.getD i []) b b.length:=by
   unfold appR
   rw[List.getD_eq_getElem?_getD,List.getElem?_map,List.getElem?_eq_getElem (show i<q.length by omega),Option.map_some,Option.getD_some,yY,dotR,<- h i (by omega),List.getD_eq_getElem?_getD,List.getElem?_eq_getElem (show i<q.length by omega),Option.getD_some]
  rw[e]
theorem cov_all{q:List (List jR)}{a b:List jR}(hr:yL q q.length b.length)(hq:a.length=q.length):covA q a b a.length=fG q a b :=
 covA_eq (fun i hi=>(hr.at (show i<q.length by omega)).1) hq _ (Nat.le_refl _)
theorem covJ_ql{q:List (List jR)}{a b:List jR}(hq:uY 1048576 q)(ha:xN 1048576 a)(hb:xN 1048576 b)(i:Nat)(hi:i<q.length):∀ j,QL (covJ q a b i j) (j*3145730+1)
 |0=>qG mX (by omega)
 |j+1=>by
  rw[covJ]
  have h1:QL (qS ((q.getD i []).getD j zr)) 1048576:=row_ql (vT (d:=[]) hq hi) (by decide)
  exact mS (covJ_ql hq ha hb i hi j) (qD h1 (qD (row_ql (j:=i) ha) (row_ql (j:=j) hb) (Nat.le_refl _)) (Nat.le_refl _)) (by rw[Nat.add_mul];omega)
theorem covA_ql{q:List (List jR)}{a b:List jR}(hq:uY 1048576 q)(ha:xN 1048576 a)(hb:xN 1048576 b)(hb8:b.length<=8):∀ i,i<=q.length->QL (covA q a b i) (i*25165850+1)
 |0,_=>qG mX (by omega)
 |i+1,hi=>by
  rw[covA]
  exact mS (covA_ql hq ha hb hb8 i (by omega)) (qG (covJ_ql hq ha hb i (by omega) b.length) (show _<=25165848 by omega)) (by rw[Nat.add_mul];omega)
theorem cov_sumA{q:List (List jR)}{a b:List jR}(hq:uY 1048576 q)(ha:xN 1048576 a)(hb:xN 1048576 b)(hb8:b.length<=8)(hq8:q.length<=8){i:Nat}(hi:i<=q.length):QL (covA q a b i) 268435456 :=
 qG (covA_ql hq ha hb hb8 i hi) (by omega)
theorem cov_8{q:List (List jR)}{a b:List jR}(hq:uY 1048576 q)(ha:xN 1048576 a)(hb:xN 1048576 b)(hr:yL q q.length b.length)(hq8:q.length<=8)(hb8:b.length<=8)(hal:a.length=q.length):QL (fG q a b) 268435456:=by
 rw[<- cov_all hr hal];exact cov_sumA hq ha hb hb8 hq8 (by omega)
theorem p_valR(rb:List jL)(hrb:∀ a∈rb,GOk 1048576 a)(hbl:rb.length<=1048576):jO Tryz.prog 71 [(.sl 61 8 (List.map jF rb))] (.val (.bool ((List.all rb uJ)))):=by
 let y1:=(jL.mk kH kH)
 refine qY Tryz.func71 ?_
 refine jB<|kx [] [] (zM<|zZ) ?_
 refine jB<|jB<|kx [(5,(vl 61 8 jF rb)),(6,(jS rb.length)),(7,(jS 0))] [] (zM<|zE (vP uA)<|zM<|zZ) ?_
 refine jH<|kF (α:=Nat) (fun i=>⟨[(5,(vl 61 8 jF rb)),(6,(jS rb.length)),(7,(jS i))],[]⟩) (fun i=>i<=rb.length/\(rb.take i).all uJ=true) (fun i=>rb.length-i) 0 wk ⟨Nat.zero_le _,by simp⟩ ?_
 rintro i ⟨hi,hal⟩
 refine jB<|kx [(8,(vb (decide (((i:Nat):Int)<((rb.length:Nat):Int)))))] [] (zE xK<|zZ) ?_
 refine jB<|jG rfl (fun h1=>?_) (fun h1=>?_)
 ·replace h1:=uV h1
  refine jC<|jB<|jH<|jB<|kx [(4,(.ref 0 0))] [(0,some (bx (jF (rb.getD i y1))))] (zE (yE uA i y1)<|zE (yJ jP)<|zN (qR 0 qJ qL)<|zT (qA jP)<|zZ) ?_
  refine jB<|kx [(13,(vb (!(uJ (rb.getD i y1)))))] [] (zR (kJ jP)<|zE (jV (lP (rb.getD i y1) (zU (bE hrb (show i<rb.length by omega)))))<|zE gD<|zZ) ?_
  refine jG rfl (fun h2=>?_) (fun h2=>?_)
  ·refine jB<|kx [(2,(vb false))] [] (zM<|zZ) ?_
   refine jE ⟨_,(.tmp (d:=(.val (.bool (false)))) rfl .nil),?_⟩
   rw[all_not (f:=uJ) (l:=rb) (i:=i) (d:=(jL.mk kH kH)) (by omega) (by simpa using h2)];rfl
  ·refine jC<|kx [(7,(jS (i+1)))] [] (zE (vO (i+1))<|zM<|zZ) ?_
   exact ⟨(i+1),wk,⟨by omega,all_take (d:=(jL.mk kH kH)) (by omega) hal (by simpa using h2)⟩,(by first|omega|(dsimp only;omega))⟩
 ·replace h1:=vB h1
  have hie:i=rb.length:=by omega
  rw[hie,List.take_length] at hal
  refine kD<|jB<|kx [(2,(vb true))] [] (zM<|zZ) ?_
  refine jE ⟨_,(.tmp (d:=(.val (.bool (true)))) rfl .nil),?_⟩
  rw[hal];rfl
theorem p_var8(t:List qB)(ht:zL 1048576 t)(xs:List Rat)(hx:∀ q∈xs,QL q 1048576)(q:List (List jR))(hq:uY 1048576 q)(hj:JRunP (List.map yX xs) t)(hr:yL q q.length xs.length)(hf:nP q xs.length=0)(hxq:xs.length=q.length)(h8:q.length<=8):jO Tryz.prog 22 [(.sl 83 7 (List.map kS t)),(.sl 45 4 (List.map jJ (List.map jN xs))),(.sl 24 1 (List.map jT q))] (.tup [(jJ (jN (fG q (gP xs t) (gP xs t)))),(.val (.int .i64 (((0:Nat):Int))))]):=p_var t ht xs hx q hq hj hr hf hxq
end Go.Proofs.YtnajallgoaiahaaGreatDoor
namespace Go.Fid
theorem den_pos(u:Rat):((u.den:Nat):Int)≠0:=by have:=u.den_pos;omega
end Go.Fid
namespace Go.Proofs.YtnajallgoaiahaaGreatDoor
open Go.Fid
theorem f_counted(x:qF)(a:Int)(hx:gQ x a 68719476736):jO Tryz.prog 228 [(jX x)] (jX (kN a)):=by
 refine qY Tryz.func228 ?_
 refine jB<|kx [(1,(.ref 0 0)),(2,(.ref 1 0))] [(0,some (bx (jX x))),(1,some (bx (jX (qF.mk false []))))] (zN (uU 0)<|zN (qR 1 gE gF)<|zZ) ?_
 refine jB<|jB<|kx [(4,(vb (vC x)))] [] (zR (kJ kC)<|zE (jV (t_valid x (Nat.le_trans hx.l (by decide))))<|zZ) ?_
 refine jG (b:=(vC x)) rfl (fun h1=>?_) (fun h1=>?_)
 ·refine jB<|kx [] [(1,some (bx (jX x)))] (zR (kJ kC)<|zT (qA kC)<|zZ) ?_
  refine jE ⟨_,(kI (cs:=(bx (jX x))) (d:=(jX x)) rfl rfl kC rfl rfl .nil),?_⟩
  rw[<- hx.v,ofZ_toZ h1];rfl
 ·refine jC<|jB<|kx [] [(1,some (bx (jX (kN 0))))] (zE (jV (t_of 0))<|zT (qA kC)<|zZ) ?_
  refine jE ⟨_,(kI (cs:=(bx (jX (kN 0)))) (d:=(jX (kN 0))) rfl rfl kC rfl rfl .nil),?_⟩
  rw[<- hx.v,toZ_bad h1,ofZ_zero];rfl
theorem f_newO(num:qF)(a:Int)(fP:gQ num a 68719476736)(den:qF)(b:Int)(dL:gQ den b 68719476736)(hb:b≠0):jO Tryz.prog 148 [(jX num),(jX den)] (.tup [(jJ (jN (Rat.divInt a b))),(.val (.int .i64 (0)))]):=by
 refine qY Tryz.func148 ?_
 refine jB<|kx [(2,(.ref 0 0)),(3,(.ref 1 0)),(4,(.ref 2 0))] [(0,some (bx (jX num))),(1,some (bx (jX den))),(2,some (bx (jJ kH)))] (zN (uU 0)<|zN (uU 1)<|zN (qR 2 qZ uG)<|zM<|zZ) ?_
 refine jB<|kd [] [(0,some (bx (jX (kN a)))),(1,some (bx (jX (kN b))))] mo (wR (kJ kC)<|wE (jV (f_counted num a fP))<|wR (kJ kC)<|wE (jV (f_counted den b dL))<|wT (qA kC)<|wT (qA kC)<|wZ) ?_
 refine jB<|jB<|kx [(12,(vb false))] [] (zR (kJ kC)<|zE (jV (s_sign (cI (gQ.ln dL))))<|zE (uP false xR (by exact beq_eq_false_iff_ne.2 (signI_ne hb)))<|zZ) ?_
 refine kM ?_
 refine jC<|jB<|kx [(5,(jS 0))] [(2,some (bx (jJ (jN (Rat.divInt a b)))))] (zR (kJ kC)<|zR (kJ kC)<|zE (jV (dH (kN a) (kN b) a b (cI (gQ.ln fP)) (cI (gQ.ln dL)) (by assumption)))<|zT (qA jQ)<|zM<|zZ) ?_
 refine jE ⟨_,(kI (cs:=(bx (jJ (jN (Rat.divInt a b))))) (d:=(jJ (jN (Rat.divInt a b)))) rfl rfl jQ rfl rfl (.tmp (d:=(.val (.int .i64 (0)))) rfl .nil)),?_⟩
 rfl
theorem g_newO(num:qF)(a:Int)(fP:gQ num a 68719476736)(den:qF)(b:Int)(dL:gQ den b 68719476736)(hb:b≠0):jO Tryz.prog 94 [(jX num),(jX den)] (.tup [(jJ (jN (Rat.divInt a b))),(.val (.int .i64 (0)))]):=by
 refine qY Tryz.func94 ?_
 refine jB<|kx [(2,(.ref 0 0)),(3,(.ref 1 0)),(4,(.ref 2 0))] [(0,some (bx (jX num))),(1,some (bx (jX den))),(2,some (bx (jJ kH)))] (zN (uU 0)<|zN (uU 1)<|zN (qR 2 qZ uG)<|zM<|zZ) ?_
 refine jB<|jB<|kx [(8,(vb false))] [] (zR (kJ kC)<|zE (jV (rs_sign dL))<|zE (uP false xR (by exact beq_eq_false_iff_ne.2 (signI_ne hb)))<|zZ) ?_
 refine kM ?_
 refine jC<|jB<|kx [(5,(jS 0))] [(2,some (bx (jJ (jN (Rat.divInt a b)))))] (zR (kJ kC)<|zR (kJ kC)<|zE (jV (g_reduced num den a b fP dL (by assumption)))<|zT (qA jQ)<|zM<|zZ) ?_
 refine jE ⟨_,(kI (cs:=(bx (jJ (jN (Rat.divInt a b))))) (d:=(jJ (jN (Rat.divInt a b)))) rfl rfl jQ rfl rfl (.tmp (d:=(.val (.int .i64 (0)))) rfl .nil)),?_⟩
 rfl
theorem i_ptC(p:Rat)(hp:QL p 200):jO Tryz.prog 89 [(jJ (jN p))] (.tup [(jF (jL.mk (jN p) (jN p))),(.val (.int .i64 (((0:Nat):Int))))]):=by
 refine qY Tryz.func89 ?_
 refine jB<|kx [(1,(.ref 0 0)),(2,(.ref 1 0))] [(0,some (bx (jJ (jN p)))),(1,some (bx (jF (jL.mk kH kH))))] (zN (uU 0)<|zN (qR 1 qJ qL)<|zM<|zZ) ?_
 refine jB<|kx [(3,(vi 0))] [(1,some (bx (jF (jL.mk (jN p) (jN p)))))] (zR (kJ jQ)<|zR (kJ jQ)<|zE (jV (i_makeO (jN p) p (jM (jW hp)) (jN p) p (jM (jW hp)) (by rw[mP];rfl) (Rat.le_refl (a:=p))))<|zE uX<|zE uX<|zT (qA jP)<|zM<|zZ) ?_
 refine jE ⟨_,(kI (cs:=(bx (jF (jL.mk (jN p) (jN p))))) (d:=(jF (jL.mk (jN p) (jN p)))) rfl rfl jP rfl rfl (.tmp (d:=(.val (.int .i64 (0)))) rfl .nil)),?_⟩
 rfl
theorem p_of(n:Int)(hnl:-9223372036854775808<=n)(hnh:n<=9223372036854775807)(d:Int)(hdl:-9223372036854775808<=d)(hdh:d<=9223372036854775807)(hd:d≠0):jO Tryz.prog 88 [(.val (.int .i64 (n))),(.val (.int .i64 (d)))] (.tup [(jJ (jN (Rat.divInt n d))),(.val (.int .i64 (0)))]):=by
 refine qY Tryz.func88 ?_
 refine jB<|kx [(4,(.ref 0 0))] [(0,some (bx (jJ kH)))] (zN (qR 0 qZ uG)<|zM<|zZ) ?_
 refine jB<|kx [(5,(vi 0))] [(0,some (bx (jJ (jN (Rat.divInt n d)))))] (zM<|zE (jV (t_of n (by omega) (by omega)))<|zM<|zE (jV (t_of d (by omega) (by omega)))<|zE (jV (f_newO (kN n) n (gW (iok_int (z:=n) (by omega) (by omega))) (kN d) d (gW (iok_int (z:=d) (by omega) (by omega))) hd))<|zE uX<|zE uX<|zT (qA jQ)<|zM<|zZ) ?_
 refine jE ⟨_,(kI (cs:=(bx (jJ (jN (Rat.divInt n d))))) (d:=(jJ (jN (Rat.divInt n d)))) rfl rfl jQ rfl rfl (.tmp (d:=(.val (.int .i64 (0)))) rfl .nil)),?_⟩
 rfl
theorem p_of2(n:Int)(hnl:-9223372036854775808<=n)(hnh:n<=9223372036854775807)(d:Int)(hdl:-9223372036854775808<=d)(hdh:d<=9223372036854775807)(hd:d≠0):jO Tryz.prog 34 [(.val (.int .i64 (n))),(.val (.int .i64 (d)))] (.tup [(jJ (jN (Rat.divInt n d))),(.val (.int .i64 (0)))]):=by
 refine qY Tryz.func34 ?_
 refine jB<|kx [(4,(.ref 0 0))] [(0,some (bx (jJ kH)))] (zN (qR 0 qZ uG)<|zM<|zZ) ?_
 refine jB<|kx [(5,(vi 0))] [(0,some (bx (jJ (jN (Rat.divInt n d)))))] (zM<|zE (jV (g_whole1 n (by omega) (by omega)))<|zM<|zE (jV (g_whole1 d (by omega) (by omega)))<|zE (jV (g_newO (kN n) n (gW (iok_int (z:=n) (by omega) (by omega))) (kN d) d (gW (iok_int (z:=d) (by omega) (by omega))) hd))<|zE uX<|zE uX<|zT (qA jQ)<|zM<|zZ) ?_
 refine jE ⟨_,(kI (cs:=(bx (jJ (jN (Rat.divInt n d))))) (d:=(jJ (jN (Rat.divInt n d)))) rfl rfl jQ rfl rfl (.tmp (d:=(.val (.int .i64 (0)))) rfl .nil)),?_⟩
 rfl
theorem p_ellO(m:List (List jR))(hm:uY 6 m)(i:Nat)(j:Nat)(k:Nat)(hk:k<=512)(hc:mZ m=0)(hf:nP m m.length=0)(hi:i<m.length)(hj:j<m.length)(hij:i≠j):jO Tryz.prog 32 [(.sl 24 1 (List.map jT m)),(.val (.int .i64 (((i:Nat):Int)))),(.val (.int .i64 (((j:Nat):Int)))),(.val (.int .i64 (((k:Nat):Int))))] (.tup [(jF (jL.mk (jN (((Rat.divInt 1 2)*((qS ((m.getD i []).getD i kH))+(qS ((m.getD j []).getD j kH))))+(Rat.divInt (uD (cE (((((Rat.divInt 1 2)*((qS ((m.getD i []).getD i kH))-(qS ((m.getD j []).getD j kH))))*((Rat.divInt 1 2)*((qS ((m.getD i []).getD i kH))-(qS ((m.getD j []).getD j kH)))))+((qS ((m.getD i []).getD j kH))*(qS ((m.getD i []).getD j kH))))*((yC k)*(yC k))))) ((2 ^ k:Nat):Int)))) (jN (((Rat.divInt 1 2)*((qS ((m.getD i []).getD i kH))+(qS ((m.getD j []).getD j kH))))+(Rat.divInt (upI (((((Rat.divInt 1 2)*((qS ((m.getD i []).getD i kH))-(qS ((m.getD j []).getD j kH))))*((Rat.divInt 1 2)*((qS ((m.getD i []).getD i kH))-(qS ((m.getD j []).getD j kH)))))+((qS ((m.getD i []).getD j kH))*(qS ((m.getD i []).getD j kH))))*((yC k)*(yC k)))) ((2 ^ k:Nat):Int)))))),(jF (jL.mk (jN (((Rat.divInt 1 2)*((qS ((m.getD i []).getD i kH))+(qS ((m.getD j []).getD j kH))))-(Rat.divInt (upI (((((Rat.divInt 1 2)*((qS ((m.getD i []).getD i kH))-(qS ((m.getD j []).getD j kH))))*((Rat.divInt 1 2)*((qS ((m.getD i []).getD i kH))-(qS ((m.getD j []).getD j kH)))))+((qS ((m.getD i []).getD j kH))*(qS ((m.getD i []).getD j kH))))*((yC k)*(yC k)))) ((2 ^ k:Nat):Int)))) (jN (((Rat.divInt 1 2)*((qS ((m.getD i []).getD i kH))+(qS ((m.getD j []).getD j kH))))-(Rat.divInt (uD (cE (((((Rat.divInt 1 2)*((qS ((m.getD i []).getD i kH))-(qS ((m.getD j []).getD j kH))))*((Rat.divInt 1 2)*((qS ((m.getD i []).getD i kH))-(qS ((m.getD j []).getD j kH)))))+((qS ((m.getD i []).getD j kH))*(qS ((m.getD i []).getD j kH))))*((yC k)*(yC k))))) ((2 ^ k:Nat):Int)))))),(.val (.int .i64 (((0:Nat):Int))))]):=by
 have hmb:=hm.2
 have hrc:=iM hc
 have hf2:=fit_of hf
 have hri:=(hrc.at hi).1
 have hrj:=(hrc.at hj).1
 have hm64:=hrc.r64
 let y26:=kH
 let y25:=(qS ((m.getD i []).getD j y26))
 let y24:=(qS ((m.getD j []).getD j y26))
 let y23:=(qS ((m.getD i []).getD i y26))
 let y22:=(bx (jF (jL.mk y26 y26)))
 let y21:=(y23+y24)
 let y20:=(y25*y25)
 let y19:=(y23-y24)
 let y18:=((Rat.divInt 1 2)*y21)
 let y17:=((Rat.divInt 1 2)*y19)
 let y16:=(jN y18)
 let y15:=(jN y17)
 let y14:=(y17*y17)
 let y13:=(y14+y20)
 let y12:=(jN y13)
 let y11:=(y13*((yC k)*(yC k)))
 let y10:=(Rat.divInt (upI y11) ((2 ^ k:Nat):Int))
 let y9:=(Rat.divInt (uD (cE y11)) ((2 ^ k:Nat):Int))
 let y8:=(y18-y10)
 let y7:=(y18+y10)
 let y6:=(y18-y9)
 let y5:=(y18+y9)
 let y4:=(jF (jL.mk (jN y8) (jN y6)))
 let y3:=(jF (jL.mk (jN y5) (jN y7)))
 let y2:=(bx y4)
 let y1:=(bx y3)
 refine qY Tryz.func32 ?_
 refine jB<|kx [(8,(.ref 0 0)),(9,(.ref 1 0))] [(0,some y22),(1,some y22)] (zN (qR 0 qJ qL)<|zN (qR 1 qJ qL)<|zM<|zZ) ?_
 refine jB<|jB<|kx [(31,(vb false))] [] (zM<|zE (jV (m_chk m (gH hm)))<|zE (uP false mF (by exact bne_eq_false_iff_eq.2 (by rw[show (mZ m)=0 from hc]<;>rfl)))<|zZ) ?_
 refine kM ?_
 refine jC<|jB<|kx [(11,(jS m.length))] [] (zM<|zE (vP yH)<|zM<|zZ) ?_
 refine jB<|jB<|kx [(12,(jS (nP m m.length)))] [] (zM<|zM<|zE (jV (p_fit m (gH hm) m.length (by assumption)))<|zM<|zZ) ?_
 refine jB<|kx [(40,(vb false))] [] (zM<|zE (uP false mF (by exact bne_eq_false_iff_eq.2 (by rw[show (nP m m.length)=0 from hf]<;>rfl)))<|zZ) ?_
 refine kM ?_
 refine jC<|jB<|jB<|kx [(72,(vb false))] [] (zM<|zE (uP false xK (by exact decide_eq_false (show ¬ ((i:Nat):Int)<0 by omega)))<|zM<|zM<|zM<|zE (uP false oGe (by exact decide_eq_false (show ¬ ((m.length:Nat):Int)<=((i:Nat):Int) by omega)))<|zE xQ<|zM<|zM<|zE (uP false xK (by exact decide_eq_false (show ¬ ((j:Nat):Int)<0 by omega)))<|zE xQ<|zM<|zM<|zM<|zE (uP false oGe (by exact decide_eq_false (show ¬ ((m.length:Nat):Int)<=((j:Nat):Int) by omega)))<|zE xQ<|zM<|zM<|zM<|zE (uP false xR (by exact beq_eq_false_iff_ne.2 (show ((i:Nat):Int)≠((j:Nat):Int) by omega)))<|zE xQ<|zM<|zM<|zE (uP false xK (by exact decide_eq_false (show ¬ ((k:Nat):Int)<0 by omega)))<|zE xQ<|zM<|zM<|zE (uP false hH (by exact decide_eq_false (show ¬ 512<((k:Nat):Int) by omega)))<|zE xQ<|zZ) ?_
 refine kM ?_
 refine jC<|jB ?_
 have bn1:QL (Rat.divInt 1 2) 3:=(xX (n:=3) (xS (by omega) (by omega)) (xS (by omega) (by omega)))
 refine kx [(13,(.ref 2 0))] [(2,some (bx (jJ (jN (Rat.divInt 1 2)))))] (zE (jV (p_of ((1:Nat):Int) (by omega) (by omega) ((2:Nat):Int) (by omega) (by omega) (by decide)))<|zM<|zE uX<|zE uX<|zN (qR 2 qZ uG)<|zT (qA jQ)<|zM<|zZ) ?_
 refine jB<|kd [(15,(.ref 3 0)),(16,(.ref 4 0)),(17,(.ref 5 0))] [(3,some (bx (jJ ((m.getD i []).getD i y26)))),(4,some (bx (jJ ((m.getD i []).getD j y26)))),(5,some (bx (jJ ((m.getD j []).getD j y26))))] mo (wM<|wM<|wE (yE yH i ([]:List (jR)))<|wE (yV cF)<|wM<|wE (yE uQ i y26 (L:=(m.getD i [])))<|wE (yJ jQ)<|wM<|wM<|wE (yE yH i ([]:List (jR)))<|wE (yV cF)<|wM<|wE (yE uQ j y26 (L:=(m.getD i [])))<|wE (yJ jQ)<|wM<|wM<|wE (yE yH j ([]:List (jR)))<|wE (yV cF)<|wM<|wE (yE uQ j y26 (L:=(m.getD j [])))<|wE (yJ jQ)<|wN (qR 3 qZ uG)<|wN (qR 4 qZ uG)<|wN (qR 5 qZ uG)<|wT (qA jQ)<|wT (qA jQ)<|wT (qA jQ)<|wZ) ?_
 refine jB ?_
 have bn2:QL y19 13:=(eL (k:=13) (xL (vT (d:=[]) hm (show i<m.length by omega)).1 (show i<(m.getD i []).length by omega)).ql (xL (vT (d:=[]) hm (show j<m.length by omega)).1 (show j<(m.getD j []).length by omega)).ql)
 refine kd [(18,(.ref 6 0))] [(6,some (bx (jJ y15)))] mo (wR (kJ jQ)<|wR (kJ jQ)<|wR (kJ jQ)<|wE (jV (f_sub ((m.getD i []).getD i y26) ((m.getD j []).getD j y26) y23 y24 (jM (xL (vT (d:=[]) hm (show i<m.length by omega)).1 (show i<(m.getD i []).length by omega))) (jM (xL (vT (d:=[]) hm (show j<m.length by omega)).1 (show j<(m.getD j []).length by omega)))))<|wE (jV (fK (jN (Rat.divInt 1 2)) (jN y19) (Rat.divInt 1 2) y19 (jM (jW bn1)) (jM (jW bn2))))<|wN (qR 6 qZ uG)<|wT (qA jQ)<|wZ) ?_
 refine jB ?_
 have bn3:QL y14 32:=(qD (k:=32) (qD (k:=16) bn1 bn2) (qD (k:=16) bn1 bn2))
 have bn4:QL y20 12:=(qD (k:=12) (xL (vT (d:=[]) hm (show i<m.length by omega)).1 (show j<(m.getD i []).length by omega)).ql (xL (vT (d:=[]) hm (show i<m.length by omega)).1 (show j<(m.getD i []).length by omega)).ql)
 refine kd [(19,(.ref 7 0))] [(7,some (bx (jF (jL.mk y12 y12))))] mo (wR (kJ jQ)<|wR (kJ jQ)<|wE (jV (fK y15 y15 y17 y17 (jM (jW (qD (k:=16) bn1 bn2))) (jM (jW (qD (k:=16) bn1 bn2)))))<|wR (kJ jQ)<|wR (kJ jQ)<|wE (jV (fK ((m.getD i []).getD j y26) ((m.getD i []).getD j y26) y25 y25 (jM (xL (vT (d:=[]) hm (show i<m.length by omega)).1 (show j<(m.getD i []).length by omega))) (jM (xL (vT (d:=[]) hm (show i<m.length by omega)).1 (show j<(m.getD i []).length by omega)))))<|wE (jV (f_add (jN y14) (jN y20) y14 y20 (jM (jW bn3)) (jM (jW bn4))))<|wE (jV (i_ptC y13 (qG (mS (k:=45) bn3 bn4))))<|wM<|wE uX<|wE uX<|wN (qR 7 qJ qL)<|wT (qA jP)<|wM<|wZ) ?_
 refine jB ?_
 have bn5:QL y9 86:=(xX (n:=86) (Nat.le_trans (gQ.ln (iok_root (fl_nn (iA (sq2_nn y17 y25))) (bF (k:=86) (qD (k:=85) (mS (k:=45) bn3 bn4) (qD (k:=40) (fF (k:=k) (by omega)) (fF (k:=k) (by omega))))))) (by decide)) (Nat.le_trans (gQ.ln (dM (k:=k) (by omega))) (by decide)))
 have bn6:QL y10 87:=(xX (n:=87) (Nat.le_trans (gQ.ln (iok_upI (k:=87) (fl_nn (iA (Rat.le_trans (sq2_nn y17 y25) Rat.le_refl))) (bF (k:=86) (qD (k:=85) (mS (k:=45) bn3 bn4) (qD (k:=40) (fF (k:=k) (by omega)) (fF (k:=k) (by omega))))))) (by decide)) (Nat.le_trans (gQ.ln (dM (k:=k) (by omega))) (by decide)))
 refine kx [(21,(.ref 8 0))] [(8,some (bx (jF (jL.mk (jN y9) (jN y10)))))] (zR (kJ jP)<|zM<|zE (jV (di_root y13 y13 (qG (mS (k:=45) bn3 bn4)) (qG (mS (k:=45) bn3 bn4)) Rat.le_refl k (by omega) (sq2_nn y17 y25)))<|zM<|zE uX<|zE uX<|zN (qR 8 qJ qL)<|zT (qA jP)<|zM<|zZ) ?_
 refine jB ?_
 have bn7:QL y21 13:=(mS (k:=13) (xL (vT (d:=[]) hm (show i<m.length by omega)).1 (show i<(m.getD i []).length by omega)).ql (xL (vT (d:=[]) hm (show j<m.length by omega)).1 (show j<(m.getD j []).length by omega)).ql)
 refine kd [(23,(.ref 9 0))] [(9,some (bx (jF (jL.mk y16 y16))))] mo (wR (kJ jQ)<|wR (kJ jQ)<|wR (kJ jQ)<|wE (jV (f_add ((m.getD i []).getD i y26) ((m.getD j []).getD j y26) y23 y24 (jM (xL (vT (d:=[]) hm (show i<m.length by omega)).1 (show i<(m.getD i []).length by omega))) (jM (xL (vT (d:=[]) hm (show j<m.length by omega)).1 (show j<(m.getD j []).length by omega)))))<|wE (jV (fK (jN (Rat.divInt 1 2)) (jN y21) (Rat.divInt 1 2) y21 (jM (jW bn1)) (jM (jW bn7))))<|wE (jV (i_ptC y18 (qG (qD (k:=16) bn1 bn7))))<|wM<|wE uX<|wE uX<|wN (qR 9 qJ qL)<|wT (qA jP)<|wM<|wZ) ?_
 refine jB ?_
 have bn8:QL y5 104:=(mS (k:=104) (qD (k:=16) bn1 bn7) bn5)
 have bn9:QL y7 104:=(mS (k:=104) (qD (k:=16) bn1 bn7) bn6)
 refine kx [(25,(.ref 10 0))] [(10,some y1)] (zR (kJ jP)<|zR (kJ jP)<|zE (jV (i_add y18 y18 y9 y10 (qG (qD (k:=16) bn1 bn7)) (qG (qD (k:=16) bn1 bn7)) (qG bn5) (qG bn6) Rat.le_refl (rt_valid k (sq2_nn y17 y25) Rat.le_refl)))<|zM<|zE uX<|zE uX<|zN (qR 10 qJ qL)<|zT (qA jP)<|zM<|zZ) ?_
 refine jB ?_
 have bn10:QL y8 104:=(eL (k:=104) (qD (k:=16) bn1 bn7) bn6)
 have bn11:QL y6 104:=(eL (k:=104) (qD (k:=16) bn1 bn7) bn5)
 refine kx [(27,(.ref 11 0))] [(11,some y2)] (zR (kJ jP)<|zR (kJ jP)<|zE (jV (i_sub y18 y18 y9 y10 (qG (qD (k:=16) bn1 bn7)) (qG (qD (k:=16) bn1 bn7)) (qG bn5) (qG bn6) Rat.le_refl (rt_valid k (sq2_nn y17 y25) Rat.le_refl)))<|zM<|zE uX<|zE uX<|zN (qR 11 qJ qL)<|zT (qA jP)<|zM<|zZ) ?_
 refine jB<|kU (wk (l:=[(8,(.ref 0 0)),(9,(.ref 1 0)),(25,(.ref 10 0)),(27,(.ref 11 0))]) (b:=[(0,some y22),(1,some y22),(10,some y1),(11,some y2)])) ?_
 refine kd [(10,(jS 0))] [(0,some y1),(1,some y2)] mo (wR (kJ jP)<|wR (kJ jP)<|wT (qA jP)<|wT (qA jP)<|wM<|wZ) ?_
 refine jE ⟨_,(kI (cs:=y1) (d:=y3) rfl rfl jP rfl rfl (kI (cs:=y2) (d:=y4) rfl rfl jP rfl rfl (.tmp (d:=(.val (.int .i64 (((0:Nat):Int))))) rfl .nil))),?_⟩
 rfl
end Go.Proofs.YtnajallgoaiahaaGreatDoor
namespace Go.Fid
end Go.Fid
namespace Go.Proofs.YtnajallgoaiahaaGreatDoor
open Go.Fid
section
variable (F:Nat->Nat->jR) {r c i j p q:Nat}
end
def sm(f:Nat->Rat):Nat->Rat
 |0=>0
 |n+1=>sm f n+f n
theorem sm_congr{f g:Nat->Rat}:∀ {n},(∀ i,i<n->f i=g i)->sm f n=sm g n
 |0,_=>rfl
 |n+1,h=>by rw[sm,sm,sm_congr (n:=n) (fun i hi=>h i (by omega)),h n (by omega)]
theorem sm_add(f g:Nat->Rat):∀ n,sm (fun i=>f i+g i) n=sm f n+sm g n
 |0=>by rw[sm,sm,sm];grind
 |n+1=>by rw[sm,sm,sm,sm_add f g n];grind
theorem sm_mul(c:Rat)(f:Nat->Rat):∀ n,sm (fun i=>c*f i) n=c*sm f n
 |0=>by rw[sm,sm];grind
 |n+1=>by rw[sm,sm,sm_mul c f n];grind
theorem dotT_sm(l m:List jR):∀ n,lD l m n=sm (fun i=>qS (l.getD i zr)*qS (m.getD i zr)) n
 |0=>rfl
 |n+1=>by rw[lD,sm,dotT_sm l m n]
theorem appR_at{m:List (List jR)}{v:List jR}{i:Nat}(h:i<m.length):qS ((appR m v).getD i zr)=lD (m.getD i []) v (m.getD i []).length:=by
 unfold appR
 simp only[List.getD_eq_getElem?_getD,List.getElem?_map,List.getElem?_eq_getElem h,Option.map_some,Option.getD_some]
 rw[yY];rfl
end Go.Proofs.YtnajallgoaiahaaGreatDoor
namespace Go.Proofs.YtnajallgoaiahaaGreatDoor
open Go.Fid
theorem app_l{α:Type}{A B:List α}{d:α}{k:Nat}(h:k<A.length):(A++B).getD k d=A.getD k d:=by
 rw[List.getD_eq_getElem?_getD,List.getElem?_append_left h,<- List.getD_eq_getElem?_getD]
structure Gd (z:Int) (k:Nat) (x:qB):Prop where
 bad:¬ fZ x
 ord:¬ bA ((k:Nat):Int) x
 rng:¬ rngN z x
theorem Gd.a{z:Int}{k:Nat}{x:qB}(h:Gd z k x)(h1:1<=xG x.op):0<=x.a/\x.a<k:=by
 have:=h.ord;unfold bA at this;omega
theorem Gd.b{z:Int}{k:Nat}{x:qB}(h:Gd z k x)(h1:xG x.op=2):0<=x.b/\x.b<k:=by
 have:=h.ord;unfold bA at this;omega
theorem Gd.kd{z:Int}{k:Nat}{x:qB}(h:Gd z k x):(xG x.op=0/\(x.op=0\/x.op=1))\/(xG x.op=1/\(x.op=6\/x.op=7))\/(xG x.op=2/\(x.op=2\/x.op=3\/x.op=4\/x.op=5)):=by
 rcases fH x.op with h1 | h1 | h1 | h1
 ·exact .inl h1
 ·exact .inr (.inl h1)
 ·exact .inr (.inr h1)
 ·exact absurd (Or.inl (by omega)) h.bad
theorem gd_of{z:Int}{ss:List Int}{x:qB}{k:Nat}(h:ndC z ss x=0)(hk:ss.length=k):Gd z k x:=by
 obtain ⟨h1,h2,h3,_⟩:=nd_0 h
 rw[hk] at h2;exact ⟨h1,h2,h3⟩
structure Sm (bx:List R2) (s:List qB):Prop where
 t:mR bx s
 h:∀ k,k<s.length->szN (cW s k) (s.getD k tz)<=70
 l:s.length<=100
theorem jU_at{bx:List R2}{t:List qB}{k:Nat}:∀ {n},k<n->(jU bx t n).getD k jz=nJ bx (jU bx t k) (t.getD k tz)
 |0,h=>by omega
 |n+1,h=>by
  have hl:=cX bx t n
  rw[jU]
  rcases Nat.lt_or_ge k n with h1 | h1
  ·rw[app_l (by omega)];exact jU_at h1
  ·obtain rfl:k=n:=by omega
   rw[List.getD_eq_getElem?_getD,List.getElem?_append_right (by omega),hl,Nat.sub_self];rfl
section
variable {bx:List R2} {s t:List qB}
theorem dz_no{w:List qB}(h:dzT bx w=false){k:Nat}(hk:k<w.length):dzB bx w k=false:=by
 unfold dzT at h
 rw[List.any_eq_false] at h
 have:=h k (List.mem_range.2 hk)
 simpa using this
end
theorem covR_sm{q:List (List jR)}{a b:List jR}{n:Nat}(hr:yL q q.length n)(hq:q.length=n)(ha:a.length=n):fG q a b=sm (fun i=>qS (a.getD i zr)*sm (fun j=>qS ((q.getD i []).getD j zr)*qS (b.getD j zr)) n) n:=by
 unfold fG
 rw[dotR,dotT_sm,ha]
 refine sm_congr fun i hi=>?_
 rw[appR_at (by omega),(hr.at (by omega)).1,dotT_sm]
end Go.Proofs.YtnajallgoaiahaaGreatDoor
