/- Part 16 of a proof: rules, plain facts, and functions walked. -/
import Derived.Test.YtnajallgoaiahaaGreatDoorM15
set_option linter.all false
set_option maxRecDepth 4000
namespace Go.Proofs.YtnajallgoaiahaaGreatDoor
open Go.Fid
theorem iD:lH Tryz.prog 43 1=some (1,41):=by kernel_rfl
theorem bW(l:List Nat)(i:Nat)(hd:Dig l):jO Tryz.prog 233 [(.sl 140 1 (List.map jD l)),(.val (.int .i64 (((i:Nat):Int))))] (.val (.int .u64 ((((l.getD i 0):Nat):Int)))):=by
 have hg:=hd.getD i
 refine qY Tryz.func233 ?_
 refine jB<|kx [] [] (zM<|zZ) ?_
 refine jB<|jB<|kx [(8,(vb (decide (((i:Nat):Int)<((l.length:Nat):Int)))))] [] (zM<|zM<|zE (vP kO)<|zE xK<|zZ) ?_
 refine jG rfl (fun h1=>?_) (fun h1=>?_)
 ·replace h1:=uV h1
  refine jB<|kx [(4,(nK (l.getD i 0)))] [] (zM<|zM<|zE (yE kO i (0:Nat))<|zE (yV uB)<|zE (cM gN gL (l.getD i 0))<|zM<|zZ) ?_
  refine jE ⟨_,(.tmp (d:=(.val (.int .u64 ((((l.getD i 0):Nat):Int))))) rfl .nil),?_⟩
  rfl
 ·replace h1:=vB h1
  refine jC<|jB<|kx [(4,(nK 0))] [] (zM<|zZ) ?_
  refine jE ⟨_,(.tmp (d:=(.val (.int .u64 (0)))) rfl .nil),?_⟩
  rw[show l.getD i 0=0 from getD_out (by omega)];rfl
theorem mL(neg:Bool)(l:List Nat)(hd:Dig l)(hb:l.length<=17592186044416):jO Tryz.prog 147 [(.val (.bool (neg))),(.sl 140 1 (List.map jD l))] (jX (xT neg (val l))):=by
 refine qY Tryz.func147 ?_
 refine jB<|kx [(4,(.ref 0 0))] [(0,some (bx (jX (qF.mk false []))))] (zN (qR 0 gE gF)<|zZ) ?_
 refine jB<|kx [(5,(jS l.length))] [] (zM<|zE (vP kO)<|zM<|zZ) ?_
 refine jB<|jH<|kF (α:=Nat) (fun k=>⟨[(0,(vb neg)),(1,(vl 140 1 jD l)),(4,(.ref 0 0)),(5,(jS k))],[(0,some (bx (jX (qF.mk false []))))]⟩) (fun k=>k<=l.length/\val (l.take k)=val l) (fun k=>k) l.length wk ⟨Nat.le_refl _,by rw[List.take_length]⟩ ?_
 rintro k ⟨hk,hv⟩
 refine jB<|jB<|kx [(17,(vb (decide (0<((k:Nat):Int))&&((((l.getD (k-1) 0):Nat):Int) == 0))))] [] ?_ ?_
 ·refine zM<|zE hH<|zE (oV (vb (decide (0<((k:Nat):Int)))) (qC (by kernel_rfl)))<|?_
  rcases hb1:(decide (0<((k:Nat):Int))) with _ | _
  ·replace hb1:=vB hb1
   exact zK<|zK<|zK<|zK<|zK<|zK<|zE xQ<|zZ
  ·replace hb1:=uV hb1
   exact zM<|zM<|zE (oSb (k-1))<|zE (yE kO (k-1) (0:Nat))<|zE (yV uB)<|zE xR<|zE fR<|zZ
 refine jG rfl (fun h2=>?_) (fun h2=>?_)
 ·have hm:=r_made_step hk hv h2
  have hm0:=hm.1
  refine jC<|jH<|kx [(5,(jS (k-1)))] [] (zM<|zE (oSb (k-1))<|zM<|zZ) ?_
  exact ⟨(k-1),wk,⟨by omega,hm.2⟩,(by first|omega|(dsimp only;omega))⟩
 ·refine kD<|jB<|kx [] [(0,some (bx (jX (qF.mk (neg&&decide (0<((k:Nat):Int))) (List.take k l)))))] ?_ ?_
  ·refine zM<|zE (oV (vb neg) (qC (by kernel_rfl)))<|?_
   rcases hb3:neg with _ | _
   ·exact zK<|zK<|zE xQ<|zE (oBe kO)<|zM<|zM<|zE (e_slc (l:=0) (h:=k) (kl:=.i64) (kh:=.i64) (es':=List.map jD (List.take k l)) (by exact rfl) kO (by exact rfl) (by exact rfl) (by exact rfl) (Nat.zero_le _) (by simp only[List.length_map];omega) (by rw[List.drop_zero,List.map_take]))<|zE (e_appe (by exact rfl) kO xB (by kernel_rfl) mI (by exact rfl) (by exact rfl) (by simp only[List.length_map,List.length_take,List.length_drop,List.length_append,List.length_cons,List.length_nil,maxLen];omega) (by simp only[List.length_map,List.length_take,List.length_drop,List.length_append,List.length_cons,List.length_nil];omega))<|zE (eD pl43 gE gF)<|zT (qA kC)<|zZ
   ·exact zM<|zE hH<|zE fR<|zE (oBe kO)<|zM<|zM<|zE (e_slc (l:=0) (h:=k) (kl:=.i64) (kh:=.i64) (es':=List.map jD (List.take k l)) (by exact rfl) kO (by exact rfl) (by exact rfl) (by exact rfl) (Nat.zero_le _) (by simp only[List.length_map];omega) (by rw[List.drop_zero,List.map_take]))<|zE (e_appe (by exact rfl) kO xB (by kernel_rfl) mI (by exact rfl) (by exact rfl) (by simp only[List.length_map,List.length_take,List.length_drop,List.length_append,List.length_cons,List.length_nil,maxLen];omega) (by simp only[List.length_map,List.length_take,List.length_drop,List.length_append,List.length_cons,List.length_nil];omega))<|zE (eD pl43 gE gF)<|zT (qA kC)<|zZ
  refine jE ⟨_,(kI (cs:=(bx (jX (qF.mk (neg&&decide (0<((k:Nat):Int))) (List.take k l))))) (d:=(jX (qF.mk (neg&&decide (0<((k:Nat):Int))) (List.take k l)))) rfl rfl kC rfl rfl .nil),?_⟩
  rw[r_made_end hd hk hv h2];rfl
theorem r_valid(x:qF)(hb:x.gs.length<=17592186044416):jO Tryz.prog 116 [(jX x)] (.val (.bool ((vC x)))):=by
 refine qY Tryz.func116 ?_
 refine jB<|kx [(1,(.ref 0 0))] [(0,some (bx (jX x)))] (zN (uU 0)<|zM<|zZ) ?_
 refine jB<|kx [(3,(jS x.gs.length))] [] (zE (kV vR)<|zR (uE yD)<|zE (vP kO)<|zM<|zZ) ?_
 refine jB<|jB<|kx [(4,(jS 0))] [] (zM<|zZ) ?_
 refine jH<|kF (α:=Nat) (fun i=>⟨[(1,(.ref 0 0)),(3,(jS x.gs.length)),(4,(jS i))],[(0,some (bx (jX x)))]⟩) (fun i=>i<=x.gs.length/\Dig (x.gs.take i)) (fun i=>x.gs.length-i) 0 wk ⟨Nat.zero_le _,by rw[List.take_zero];exact nQ⟩ ?_
 rintro i ⟨hi,hd⟩
 refine jB<|jB<|kx [(10,(vb (decide (((i:Nat):Int)<((x.gs.length:Nat):Int)))))] [] (zM<|zM<|zE xK<|zZ) ?_
 refine jG rfl (fun h1=>?_) (fun h1=>?_)
 ·replace h1:=uV h1
  refine jC<|jB<|jH<|jB<|kx [(18,(vb (decide (1000000000<=(((x.gs.getD i 0):Nat):Int)))))] [] (zE (kV vR)<|zR (uE yD)<|zM<|zE (yE kO i (0:Nat))<|zE (yV uB)<|zE oGe<|zZ) ?_
  refine jG rfl (fun h2=>?_) (fun h2=>?_)
  ·replace h2:=uV h2
   refine jB<|kx [(2,(vb false))] [] (zM<|zZ) ?_
   refine jE ⟨_,(.tmp (d:=(.val (.bool (false)))) rfl .nil),?_⟩
   rw[validI_big (i:=i) (by omega) (by omega)];rfl
  ·replace h2:=vB h2
   refine jC<|kx [(4,(jS (i+1)))] [] (zM<|zE (vO (i+1))<|zM<|zZ) ?_
   exact ⟨(i+1),wk,⟨by omega,dig_take_succ (by omega) hd (by omega)⟩,(by first|omega|(dsimp only;omega))⟩
 ·replace h1:=vB h1
  have hie:i=x.gs.length:=by omega
  rw[hie,List.take_length] at hd
  refine kD<|jB<|jB<|kx [(20,(vb (((x.gs.length:Nat):Int) == 0)))] [] (zM<|zE xR<|zZ) ?_
  refine jG (b:=(((x.gs.length:Nat):Int) == 0)) rfl (fun h3=>?_) (fun h3=>?_)
  ·replace h3:=eq_of_beq h3
   refine jB<|kx [(2,(vb (!x.neg)))] [] (zE (kV vZ)<|zR (uE iP)<|zE gD<|zM<|zZ) ?_
   refine jE ⟨_,(.tmp (d:=(.val (.bool (!x.neg)))) rfl .nil),?_⟩
   rw[validI_nil (by omega)];rfl
  ·replace h3:=ne_of_beq_false h3
   refine jC<|jB<|kx [(2,(vb ((((x.gs.getD (x.gs.length-1) 0):Nat):Int) != 0)))] [] (zE (kV vR)<|zR (uE yD)<|zM<|zE (oSb (x.gs.length-1))<|zE (yE kO (x.gs.length-1) (0:Nat))<|zE (yV uB)<|zE mF<|zM<|zZ) ?_
   refine jE ⟨_,(.tmp (d:=(.val (.bool (((((x.gs.getD (x.gs.length-1) 0):Nat):Int) != 0))))) rfl .nil),?_⟩
   rw[validI_dig hd (by omega)];rfl
theorem eZ(x:qF)(hb:x.gs.length<=17592186044416):jO Tryz.prog 144 [(jX x)] (jX (kN (kG x))):=by
 refine qY Tryz.func144 ?_
 refine jB<|kx [(1,(.ref 0 0)),(2,(.ref 1 0))] [(0,some (bx (jX x))),(1,some (bx (jX (qF.mk false []))))] (zN (uU 0)<|zN (qR 1 gE gF)<|zZ) ?_
 refine jB<|jB<|kx [(5,(vb (!(vC x))))] [] (zR (kJ kC)<|zE (jV (r_valid x (by omega)))<|zE gD<|zZ) ?_
 refine jG (b:=!(vC x)) rfl (fun h1=>?_) (fun h1=>?_)
 ·refine jB<|kx [] [(1,some (bx (jX (qF.mk false []))))] (zE (eD pl43 gE gF)<|zT (qA kC)<|zZ) ?_
  refine jE ⟨_,(kI (cs:=(bx (jX (qF.mk false [])))) (d:=(jX (qF.mk false []))) rfl rfl kC rfl rfl .nil),?_⟩
  rw[toZ_bad (by rw[Bool.not_eq_true'] at h1;exact h1),ofZ_zero];rfl
 ·refine jC<|jB<|kd [] [(1,some (bx (jX (qF.mk x.neg x.gs))))] mo (wE (kV vZ)<|wR (uE iP)<|wE (oBe kO)<|wE (kV vR)<|wR (uE yD)<|wE (e_appe (by exact rfl) kO xB (by kernel_rfl) mI (by exact rfl) (by exact rfl) (by simp only[List.length_map,List.length_take,List.length_drop,List.length_append,List.length_cons,List.length_nil,maxLen];omega) (by simp only[List.length_map,List.length_take,List.length_drop,List.length_append,List.length_cons,List.length_nil];omega))<|wE (eD pl43 gE gF)<|wT (qA kC)<|wZ) ?_
  refine jE ⟨_,(kI (cs:=(bx (jX (qF.mk x.neg x.gs)))) (d:=(jX (qF.mk x.neg x.gs))) rfl rfl kC rfl rfl .nil),?_⟩
  rw[ofZ_toZ (by simpa using h1)];rfl
theorem r_of(n:Int)(hlo:-9223372036854775808<=n)(hhi:n<=9223372036854775807):jO Tryz.prog 153 [(.val (.int .i64 (n)))] (jX (kN n)):=by
 refine qY Tryz.func153 ?_
 refine jB<|kx [(2,(.ref 0 0))] [(0,some (bx (jX (qF.mk false []))))] (zN (qR 0 gE gF)<|zZ) ?_
 refine jB<|kx [(3,(nK ((n % 18446744073709551616).toNat)))] [] (zM<|zE (cM un3 gL ((n % 18446744073709551616).toNat) (hr:=by exact (conv_u64 _)))<|zM<|zZ) ?_
 refine jB<|jB<|kx [(8,(vb (decide (n<0))))] [] (zM<|zE xK<|zZ) ?_
 refine jG (b:=decide (n<0)) rfl (fun h1=>?_) (fun h1=>?_)
 ·replace h1:=uV h1
  refine kx [(3,(nK n.natAbs))] [] (zM<|zE (zAd (n+1))<|zE (oNg (-(n+1)))<|zE (cM un3 gL ((-n-1).toNat) (hr:=by exact (wu64 (by omega) (by omega) (by omega))))<|zE (vO n.natAbs)<|zM<|zZ) ?_
  refine jB<|kx [(4,(.own 1 140 1 0))] [(1,some (bm jD []))] (zN (oBo 1 kO xB yZ)<|zM<|zZ) ?_
  refine jB<|jH<|kF (α:=List Nat × Nat) (fun (o,m)=>⟨[(0,(vi n)),(2,(.ref 0 0)),(3,(nK m)),(4,(.own 1 140 1 o.length))],[(0,some (bx (jX (qF.mk false [])))),(1,some (bm jD o))]⟩) (fun (o,m)=>m<=9223372036854775808/\o++ofNat m=ofNat n.natAbs) (fun (o,m)=>m) ([],n.natAbs) wk ⟨by omega,by rw[List.nil_append]⟩ ?_
  rintro ⟨o,m⟩ ⟨hm,hg⟩
  have hl:=split_len hg (by omega)
  refine jB<|jB<|kx [(16,(vb (decide (0<((m:Nat):Int)))))] [] (zM<|zE hH<|zZ) ?_
  refine jG (b:=decide (0<((m:Nat):Int))) rfl (fun h2=>?_) (fun h2=>?_)
  ·replace h2:=uV h2
   refine jC<|jH<|jB<|kf [(4,(.own 1 140 1 ((o++[(m % 1000000000)]).length)))] [(1,some (bm jD (o++[(m % 1000000000)])))] (zM<|zM<|zE (oRe (m % 1000000000))<|zE (cM mB nO (m % 1000000000))<|zE (eE kO xB yZ)<|zA jD o [(m % 1000000000)] rfl kO xB mI<|zM<|zF) ?_
   refine kx [(3,(nK (m / 1000000000)))] [] (zM<|zE (oQu (m / 1000000000))<|zM<|zZ) ?_
   exact ⟨(o++[m % 1000000000],m / 1000000000),wk,⟨by omega,split_step hg h2⟩,(by first|omega|(dsimp only;omega))⟩
  ·replace h2:=vB h2
   have hdo:Dig o:=split_dig hg h2
   have hvo:=split_val hg h2
   refine kD<|jB<|kU (xC (t:=4) (k:=1) (es:=List.map jD o) rfl rfl (vD _ _ (fun _=>rfl)) (uW _ _ rfl) (xE _ _ (fun _=>rfl) rfl)) ?_
   refine kx [] [(0,some (bx (jX (xT (decide (n<0)) (val o)))))] (zM<|zE xK<|zM<|zE (jV (mL (decide (n<0)) o hdo (by omega)))<|zT (qA kC)<|zZ) ?_
   refine jE ⟨_,(kI (cs:=(bx (jX (xT (decide (n<0)) (val o))))) (d:=(jX (xT (decide (n<0)) (val o)))) rfl rfl kC rfl rfl .nil),?_⟩
   rw[hvo];rfl
 ·replace h1:=vB h1
  rw[show (n % 18446744073709551616).toNat=n.natAbs from by omega]
  refine jC<|jB<|kx [(3,(nK n.natAbs)),(4,(.own 2 140 1 0))] [(2,some (bm jD []))] (zN (oBo 2 kO xB yZ)<|zM<|zZ) ?_
  refine jB<|jH<|kF (α:=List Nat × Nat) (fun (o,m)=>⟨[(0,(vi n)),(2,(.ref 0 0)),(3,(nK m)),(4,(.own 2 140 1 o.length))],[(0,some (bx (jX (qF.mk false [])))),(2,some (bm jD o))]⟩) (fun (o,m)=>m<=9223372036854775808/\o++ofNat m=ofNat n.natAbs) (fun (o,m)=>m) ([],n.natAbs) wk ⟨by omega,by rw[List.nil_append]⟩ ?_
  rintro ⟨o,m⟩ ⟨hm,hg⟩
  have hl:=split_len hg (by omega)
  refine jB<|jB<|kx [(16,(vb (decide (0<((m:Nat):Int)))))] [] (zM<|zE hH<|zZ) ?_
  refine jG (b:=decide (0<((m:Nat):Int))) rfl (fun h3=>?_) (fun h3=>?_)
  ·replace h3:=uV h3
   refine jC<|jH<|jB<|kf [(4,(.own 2 140 1 ((o++[(m % 1000000000)]).length)))] [(2,some (bm jD (o++[(m % 1000000000)])))] (zM<|zM<|zE (oRe (m % 1000000000))<|zE (cM mB nO (m % 1000000000))<|zE (eE kO xB yZ)<|zA jD o [(m % 1000000000)] rfl kO xB mI<|zM<|zF) ?_
   refine kx [(3,(nK (m / 1000000000)))] [] (zM<|zE (oQu (m / 1000000000))<|zM<|zZ) ?_
   exact ⟨(o++[m % 1000000000],m / 1000000000),wk,⟨by omega,split_step hg h3⟩,(by first|omega|(dsimp only;omega))⟩
  ·replace h3:=vB h3
   have hdo:Dig o:=split_dig hg h3
   have hvo:=split_val hg h3
   refine kD<|jB<|kU (xC (t:=4) (k:=2) (es:=List.map jD o) rfl rfl (vD _ _ (fun _=>rfl)) (uW _ _ rfl) (xE _ _ (fun _=>rfl) rfl)) ?_
   refine kx [] [(0,some (bx (jX (xT (decide (n<0)) (val o)))))] (zM<|zE xK<|zM<|zE (jV (mL (decide (n<0)) o hdo (by omega)))<|zT (qA kC)<|zZ) ?_
   refine jE ⟨_,(kI (cs:=(bx (jX (xT (decide (n<0)) (val o))))) (d:=(jX (xT (decide (n<0)) (val o)))) rfl rfl kC rfl rfl .nil),?_⟩
   rw[hvo];rfl
theorem r_size(a b:List Nat)(ha:yW a)(hb:yW b)(hla:a.length<=17592186044416)(hlb:b.length<=17592186044416):jO Tryz.prog 155 [(.sl 140 1 (List.map jD a)),(.sl 140 1 (List.map jD b))] (.val (.int .i64 ((vK ((val a:Nat):Int) ((val b:Nat):Int))))):=by
 refine qY Tryz.func155 ?_
 refine jB<|kx [] [] (zM<|zZ) ?_
 refine jB<|jB<|kx [(10,(vb (((a.length:Nat):Int) != ((b.length:Nat):Int))))] [] (zM<|zE (vP kO)<|zM<|zE (vP kO)<|zE mF<|zZ) ?_
 refine jG rfl (fun h1=>?_) (fun h1=>?_)
 ·replace h1:=bne_iff_ne.1 h1
  refine jB<|jB<|kx [(15,(vb (decide (((a.length:Nat):Int)<((b.length:Nat):Int)))))] [] (zM<|zE (vP kO)<|zM<|zE (vP kO)<|zE xK<|zZ) ?_
  refine jG rfl (fun h2=>?_) (fun h2=>?_)
  ·replace h2:=uV h2
   refine jB<|kx [(4,(vi (-1)))] [] (zM<|zZ) ?_
   refine jE ⟨_,(.tmp (d:=(.val (.int .i64 (-1)))) rfl .nil),?_⟩
   rw[<- cmpI_len ha hb h1];unfold vK;rw[if_pos (by omega)];rfl
  ·replace h2:=vB h2
   refine jC<|jB<|kx [(4,(jS 1))] [] (zM<|zZ) ?_
   refine jE ⟨_,(.tmp (d:=(.val (.int .i64 (1)))) rfl .nil),?_⟩
   rw[<- cmpI_len ha hb h1,bY (by omega)];rfl
 ·replace h1:=bne_eq_false_iff_eq.1 h1
  have hl:a.length=b.length:=by omega
  refine jC<|jB<|jB<|kx [(5,(vi (((a.length:Nat):Int)-1)))] [] (zM<|zE (vP kO)<|zE (zSb (((a.length:Nat):Int)-1))<|zM<|zZ) ?_
  refine jH<|kF (α:=Nat) (fun k=>⟨[(0,(vl 140 1 jD a)),(1,(vl 140 1 jD b)),(5,(vi (((k:Nat):Int)-1)))],[]⟩) (fun k=>k<=a.length/\val (a.drop k)=val (b.drop k)) (fun k=>k) a.length wk ⟨Nat.le_refl _,by rw[List.drop_length,hl,List.drop_length]⟩ ?_
  rintro k ⟨hk,he⟩
  refine jB<|jB<|kx [(20,(vb (decide (0<=(((k:Nat):Int)-1)))))] [] (zM<|zE oGe<|zZ) ?_
  refine jG (b:=decide (0<=(((k:Nat):Int)-1))) rfl (fun h3=>?_) (fun h3=>?_)
  ·replace h3:=uV h3
   obtain ⟨i,rfl⟩:∃ i,k=i+1:=⟨k-1,by omega⟩
   rw[show (((i+1:Nat):Int)-1)=((i:Nat):Int) from by omega]
   have ht:=cmpI_top ha.1 hb.1 hl (j:=a.length-1-i) (by omega) (by rw[show a.length-(a.length-1-i)=i+1 by omega];exact he)
   rw[show a.length-1-(a.length-1-i)=i by omega] at ht
   refine jC<|jB<|jH<|jB<|jB<|kd [(5,(jS i)),(31,(vb (decide ((((a.getD i 0):Nat):Int)<(((b.getD i 0):Nat):Int)))))] [] mo (wM<|wM<|wE (yE kO i (0:Nat))<|wE (yV uB)<|wM<|wM<|wE (yE kO i (0:Nat))<|wE (yV uB)<|wE xK<|wZ) ?_
   refine jG rfl (fun h4=>?_) (fun h4=>?_)
   ·replace h4:=uV h4
    refine jB<|kx [(4,(vi (-1)))] [] (zM<|zZ) ?_
    refine jE ⟨_,(.tmp (d:=(.val (.int .i64 (-1)))) rfl .nil),?_⟩
    rw[<- ht (by omega)];unfold vK;rw[if_pos (by omega)];rfl
   ·replace h4:=vB h4
    refine jC<|jB<|kd [(40,(vb (decide ((((b.getD i 0):Nat):Int)<(((a.getD i 0):Nat):Int)))))] [] mo (wM<|wM<|wE (yE kO i (0:Nat))<|wE (yV uB)<|wM<|wM<|wE (yE kO i (0:Nat))<|wE (yV uB)<|wE hH<|wZ) ?_
    refine jG rfl (fun h5=>?_) (fun h5=>?_)
    ·replace h5:=uV h5
     refine jB<|kx [(4,(jS 1))] [] (zM<|zZ) ?_
     refine jE ⟨_,(.tmp (d:=(.val (.int .i64 (1)))) rfl .nil),?_⟩
     rw[<- ht (by omega),bY (by omega)];rfl
    ·replace h5:=vB h5
     refine jC<|kx [(5,(vi (((i:Nat):Int)-1)))] [] (zM<|zE (zSb (((i:Nat):Int)-1))<|zM<|zZ) ?_
     exact ⟨i,wk,⟨by omega,by rw[zP a i,zP b i,he];omega⟩,(by first|omega|(dsimp only;omega))⟩
  ·replace h3:=vB h3
   obtain rfl:k=0:=by omega
   rw[List.drop_zero,List.drop_zero] at he
   refine kD<|jB<|kx [(4,(jS 0))] [] (zM<|zZ) ?_
   refine jE ⟨_,(.tmp (d:=(.val (.int .i64 (0)))) rfl .nil),?_⟩
   rw[cmpI_same he];rfl
theorem r_plus(a b:List Nat)(hda:Dig a)(hdb:Dig b)(hla:a.length<=8796093022208)(hlb:b.length<=8796093022208):jO Tryz.prog 154 [(.sl 140 1 (List.map jD a)),(.sl 140 1 (List.map jD b))] (.sl 140 1 (List.map jD (ofNat (val a+val b)))):=by
 refine qY Tryz.func154 ?_
 refine jB<|kx [] [] (zE (aZ 140 1)<|zZ) ?_
 refine jB<|kx [(5,(.own 0 140 1 0))] [(0,some (bm jD []))] (zN (oBo 0 kO xB yZ)<|zM<|zZ) ?_
 refine jB<|kx [(6,(nK 0))] [] (zM<|zZ) ?_
 refine jB<|jB<|kx [(7,(jS 0))] [] (zM<|zZ) ?_
 refine jH<|kF (α:=Nat × List Nat × Nat) (fun (i,o,c)=>⟨[(0,(vl 140 1 jD a)),(1,(vl 140 1 jD b)),(5,(.own 0 140 1 o.length)),(6,(nK c)),(7,(jS i))],[(0,some (bm jD o))]⟩) (fun (i,o,c)=>o.length=i/\Dig o/\i<=max a.length b.length/\c<=1/\val o+pw i*c=val (a.take i)+val (b.take i)) (fun (i,o,c)=>max a.length b.length-i) (0,[],0) wk ⟨rfl,nQ,Nat.zero_le _,Nat.zero_le _,by simp [val]⟩ ?_
 rintro ⟨i,o,c⟩ ⟨hl,hd,hi,hc,hv⟩
 have hai:=hda.getD i
 have hbi:=hdb.getD i
 refine jB<|jB<|kx [(19,(vb (decide (((i:Nat):Int)<((a.length:Nat):Int))||decide (((i:Nat):Int)<((b.length:Nat):Int)))))] [] ?_ ?_
 ·refine zM<|zM<|zE (vP kO)<|zE xK<|zE (oV (vb (decide (((i:Nat):Int)<((a.length:Nat):Int)))) (qC (by kernel_rfl)))<|?_
  rcases hb1:(decide (((i:Nat):Int)<((a.length:Nat):Int))) with _ | _
  ·replace hb1:=vB hb1
   exact zM<|zM<|zE (vP kO)<|zE xK<|zE dG<|zZ
  ·replace hb1:=uV hb1
   exact zK<|zK<|zK<|zK<|zE yR<|zZ
 refine jG rfl (fun h2=>?_) (fun h2=>?_)
 ·rw[Bool.or_eq_true,decide_eq_true_eq,decide_eq_true_eq] at h2
  refine jC<|jB<|jH<|jB<|kx [(8,(nK (((a.getD i 0)+(b.getD i 0))+c)))] [] (zM<|zM<|zE (jV (bW a i (by first | assumption | exact kP _ | exact (qO _).1 | exact (qV _).1)))<|zM<|zM<|zE (jV (bW b i (by first | assumption | exact kP _ | exact (qO _).1 | exact (qV _).1)))<|zE (vO ((a.getD i 0)+(b.getD i 0)))<|zM<|zE (vO (((a.getD i 0)+(b.getD i 0))+c))<|zM<|zZ) ?_
  refine jB<|kf [(5,(.own 0 140 1 ((o++[((((a.getD i 0)+(b.getD i 0))+c) % 1000000000)]).length)))] [(0,some (bm jD (o++[((((a.getD i 0)+(b.getD i 0))+c) % 1000000000)])))] (zM<|zM<|zE (oRe ((((a.getD i 0)+(b.getD i 0))+c) % 1000000000))<|zE (cM mB nO ((((a.getD i 0)+(b.getD i 0))+c) % 1000000000))<|zE (eE kO xB yZ)<|zA jD o [((((a.getD i 0)+(b.getD i 0))+c) % 1000000000)] rfl kO xB mI<|zM<|zF) ?_
  refine kx [(6,(nK ((((a.getD i 0)+(b.getD i 0))+c) / 1000000000)))] [] (zM<|zE (oQu ((((a.getD i 0)+(b.getD i 0))+c) / 1000000000))<|zM<|zZ) ?_
  refine kx [(7,(jS (i+1)))] [] (zM<|zE (vO (i+1))<|zM<|zZ) ?_
  exact ⟨(i+1,o++[(a.getD i 0+b.getD i 0+c) % 1000000000],(a.getD i 0+b.getD i 0+c) / 1000000000),wk,⟨by simp [hl],dig_push hd (Nat.mod_lt _ (by decide)),by omega,by omega,rplus_step hl hv rfl⟩,(by first|omega|(dsimp only;omega))⟩
 ·rw[Bool.or_eq_false_iff,decide_eq_false_iff_not,decide_eq_false_iff_not] at h2
  rw[take_all (by omega),take_all (by omega)] at hv
  have hp:=val_push (c:=c) hl
  refine kD<|jB<|kf [(4,(vl 140 1 jD (ofNat (val (o++[c]))))),(5,.junk)] [(0,none)] (zM<|zM<|zE (cM mB nO c)<|zE (eE kO xB yZ)<|zAQ jD o [c] rfl kO xB mI<|zE (jV (mL false (o++[c]) (dig_push hd (by omega)) (by simp only[List.length_append,List.length_cons,List.length_nil];omega)))<|zE (oF1 iD yD)<|zM<|zF) ?_
  refine jE ⟨_,(.tmp (d:=(.sl 140 1 (List.map jD (ofNat (val (o++[c])))))) rfl .nil),?_⟩
  rw[hp,hv];rfl
theorem r_minus(a b:List Nat)(hda:Dig a)(hdb:Dig b)(hba:val b<=val a)(hla:a.length<=8796093022208):jO Tryz.prog 156 [(.sl 140 1 (List.map jD a)),(.sl 140 1 (List.map jD b))] (.sl 140 1 (List.map jD (ofNat (val a-val b)))):=by
 refine qY Tryz.func156 ?_
 refine jB<|kx [] [] (zE (aZ 140 1)<|zZ) ?_
 refine jB<|kx [(5,(.own 0 140 1 0))] [(0,some (bm jD []))] (zN (oBo 0 kO xB yZ)<|zM<|zZ) ?_
 refine jB<|kx [(6,(nK 0))] [] (zM<|zZ) ?_
 refine jB<|jB<|kx [(7,(jS 0))] [] (zM<|zZ) ?_
 refine jH<|kF (α:=Nat × List Nat × Nat) (fun (i,o,c)=>⟨[(0,(vl 140 1 jD a)),(1,(vl 140 1 jD b)),(5,(.own 0 140 1 o.length)),(6,(nK c)),(7,(jS i))],[(0,some (bm jD o))]⟩) (fun (i,o,c)=>o.length=i/\Dig o/\i<=a.length/\c<=1/\val o+val (b.take i)=val (a.take i)+pw i*c) (fun (i,o,c)=>a.length-i) (0,[],0) wk ⟨rfl,nQ,Nat.zero_le _,Nat.zero_le _,by simp [val]⟩ ?_
 rintro ⟨i,o,c⟩ ⟨hl,hd,hi,hc,hv⟩
 have hai:=hda.getD i
 have hbi:=hdb.getD i
 refine jB<|jB<|kx [(13,(vb (decide (((i:Nat):Int)<((a.length:Nat):Int)))))] [] (zM<|zM<|zE (vP kO)<|zE xK<|zZ) ?_
 refine jG rfl (fun h1=>?_) (fun h1=>?_)
 ·replace h1:=uV h1
  refine jC<|jB<|jH<|jB<|kx [(8,(nK (((1000000000+(a.getD i 0))-(b.getD i 0))-c)))] [] (zM<|zM<|zE (jV (bW a i (by first | assumption | exact kP _ | exact (qO _).1 | exact (qV _).1)))<|zE (vO (1000000000+(a.getD i 0)))<|zM<|zM<|zE (jV (bW b i (by first | assumption | exact kP _ | exact (qO _).1 | exact (qV _).1)))<|zE (oSb ((1000000000+(a.getD i 0))-(b.getD i 0)))<|zM<|zE (oSb (((1000000000+(a.getD i 0))-(b.getD i 0))-c))<|zM<|zZ) ?_
  refine jB<|kf [(5,(.own 0 140 1 ((o++[((((1000000000+(a.getD i 0))-(b.getD i 0))-c) % 1000000000)]).length)))] [(0,some (bm jD (o++[((((1000000000+(a.getD i 0))-(b.getD i 0))-c) % 1000000000)])))] (zM<|zM<|zE (oRe ((((1000000000+(a.getD i 0))-(b.getD i 0))-c) % 1000000000))<|zE (cM mB nO ((((1000000000+(a.getD i 0))-(b.getD i 0))-c) % 1000000000))<|zE (eE kO xB yZ)<|zA jD o [((((1000000000+(a.getD i 0))-(b.getD i 0))-c) % 1000000000)] rfl kO xB mI<|zM<|zF) ?_
  refine kx [(6,(nK (1-((((1000000000+(a.getD i 0))-(b.getD i 0))-c) / 1000000000))))] [] (zM<|zE (oQu ((((1000000000+(a.getD i 0))-(b.getD i 0))-c) / 1000000000))<|zE (oSb (1-((((1000000000+(a.getD i 0))-(b.getD i 0))-c) / 1000000000)))<|zM<|zZ) ?_
  refine kx [(7,(jS (i+1)))] [] (zM<|zE (vO (i+1))<|zM<|zZ) ?_
  exact ⟨(i+1,o++[(1000000000+a.getD i 0-b.getD i 0-c) % 1000000000],1-(1000000000+a.getD i 0-b.getD i 0-c) / 1000000000),wk,⟨by simp [hl],dig_push hd (Nat.mod_lt _ (by decide)),by omega,by omega,rminus_step hl hv (by omega) (by omega)⟩,(by first|omega|(dsimp only;omega))⟩
 ·replace h1:=vB h1
  have hie:i=a.length:=by omega
  refine kD<|jB<|kU (xC (t:=5) (k:=0) (es:=List.map jD o) rfl rfl (vD _ _ (fun _=>rfl)) (uW _ _ rfl) (xE _ _ (fun _=>rfl) rfl)) ?_
  refine kx [(4,(vl 140 1 jD (ofNat (val o))))] [] (zM<|zE (jV (mL false o hd (by omega)))<|zE (oF1 iD yD)<|zM<|zZ) ?_
  refine jE ⟨_,(.tmp (d:=(.sl 140 1 (List.map jD (ofNat (val o))))) rfl .nil),?_⟩
  rw[rminus_end hda hdb hd hie hl hba hv];rfl
theorem r_scaled(a:List Nat)(d:Nat)(hda:Dig a)(hd1:d<=1000000000)(hla:a.length<=8796093022208):jO Tryz.prog 241 [(.sl 140 1 (List.map jD a)),(.val (.int .u64 (((d:Nat):Int))))] (.sl 140 1 (List.map jD (ofNat (val a*d)))):=by
 refine qY Tryz.func241 ?_
 refine jB<|kx [] [] (zE (aZ 140 1)<|zZ) ?_
 refine jB<|kx [(5,(.own 0 140 1 0))] [(0,some (bm jD []))] (zN (oBo 0 kO xB yZ)<|zM<|zZ) ?_
 refine jB<|kx [(6,(nK 0))] [] (zM<|zZ) ?_
 refine jB<|jB<|kx [(7,(jS 0))] [] (zM<|zZ) ?_
 refine jH<|kF (α:=Nat × List Nat × Nat) (fun (i,o,c)=>⟨[(0,(vl 140 1 jD a)),(1,(nK d)),(5,(.own 0 140 1 o.length)),(6,(nK c)),(7,(jS i))],[(0,some (bm jD o))]⟩) (fun (i,o,c)=>o.length=i/\Dig o/\i<=a.length/\c<=999999999/\val o+pw i*c=val (a.take i)*d) (fun (i,o,c)=>a.length-i) (0,[],0) wk ⟨rfl,nQ,Nat.zero_le _,Nat.zero_le _,by simp [val]⟩ ?_
 rintro ⟨i,o,c⟩ ⟨hl,hd,hi,hc,hv⟩
 have hai:=hda.getD i
 have hpq:a.getD i 0*d<=999999999*1000000000:=Nat.mul_le_mul (by omega) hd1
 refine jB<|jB<|kx [(13,(vb (decide (((i:Nat):Int)<((a.length:Nat):Int)))))] [] (zM<|zM<|zE (vP kO)<|zE xK<|zZ) ?_
 refine jG rfl (fun h1=>?_) (fun h1=>?_)
 ·replace h1:=uV h1
  refine jC<|jB<|jH<|jB<|kx [(8,(nK (((a.getD i 0)*d)+c)))] [] (zM<|zM<|zE (yE kO i (0:Nat))<|zE (yV uB)<|zE (cM gN gL (a.getD i 0))<|zM<|zE (oMl ((a.getD i 0)*d))<|zM<|zE (vO (((a.getD i 0)*d)+c))<|zM<|zZ) ?_
  refine jB<|kf [(5,(.own 0 140 1 ((o++[((((a.getD i 0)*d)+c) % 1000000000)]).length)))] [(0,some (bm jD (o++[((((a.getD i 0)*d)+c) % 1000000000)])))] (zM<|zM<|zE (oRe ((((a.getD i 0)*d)+c) % 1000000000))<|zE (cM mB nO ((((a.getD i 0)*d)+c) % 1000000000))<|zE (eE kO xB yZ)<|zA jD o [((((a.getD i 0)*d)+c) % 1000000000)] rfl kO xB mI<|zM<|zF) ?_
  refine kx [(6,(nK ((((a.getD i 0)*d)+c) / 1000000000)))] [] (zM<|zE (oQu ((((a.getD i 0)*d)+c) / 1000000000))<|zM<|zZ) ?_
  refine kx [(7,(jS (i+1)))] [] (zM<|zE (vO (i+1))<|zM<|zZ) ?_
  exact ⟨(i+1,o++[(a.getD i 0*d+c) % 1000000000],(a.getD i 0*d+c) / 1000000000),wk,⟨by simp [hl],dig_push hd (Nat.mod_lt _ (by decide)),by omega,by omega,rscaled_step hl hv rfl⟩,(by first|omega|(dsimp only;omega))⟩
 ·replace h1:=vB h1
  have hie:i=a.length:=by omega
  rw[take_all (by omega)] at hv
  have hp:=val_push (c:=c) hl
  refine kD<|jB<|kf [(4,(vl 140 1 jD (ofNat (val (o++[c]))))),(5,.junk)] [(0,none)] (zM<|zM<|zE (cM mB nO c)<|zE (eE kO xB yZ)<|zAQ jD o [c] rfl kO xB mI<|zE (jV (mL false (o++[c]) (dig_push hd (by omega)) (by simp only[List.length_append,List.length_cons,List.length_nil];omega)))<|zE (oF1 iD yD)<|zM<|zF) ?_
  refine jE ⟨_,(.tmp (d:=(.sl 140 1 (List.map jD (ofNat (val (o++[c])))))) rfl .nil),?_⟩
  rw[hp,hv];rfl
theorem r_shifted(a:List Nat)(d:Nat)(hda:Dig a)(hd1:d<1000000000)(hla:a.length<=8796093022208):jO Tryz.prog 242 [(.sl 140 1 (List.map jD a)),(.val (.int .u32 (((d:Nat):Int))))] (.sl 140 1 (List.map jD (ofNat (d+1000000000*val a)))):=by
 refine qY Tryz.func242 ?_
 refine jB<|kx [] [] (zE (aZ 140 1)<|zZ) ?_
 refine jB<|kf [(4,(vl 140 1 jD (ofNat (val ([d]++a)))))] [(0,none)] (zM<|zN (oBo 0 kO xB yZ)<|zM<|zAQ jD [d] a rfl kO xB mI<|zE (jV (mL false ([d]++a) (lJ.2 ⟨gX.2 ⟨hd1,nQ⟩,hda⟩) (by simp only[List.length_append,List.length_cons,List.length_nil];omega)))<|zE (oF1 iD yD)<|zM<|zF) ?_
 refine jE ⟨_,(.tmp (d:=(.sl 140 1 (List.map jD (ofNat (val ([d]++a)))))) rfl .nil),?_⟩
 rfl
end Go.Proofs.YtnajallgoaiahaaGreatDoor
