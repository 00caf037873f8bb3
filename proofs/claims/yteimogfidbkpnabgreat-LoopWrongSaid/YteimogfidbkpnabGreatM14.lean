/- Part 14 of a proof: rules, plain facts, and functions walked. -/
import Derived.Test.YteimogfidbkpnabGreatM7
import Derived.Test.YteimogfidbkpnabGreatChecked
import Derived.RangeFuncBox
import Derived.Shelf.Abstract
import Derived.OwnWalkIn
import Derived.TacticsInMore
import Derived.LoopNIn
import Derived.LoopIn
import Derived.Test.YteimogfidbkpnabGreatM13
import Derived.Test.YteimogfidbkpnabGreatM9
import Derived.Test.YteimogfidbkpnabGreatM10
set_option linter.all false
set_option maxRecDepth 4000
namespace Go.Proofs.YteimogfidbkpnabGreat
open Go.RowKit Go.Shelf
attribute [local go_sem] Oper.semAt_some
set_option maxRecDepth 100000 in
set_option maxHeartbeats 2000000 in
theorem back1(N l Bs b off len cap:Nat)(u:Nat→Value)(qP:(len:Int)≤9223372036854775807)(J:Nat→World→Prop)(Jx:World→Prop)
  (hc:∀ j W,J j W→W.cell? ⟨Bs,0,none⟩=some (.slice (some ⟨b,off,none⟩) len cap)∧∀ i,i<len→W.cell? ⟨b,off+i,none⟩=some (u i))
  (hY:∀ j W,J j W→j<len→YieldAt Fence.wide N Tryz.prog l #[.int .i64 ((len:Int)-1-(j:Int)),u (len-1-j)] W fun e W'=>
   (e=.returned (.bool true)∧J (j+1) W')∨(e=.returned (.bool false)∧Jx W'))
  (W:World) (h0:J 0 W) :
  CallsIn Fence.wide (N+1) Tryz.prog 107 #[.func (.yield l) #[] #[],.pointer (some ⟨Bs,0,none⟩)] W fun e W'=>(∃ v,e=.returned v)∧(J len W'∨Jx W'):=by
 refine callsIn_of_wp Tryz.func107 rfl trivial ?_ rfl
 simp only[Tryz.ntmps107,List.size_toArray,List.length_cons,List.length_nil,Nat.reduceAdd,Nat.reduceSub,Array.replicate_succ,Array.replicate_zero,List.push_toArray,List.append_toArray,List.nil_append,List.cons_append]
 have hBs:=(hc 0 W h0).1
 gi_wp2
 gi_loopw [3] (fun i wr=>∃ j:Nat,j≤len∧i=.int .i64 ((len:Int)-1-(j:Int))∧J j wr)
  (fun i _=>(intOf i+1).toNat)
 case atStart=>exact ⟨0,Nat.zero_le _,by simp,h0⟩
 case round=>
  obtain ⟨j,hk,rfl,hJs⟩:=hrel
  have hBj:=(hc j wr hJs).1
  by_cases hlt:j<len
  ·have hcj:=(hc j wr hJs).2 (len-1-j) (by omega)
   obtain ⟨fn,tmps,assign,body,hy,hR⟩:=hY j wr hJs hlt
   gi_wp2
   refine hR.mono ?_
   rintro e W3 (⟨rfl,hJ3⟩ | ⟨rfl,hJx3⟩)
   ·gi_wp2
    go_roundw
    case rel=>exact ⟨j+1,by omega,by simp;omega,hJ3⟩
    case measure=>simp [intOf];omega
   ·gi_wp2
    refine bodyPost_ret (results_none rfl _ _ _) rfl ?_
    exact ⟨⟨_,rfl⟩,.inr hJx3⟩
  ·obtain rfl:j=len:=by omega
   gi_wp2
   go_end0
   exact ⟨⟨_,rfl⟩,.inl hJs⟩
set_option maxRecDepth 100000 in
set_option maxHeartbeats 2000000 in
theorem back1_nil(N l Bs cap:Nat)(ao:Option Addr)(J:World→Prop)(W:World)(hBs:W.cell? ⟨Bs,0,none⟩=some (.slice ao 0 cap))(h0:J W) :
  CallsIn Fence.wide (N+1) Tryz.prog 107 #[.func (.yield l) #[] #[],.pointer (some ⟨Bs,0,none⟩)] W fun e W'=>(∃ v,e=.returned v)∧J W':=by
 refine callsIn_of_wp Tryz.func107 rfl trivial ?_ rfl
 simp only[Tryz.ntmps107,List.size_toArray,List.length_cons,List.length_nil,Nat.reduceAdd,Nat.reduceSub,Array.replicate_succ,Array.replicate_zero,List.push_toArray,List.append_toArray,List.nil_append,List.cons_append]
 gi_wp2
 gi_loopw [3] (fun i wr=>i=.int .i64 (-1)∧J wr) (fun _ _=>0)
 case atStart=>exact ⟨by simp,h0⟩
 case round=>
  obtain ⟨rfl,hJs⟩:=hrel
  gi_wp2
  go_end0
  exact ⟨⟨_,rfl⟩,hJs⟩
set_option maxHeartbeats 1000000 in
theorem back_in(a:Option Addr)(len cap:Nat)(w:World) :
  Calls Tryz.prog 92 #[.slice a len cap] w fun e w'=>e=.returned (.func (.func 107) #[] #[.pointer (some ⟨w.heap.size,0,none⟩)])∧w'=w.alloc (.cells #[.slice a len cap] 40):=by
 refine (callsIn_wide (n:=1)).1 (callsIn_of_wp Tryz.func92 rfl trivial ?_ rfl)
 simp only[Tryz.ntmps92,List.size_toArray,List.length_cons,List.length_nil,Nat.reduceAdd,Nat.reduceSub,Array.replicate_succ,Array.replicate_zero,List.push_toArray,List.append_toArray,List.nil_append,List.cons_append]
 gi_wp2
 go_ret
 exact ⟨rfl,rfl⟩
theorem backs:Go.Fid.Backs Tryz.prog 92 107 40:=⟨back_in,back1_nil,fun N l c b off len cap u qP J Jx hc hY W h0=>back1 N l c b off len cap u qP J Jx hc hY W h0,enters_of Tryz.func107 (by kernel_rfl) rfl⟩
open Go.Fid
theorem cb70:callB Tryz.prog 70=true:=by kernel_rfl
theorem cb71:callB Tryz.prog 71=true:=by kernel_rfl
theorem cb72:callB Tryz.prog 72=true:=by kernel_rfl
theorem cb73:callB Tryz.prog 73=true:=by kernel_rfl
theorem cb74:callB Tryz.prog 74=true:=by kernel_rfl
theorem cb91:callB Tryz.prog 91=true:=by kernel_rfl
theorem cb92:callB Tryz.prog 92=true:=by kernel_rfl
theorem cb93:callB Tryz.prog 93=true:=by kernel_rfl
theorem cb108:callB Tryz.prog 108=true:=by kernel_rfl
theorem pl42:fU Tryz.prog 42=some [(0,1),(1,1)]:=by kernel_rfl
theorem qF:kS Tryz.prog 3=some (false,1):=by kernel_rfl
theorem xB:kS Tryz.prog 40=some (false,1):=by kernel_rfl
theorem jL:kS Tryz.prog 42=some (true,2):=by kernel_rfl
theorem cY:kS Tryz.prog 109=some (false,1):=by kernel_rfl
theorem ze3:uZ Tryz.prog 3=some [.int .i64 0]:=by kernel_rfl
theorem uH:uZ Tryz.prog 42=some [.bool false,.slice none 0 0]:=by kernel_rfl
theorem ze109:uZ Tryz.prog 109=some [.int .u64 0]:=by kernel_rfl
theorem zo3:mW [.int .i64 0] [.val (.int .i64 0)]:=by simp [mW,Value.oneCell']
theorem uI:mW [.bool false,.slice none 0 0] [.val (.bool false),.sl 103 1 []]:=by simp [mW,Value.oneCell']
theorem zo109:mW [.int .u64 0] [.val (.int .u64 0)]:=by simp [mW,Value.oneCell']
theorem t_isnan_int(a:Int):kB Tryz.prog 91 [(.val (.int .i64 (a)))] (.val (.bool (false))):=by
 refine jK Tryz.func91 rfl cb91 rfl ?_
 show qU _ _ _ _ ⟨[(0,(vi a))],[]⟩
 refine jA<|kx [] [] (zM<|zZ) ?_
 refine jA<|kx [(2,(vb (a != a)))] [] (zM<|zM<|zE fO<|zM<|zZ) ?_
 refine jI ⟨_,(.tmp (d:=(.val (.bool ((a != a))))) rfl .nil),?_⟩
 simp [retD]
theorem t_cmp_int(a b:Int):kB Tryz.prog 70 [(.val (.int .i64 (a))),(.val (.int .i64 (b)))] (.val (.int .i64 ((qY a b)))):=by
 refine jK Tryz.func70 rfl cb70 rfl ?_
 show qU _ _ _ _ ⟨[(0,(vi a)),(1,(vi b))],[]⟩
 refine jA<|kx [] [] (zM<|zZ) ?_
 refine jA<|kx [(5,(vb false))] [] (zM<|zE (kE (t_isnan_int a))<|zM<|zZ) ?_
 refine jA<|kx [(6,(vb false))] [] (zM<|zE (kE (t_isnan_int b))<|zM<|zZ) ?_
 refine jA<|jA<|kx [(11,(vb false))] [] (zM<|zZ) ?_
 refine qZ ?_
 refine jE<|jA<|jA<|kx [(13,(vb false))] [] (zM<|zZ) ?_
 refine qZ ?_
 refine jE<|jA<|jA<|kx [(16,(vb (decide (a<b))))] [] (zM<|zM<|zE uM<|zZ) ?_
 refine jG (b:=decide (a<b)) rfl (fun h1=>?_) (fun h1=>?_)
 ·replace h1:=uW h1
  refine jA<|kx [(4,(vi (-1)))] [] (zM<|zZ) ?_
  refine jI ⟨_,(.tmp (d:=(.val (.int .i64 (-1)))) rfl .nil),?_⟩
  rw[show qY a b=-1 from if_pos h1];rfl
 ·replace h1:=uY h1
  refine jE<|jA<|jA<|kx [(19,(vb (decide (b<a))))] [] (zM<|zM<|zE cK<|zZ) ?_
  refine jG (b:=decide (b<a)) rfl (fun h2=>?_) (fun h2=>?_)
  ·replace h2:=uW h2
   refine jA<|kx [(4,(jT 1))] [] (zM<|zZ) ?_
   refine jI ⟨_,(.tmp (d:=(.val (.int .i64 (1)))) rfl .nil),?_⟩
   rw[cO h2];rfl
  ·replace h2:=uY h2
   refine jE<|jA<|kx [(4,(jT 0))] [] (zM<|zZ) ?_
   refine jI ⟨_,(.tmp (d:=(.val (.int .i64 (0)))) rfl .nil),?_⟩
   rw[cmpI_eq h1 h2];rfl
theorem t_isnan_uint32(a:Nat):kB Tryz.prog 108 [(.val (.int .u32 (((a:Nat):Int))))] (.val (.bool (false))):=by
 refine jK Tryz.func108 rfl cb108 rfl ?_
 show qU _ _ _ _ ⟨[(0,(dD a))],[]⟩
 refine jA<|kx [] [] (zM<|zZ) ?_
 refine jA<|kx [(2,(vb (((a:Nat):Int) != ((a:Nat):Int))))] [] (zM<|zM<|zE fO<|zM<|zZ) ?_
 refine jI ⟨_,(.tmp (d:=(.val (.bool ((((a:Nat):Int) != ((a:Nat):Int)))))) rfl .nil),?_⟩
 simp [retD]
theorem t_cmp_uint32(a b:Nat):kB Tryz.prog 93 [(.val (.int .u32 (((a:Nat):Int)))),(.val (.int .u32 (((b:Nat):Int))))] (.val (.int .i64 ((qY ((a:Nat):Int) ((b:Nat):Int))))):=by
 refine jK Tryz.func93 rfl cb93 rfl ?_
 show qU _ _ _ _ ⟨[(0,(dD a)),(1,(dD b))],[]⟩
 refine jA<|kx [] [] (zM<|zZ) ?_
 refine jA<|kx [(5,(vb false))] [] (zM<|zE (kE (t_isnan_uint32 a))<|zM<|zZ) ?_
 refine jA<|kx [(6,(vb false))] [] (zM<|zE (kE (t_isnan_uint32 b))<|zM<|zZ) ?_
 refine jA<|jA<|kx [(11,(vb false))] [] (zM<|zZ) ?_
 refine qZ ?_
 refine jE<|jA<|jA<|kx [(13,(vb false))] [] (zM<|zZ) ?_
 refine qZ ?_
 refine jE<|jA<|jA<|kx [(16,(vb (decide (((a:Nat):Int)<((b:Nat):Int)))))] [] (zM<|zM<|zE uM<|zZ) ?_
 refine jG rfl (fun h1=>?_) (fun h1=>?_)
 ·replace h1:=uW h1
  refine jA<|kx [(4,(vi (-1)))] [] (zM<|zZ) ?_
  refine jI ⟨_,(.tmp (d:=(.val (.int .i64 (-1)))) rfl .nil),?_⟩
  rw[show qY ((a:Nat):Int) ((b:Nat):Int)=-1 from if_pos h1];rfl
 ·replace h1:=uY h1
  refine jE<|jA<|jA<|kx [(19,(vb (decide (((b:Nat):Int)<((a:Nat):Int)))))] [] (zM<|zM<|zE cK<|zZ) ?_
  refine jG rfl (fun h2=>?_) (fun h2=>?_)
  ·replace h2:=uW h2
   refine jA<|kx [(4,(jT 1))] [] (zM<|zZ) ?_
   refine jI ⟨_,(.tmp (d:=(.val (.int .i64 (1)))) rfl .nil),?_⟩
   rw[cO h2];rfl
  ·replace h2:=uY h2
   refine jE<|jA<|kx [(4,(jT 0))] [] (zM<|zZ) ?_
   refine jI ⟨_,(.tmp (d:=(.val (.int .i64 (0)))) rfl .nil),?_⟩
   rw[cmpI_eq h1 h2];rfl
theorem mH(neg:Bool)(l:List Nat)(hd:Dig l)(hb:l.length≤17592186044416):kB Tryz.prog 73 [(.val (.bool (neg))),(.sl 103 1 (List.map jD l))] (jJ (vE neg (val l))):=by
 refine jK Tryz.func73 rfl cb73 rfl ?_
 show qU _ _ _ _ ⟨[(0,(vb neg)),(1,(vl 103 1 jD l))],[]⟩
 refine jA<|kx [(4,(.ref 0 0))] [(0,some (bx (jJ (kJ.mk false []))))] (zN (uQ 0 uH uI)<|zZ) ?_
 refine jA<|kx [(1,(vl 103 1 jD (ofNat (val l))))] [] (zM<|zE (kE (t_trim l (by assumption) (by omega)))<|zM<|zZ) ?_
 refine jA<|jA<|kx [(9,(vb ((((ofNat (val l)).length:Nat):Int) == 0)))] [] (zM<|zE (xD kC (L:=(ofNat (val l))))<|zE gX<|zZ) ?_
 refine jG rfl (fun h1=>?_) (fun h1=>?_)
 ·replace h1:=eq_of_beq h1
  refine jA<|kx [] [(0,some (bx (jJ (kJ.mk false []))))] (zE (eQ pl42 uH uI)<|zT (qA jL)<|zZ) ?_
  refine jI ⟨_,(kQ (cs:=(bx (jJ (kJ.mk false [])))) (d:=(jJ (kJ.mk false []))) rfl rfl jL rfl rfl .nil),?_⟩
  rw[mkI_zero h1];rfl
 ·replace h1:=ne_of_beq_false h1
  refine jE<|jA<|kx [] [(0,some (bx (jJ (kJ.mk neg (ofNat (val l))))))] (zM<|zM<|zE (eQ pl42 uH uI)<|zT (qA jL)<|zZ) ?_
  refine jI ⟨_,(kQ (cs:=(bx (jJ (kJ.mk neg (ofNat (val l)))))) (d:=(jJ (kJ.mk neg (ofNat (val l))))) rfl rfl jL rfl rfl .nil),?_⟩
  rw[mkI_pos h1];rfl
theorem t_word(l:List Nat)(hd:Dig l):kB Tryz.prog 72 [(.sl 103 1 (List.map jD l))] (.tup [(.val (.int .u64 ((((xH l):Nat):Int)))),(.val (.bool ((gK l))))]):=by
 refine jK Tryz.func72 rfl cb72 rfl ?_
 show qU _ _ _ _ ⟨[(0,(vl 103 1 jD l))],[]⟩
 refine jA<|kx [(2,(xT 0)),(3,(vb false))] [] (zM<|zM<|zZ) ?_
 refine jA<|jA<|kx [(9,(vb (decide (2<((l.length:Nat):Int)))))] [] (zM<|zE (xD kC)<|zE cK<|zZ) ?_
 refine jG (b:=decide (2<((l.length:Nat):Int))) rfl (fun h1=>?_) (fun h1=>?_)
 ·replace h1:=uW h1
  refine jA<|kx [(2,(xT 0)),(3,(vb false))] [] (zM<|zM<|zZ) ?_
  refine jI ⟨_,(.tmp (d:=(.val (.int .u64 (0)))) rfl (.tmp (d:=(.val (.bool (false)))) rfl .nil)),?_⟩
  rw[show xH l=0 from if_neg (by omega),show gK l=false from decide_eq_false (by omega)];rfl
 ·replace h1:=uY h1
  have h2:l.length≤2:=by omega
  refine jE<|jA<|kx [(4,(.ref 0 0))] [(0,some (bx (.val (.int .u64 (0)))))] (zN (uQ 0 ze109 zo109)<|zT (qA cY)<|zZ) ?_
  refine jA<|pwp_backL backs cb92 rfl 5 jD l 0 (fun n=>⟨[(2,(xT 0)),(3,(vb false)),(4,(.ref 0 0))],[(0,some (bx (.val (.int .u64 (((n:Nat):Int))))))]⟩) (fun (j:Nat) n=>n=val (l.drop (l.length-j))) 0 rfl rfl rfl rfl rfl rfl rfl rfl rfl rfl rfl rfl (fun _=>rfl) (fun _=>rfl) wk (by simp [val]) (by omega) ?_ ?_
  ·rintro rl j n hj hn
   have hw:=word_bound hd hj h2
   rw[← hn] at hw
   have hg:=hd.getD (l.length-1-j)
   refine kx [(6,(dD (l.getD (l.length-1-j) 0)))] [] (zM<|zZ) ?_
   refine jH<|kx [] [(0,some (bx (.val (.int .u64 (((((n*1000000000)+(l.getD (l.length-1-j) 0)):Nat):Int))))))] (zR (kP cY)<|zE (oMl (n*1000000000))<|zM<|zE (yR vW vY (l.getD (l.length-1-j) 0))<|zE (qS ((n*1000000000)+(l.getD (l.length-1-j) 0)))<|zT (qA cY)<|zZ) ?_
   exact ⟨n*1000000000+l.getD (l.length-1-j) 0,wk,(by dsimp only;rw[cZ l j hj,← hn];omega)⟩
  ·rintro n hn
   refine jA<|kx [(2,(xT n)),(3,(vb true))] [] (zR (kP cY)<|zM<|zM<|zZ) ?_
   refine jI ⟨_,(.tmp (d:=(.val (.int .u64 (((n:Nat):Int))))) rfl (.tmp (d:=(.val (.bool (true)))) rfl .nil)),?_⟩
   rw[show xH l=n by rw[hn,Nat.sub_self,List.drop_zero];exact if_pos h2,show gK l=true from decide_eq_true h2];rfl
theorem t_compare(a b:List Nat)(ha:xZ a)(hb:xZ b)(hla:a.length≤17592186044416):kB Tryz.prog 71 [(.sl 103 1 (List.map jD a)),(.sl 103 1 (List.map jD b))] (.val (.int .i64 ((qY ((val a:Nat):Int) ((val b:Nat):Int))))):=by
 refine jK Tryz.func71 rfl cb71 rfl ?_
 show qU _ _ _ _ ⟨[(0,(vl 103 1 jD a)),(1,(vl 103 1 jD b))],[]⟩
 refine jA<|kx [(3,(.ref 0 0)),(4,(.ref 1 0))] [(0,some (bx (.sl 103 1 (List.map jD b)))),(1,some (bx (.val (.int .i64 (0)))))] (zN (yC 0)<|zN (uQ 1 ze3 zo3)<|zZ) ?_
 refine jA<|jA<|kx [(11,(vb (((a.length:Nat):Int) != ((b.length:Nat):Int))))] [] (zM<|zE (xD kC)<|zR (kP xB)<|zE (xD kC)<|zE fO<|zZ) ?_
 refine jG rfl (fun h1=>?_) (fun h1=>?_)
 ·replace h1:=bne_iff_ne.1 h1
  refine jA<|kx [] [(1,some (bx (.val (.int .i64 ((qY ((a.length:Nat):Int) ((b.length:Nat):Int)))))))] (zM<|zE (xD kC)<|zR (kP xB)<|zE (xD kC)<|zE (kE (t_cmp_int ((a.length:Nat):Int) ((b.length:Nat):Int)))<|zT (qA qF)<|zZ) ?_
  refine jI ⟨_,(dX (cs:=(bx (.val (.int .i64 ((qY ((a.length:Nat):Int) ((b.length:Nat):Int))))))) (d:=(.val (.int .i64 ((qY ((a.length:Nat):Int) ((b.length:Nat):Int)))))) rfl rfl qF rfl rfl .nil),?_⟩
  rw[← cmpI_len ha hb h1];rfl
 ·replace h1:=bne_eq_false_iff_eq.1 h1
  have hl:a.length=b.length:=by omega
  refine jE<|jA<|pwp_backL backs cb92 rfl 5 jD a 0 (fun _=>⟨[(3,(.ref 0 0)),(4,(.ref 1 0))],[(0,some (bx (.sl 103 1 (List.map jD b)))),(1,some (bx (.val (.int .i64 (0)))))]⟩) (fun (j:Nat) _=>val (a.drop (a.length-j))=val (b.drop (a.length-j))) () rfl rfl rfl rfl rfl rfl rfl rfl rfl rfl rfl rfl (fun _=>rfl) (fun _=>rfl) wk (by rw[Nat.sub_zero,List.drop_length,hl,List.drop_length]) (by omega) ?_ ?_
  ·rintro rl j ⟨⟩ hj he
   refine jA<|kx [(5,(jT (a.length-1-j)))] [] (zM<|zZ) ?_
   refine kx [(6,(dD (a.getD (a.length-1-j) 0)))] [] (zM<|zZ) ?_
   refine jH<|jA<|kx [(26,(vb ((((a.getD (a.length-1-j) 0):Nat):Int) != (((b.getD (a.length-1-j) 0):Nat):Int))))] [] (zM<|zR (kP xB)<|zM<|zE (gV kC (a.length-1-j) (0:Nat))<|zE (nG qD)<|zE fO<|zZ) ?_
   refine jG rfl (fun h2=>?_) (fun h2=>?_)
   ·replace h2:=bne_iff_ne.1 h2
    refine jA<|kx [] [(1,some (bx (.val (.int .i64 ((qY (((a.getD (a.length-1-j) 0):Nat):Int) (((b.getD (a.length-1-j) 0):Nat):Int)))))))] (zM<|zR (kP xB)<|zM<|zE (gV kC (a.length-1-j) (0:Nat))<|zE (nG qD)<|zE (kE (t_cmp_uint32 (a.getD (a.length-1-j) 0) (b.getD (a.length-1-j) 0)))<|zT (qA qF)<|zZ) ?_
    refine jI ⟨⟨[(4,(.ref 1 0))],[(1,some (bx (.val (.int .i64 ((qY (((a.getD (a.length-1-j) 0):Nat):Int) (((b.getD (a.length-1-j) 0):Nat):Int)))))))]⟩,wk,keys_of rfl,⟨_,(dX (cs:=(bx (.val (.int .i64 ((qY (((a.getD (a.length-1-j) 0):Nat):Int) (((b.getD (a.length-1-j) 0):Nat):Int))))))) (d:=(.val (.int .i64 ((qY (((a.getD (a.length-1-j) 0):Nat):Int) (((b.getD (a.length-1-j) 0):Nat):Int)))))) rfl rfl qF rfl rfl .nil),?_⟩⟩
    rw[← cmpI_top ha.1 hb.1 hl hj he h2];rfl
   ·replace h2:=bne_eq_false_iff_eq.1 h2
    refine jE ?_
    exact ⟨(),wk,(by dsimp only;have e1:=cZ a j hj;have e2:=cZ b j (by omega);rw[← hl] at e2;rw[e1,e2,he];omega)⟩
  ·rintro ⟨⟩ he
   refine jA<|kx [] [(1,some (bx (.val (.int .i64 (0)))))] (zT (qA qF)<|zZ) ?_
   refine jI ⟨_,(dX (cs:=(bx (.val (.int .i64 (0))))) (d:=(.val (.int .i64 (0)))) rfl rfl qF rfl rfl .nil),?_⟩
   rw[cmpI_same (by rw[Nat.sub_self,List.drop_zero,List.drop_zero] at he;exact he)];rfl
theorem t_split(n:Nat)(hn:n<18446744073709551616):kB Tryz.prog 74 [(.val (.int .u64 (((n:Nat):Int))))] (.sl 103 1 (List.map jD (ofNat n))):=by
 refine jK Tryz.func74 rfl cb74 rfl ?_
 show qU _ _ _ _ ⟨[(0,(xT n))],[]⟩
 refine jA<|kx [] [] (zE (oNl 103 1)<|zZ) ?_
 refine jA<|kx [(3,(.own 0 103 1 0))] [(0,some (bm jD []))] (zO 0 103 1<|zZ) ?_
 refine jA<|jH<|kI (α:=Nat × List Nat) (fun (m,g)=>⟨[(0,(xT m)),(3,(.own 0 103 1 g.length))],[(0,some (bm jD g))]⟩) (fun (m,g)=>m≤n∧g++ofNat m=ofNat n) (fun (m,g)=>m) (n,[]) wk ⟨Nat.le_refl _,by rw[List.nil_append]⟩ ?_
 rintro ⟨m,g⟩ ⟨hm,hg⟩
 have hl:=split_len hg hn
 refine jA<|jA<|kx [(5,(vb (decide (0<((m:Nat):Int)))))] [] (zM<|zE cK<|zZ) ?_
 refine jG (b:=decide (0<((m:Nat):Int))) rfl (fun h1=>?_) (fun h1=>?_)
 ·replace h1:=uW h1
  refine jE<|jA<|jH<|kf [(3,(.own 0 103 1 ((g++[(m % 1000000000)]).length)))] [(0,some (bm jD (g++[(m % 1000000000)])))] (zM<|zM<|zE (oRe (m % 1000000000))<|zE (yR zG zI (m % 1000000000))<|zE (oBs kC uO xQ)<|zA jD g [(m % 1000000000)] rfl kC uO yX<|zM<|zF) ?_
  refine kx [(0,(xT (m / 1000000000)))] [] (zM<|zE (oQu (m / 1000000000))<|zM<|zZ) ?_
  exact ⟨(m / 1000000000,g++[m % 1000000000]),wk,⟨by omega,split_step hg h1⟩,(by first|omega|(dsimp only;omega))⟩
 ·replace h1:=uY h1
  refine jW<|jA<|kX (vV (t:=3) (k:=0) (es:=List.map jD g) rfl rfl (uU _ _ (fun _=>rfl)) (vG _ _ rfl) (vS _ _ (fun _=>rfl) rfl)) ?_
  refine kx [(2,(vl 103 1 jD g))] [] (zM<|zM<|zZ) ?_
  refine jI ⟨_,(.tmp (d:=(.sl 103 1 (List.map jD g))) rfl .nil),?_⟩
  rw[split_end hg h1];rfl
theorem cb43:callB Tryz.prog 43=true:=by kernel_rfl
theorem cb67:callB Tryz.prog 67=true:=by kernel_rfl
theorem cb68:callB Tryz.prog 68=true:=by kernel_rfl
theorem cb69:callB Tryz.prog 69=true:=by kernel_rfl
theorem cb76:callB Tryz.prog 76=true:=by kernel_rfl
theorem cb90:callB Tryz.prog 90=true:=by kernel_rfl
theorem uT:yO Tryz.prog 42 0=some 0:=by kernel_rfl
theorem uX:yO Tryz.prog 42 1=some 1:=by kernel_rfl
theorem dJ:kS Tryz.prog 4=some (false,1):=by kernel_rfl
theorem t_big(a:Nat):kB Tryz.prog 68 [(.val (.int .u32 (((a:Nat):Int))))] (.val (.bool ((decide (1000000000≤((a:Nat):Int)))))):=by
 refine jK Tryz.func68 rfl cb68 rfl ?_
 show qU _ _ _ _ ⟨[(0,(dD a))],[]⟩
 refine jA<|kx [] [] (zM<|zZ) ?_
 refine jA<|kx [(2,(vb (decide (1000000000≤((a:Nat):Int)))))] [] (zM<|zE oGe<|zM<|zZ) ?_
 refine jI ⟨_,(.tmp (d:=(.val (.bool (decide (1000000000≤((a:Nat):Int)))))) rfl .nil),?_⟩
 rfl
theorem t_index(l:List Nat)(hb:l.length≤17592186044416):kB Tryz.prog 90 [(.sl 103 1 (List.map jD l)),(.val (.func (.func 68) #[] #[]))] (.val (.int .i64 ((vI l)))):=by
 refine jK Tryz.func90 rfl cb90 rfl ?_
 show qU _ _ _ _ ⟨[(0,(vl 103 1 jD l)),(1,(.d (.val (.func (.func 68) #[] #[]))))],[]⟩
 refine jA<|kx [] [] (zM<|zZ) ?_
 refine jA<|jA<|kx [(7,(jT l.length)),(8,(jT 0))] [] (zM<|zE (xD kC)<|zM<|zZ) ?_
 refine jH<|kI (α:=Nat) (fun i=>⟨[(0,(vl 103 1 jD l)),(1,(.d (.val (.func (.func 68) #[] #[])))),(7,(jT l.length)),(8,(jT i))],[]⟩) (fun i=>i≤l.length∧Dig (l.take i)) (fun i=>l.length-i) 0 wk ⟨Nat.zero_le _,zP⟩ ?_
 rintro i ⟨hi,hd⟩
 refine jA<|kx [(9,(vb (decide (((i:Nat):Int)<((l.length:Nat):Int)))))] [] (zE uM<|zZ) ?_
 refine jA<|jG rfl (fun h1=>?_) (fun h1=>?_)
 ·replace h1:=uW h1
  refine jE<|jA<|jH<|jA<|kx [(5,(jT i))] [] (zM<|zM<|zZ) ?_
  refine jA<|kx [(16,(vb (decide (1000000000≤(((l.getD i 0):Nat):Int)))))] [] (zM<|zM<|zM<|zE (gV kC i (0:Nat))<|zE (nG qD)<|zE (kE (t_big (l.getD i 0)))<|zZ) ?_
  refine jG rfl (fun h2=>?_) (fun h2=>?_)
  ·replace h2:=uW h2
   refine jA<|kx [(4,(jT i))] [] (zM<|zM<|zZ) ?_
   refine jI ⟨_,(.tmp (d:=(.val (.int .i64 (((i:Nat):Int))))) rfl .nil),?_⟩
   rw[firstBig_at (by omega) hd (by omega)];rfl
  ·replace h2:=uY h2
   refine jE<|kx [(8,(jT (i+1)))] [] (zE (qS (i+1))<|zM<|zZ) ?_
   exact ⟨(i+1),wk,⟨by omega,dig_take_succ (by omega) hd (by omega)⟩,(by omega)⟩
 ·replace h1:=uY h1
  refine jW<|jA<|kx [(4,(vi (-1)))] [] (zM<|zZ) ?_
  refine jI ⟨_,(.tmp (d:=(.val (.int .i64 (-1)))) rfl .nil),?_⟩
  rw[aI (by rw[List.take_of_length_le (by omega)] at hd;exact hd)];rfl
theorem t_contains(l:List Nat)(hb:l.length≤17592186044416):kB Tryz.prog 67 [(.sl 103 1 (List.map jD l)),(.val (.func (.func 68) #[] #[]))] (.val (.bool ((decide (0≤vI l))))):=by
 refine jK Tryz.func67 rfl cb67 rfl ?_
 show qU _ _ _ _ ⟨[(0,(vl 103 1 jD l)),(1,(.d (.val (.func (.func 68) #[] #[]))))],[]⟩
 refine jA<|kx [] [] (zM<|zZ) ?_
 refine jA<|kx [(4,(vb (decide (0≤(vI l)))))] [] (zM<|zM<|zE (kE (t_index l (by omega)))<|zE oGe<|zM<|zZ) ?_
 refine jI ⟨_,(.tmp (d:=(.val (.bool (decide (0≤(vI l)))))) rfl .nil),?_⟩
 rfl
theorem t_valid(x:kJ)(hb:x.gs.length≤17592186044416):kB Tryz.prog 43 [(jJ x)] (.val (.bool ((uF x)))):=by
 refine jK Tryz.func43 rfl cb43 rfl ?_
 show qU _ _ _ _ ⟨[(0,(.d (jJ x)))],[]⟩
 refine jA<|kx [(1,(.ref 0 0))] [(0,some (bx (jJ x)))] (zN (yC 0)<|zM<|zZ) ?_
 refine jA<|kx [(3,(jT x.gs.length))] [] (zE (kV uX)<|zR (kP xB)<|zE (xD kC)<|zM<|zZ) ?_
 refine jA<|jA<|kx [(8,(vb (((x.gs.length:Nat):Int) == 0)))] [] (zM<|zE gX<|zZ) ?_
 refine jG (b:=(((x.gs.length:Nat):Int) == 0)) rfl (fun h1=>?_) (fun h1=>?_)
 ·replace h1:=eq_of_beq h1
  refine jA<|kx [(2,(vb (!x.neg)))] [] (zE (kV uT)<|zR (kP dJ)<|zE oNt<|zM<|zZ) ?_
  refine jI ⟨_,(.tmp (d:=(.val (.bool (!x.neg)))) rfl .nil),?_⟩
  rw[show uF x=!x.neg from if_pos h1];rfl
 ·replace h1:=ne_of_beq_false h1
  refine jE<|jA<|kx [(2,(vb (((((x.gs.getD (x.gs.length-1) 0):Nat):Int) != 0)&&!(decide (0≤vI x.gs)))))] [] ?_ ?_
  ·refine zE (kV uX)<|zR (kP xB)<|zM<|zE (oSb (x.gs.length-1))<|zE (gV kC (x.gs.length-1) (0:Nat))<|zE (nG qD)<|zE fO<|zE (oV (vb ((((x.gs.getD (x.gs.length-1) 0):Nat):Int) != 0)) (kZ (by kernel_rfl)))<|?_
   rcases hb2:((((x.gs.getD (x.gs.length-1) 0):Nat):Int) != 0) with _ | _
   ·replace hb2:=bne_eq_false_iff_eq.1 hb2
    exact zK<|zK<|zK<|zK<|zE oPf<|zM<|zZ
   ·replace hb2:=bne_iff_ne.1 hb2
    exact zE (kV uX)<|zR (kP xB)<|zE (kE (t_contains x.gs (by omega)))<|zE oNt<|zE oPa<|zM<|zZ
  refine jI ⟨_,(.tmp (d:=(.val (.bool ((((((x.gs.getD (x.gs.length-1) 0):Nat):Int) != 0)&&!(decide (0≤vI x.gs))))))) rfl .nil),?_⟩
  rw[show uF x=_ from if_neg h1];rfl
theorem yA(x:kJ)(hb:x.gs.length≤17592186044416):kB Tryz.prog 69 [(jJ x)] (.sl 103 1 (List.map jD (jV x))):=by
 refine jK Tryz.func69 rfl cb69 rfl ?_
 show qU _ _ _ _ ⟨[(0,(.d (jJ x)))],[]⟩
 refine jA<|kx [(1,(.ref 0 0))] [(0,some (bx (jJ x)))] (zN (yC 0)<|zE (oNl 103 1)<|zZ) ?_
 refine jA<|jA<|kx [(5,(vb (!(uF x))))] [] (zR (kY jL)<|zE (kE (t_valid x (by omega)))<|zE oNt<|zZ) ?_
 refine jG (b:=!(uF x)) rfl (fun h1=>?_) (fun h1=>?_)
 ·refine jA<|kx [(2,(vl 103 1 jD []))] [] (zE (oNl 103 1)<|zZ) ?_
  refine jI ⟨_,(.tmp (d:=(.sl 103 1 (List.map jD []))) rfl .nil),?_⟩
  rw[show jV x=[] from if_neg (by simpa using h1)];rfl
 ·refine jE<|jA<|kx [(2,(vl 103 1 jD x.gs))] [] (zE (kV uX)<|zR (kP xB)<|zM<|zZ) ?_
  refine jI ⟨_,(.tmp (d:=(.sl 103 1 (List.map jD x.gs))) rfl .nil),?_⟩
  rw[show jV x=x.gs from if_pos (by simpa using h1)];rfl
theorem t_clone(l:List Nat)(hb:l.length≤17592186044416):kB Tryz.prog 76 [(.sl 103 1 (List.map jD l))] (.sl 103 1 (List.map jD l)):=by
 refine jK Tryz.func76 rfl cb76 rfl ?_
 show qU _ _ _ _ ⟨[(0,(vl 103 1 jD l))],[]⟩
 refine jA<|kx [] [] (zE (oNl 103 1)<|zZ) ?_
 refine jA<|jA<|pwp_nilq rfl rfl rfl rfl rfl rfl kC rfl rfl rfl (fun nb hnb=>?_)
 refine jG (b:=nb) rfl (fun h1=>?_) (fun h1=>?_)
 ·refine jA<|kx [(2,(vl 103 1 jD []))] [] (zE (oNl 103 1)<|zZ) ?_
  refine jI ⟨_,(.tmp (d:=(.sl 103 1 (List.map jD []))) rfl .nil),?_⟩
  rw[List.map_eq_nil_iff.1 (hnb h1)];rfl
 ·refine jE<|jA<|kf [(2,(.own 0 103 1 (([]++l).length)))] [(0,some (bm jD ([]++l)))] (zN (oBo 0 kC uO xQ)<|zM<|zA jD [] l rfl kC uO yX<|zM<|zF) ?_
  refine kX (vV (t:=2) (k:=0) (es:=List.map jD ([]++l)) rfl rfl (uU _ _ (fun _=>rfl)) (vG _ _ rfl) (vS _ _ (fun _=>rfl) rfl)) ?_
  refine jI ⟨_,(.tmp (d:=(.sl 103 1 (List.map jD ([]++l)))) rfl .nil),?_⟩
  rfl
theorem bo4:boolB Tryz.prog 4=true:=by kernel_rfl
theorem cb44:callB Tryz.prog 44=true:=by kernel_rfl
theorem cb45:callB Tryz.prog 45=true:=by kernel_rfl
theorem cb47:callB Tryz.prog 47=true:=by kernel_rfl
theorem cb49:callB Tryz.prog 49=true:=by kernel_rfl
theorem cb97:callB Tryz.prog 97=true:=by kernel_rfl
theorem cb100:callB Tryz.prog 100=true:=by kernel_rfl
theorem cb113:callB Tryz.prog 113=true:=by kernel_rfl
theorem un3:(Tryz.prog.underlying 3).isSome=true:=by kernel_rfl
theorem t_sign(x:kJ)(hx:x.gs.length≤1099511627776):kB Tryz.prog 44 [(jJ x)] (.val (.int .i64 ((kG (jS x))))):=by
 refine jK Tryz.func44 rfl cb44 rfl ?_
 show qU _ _ _ _ ⟨[(0,(.d (jJ x)))],[]⟩
 refine jA<|kx [(1,(.ref 0 0))] [(0,some (bx (jJ x)))] (zN (yC 0)<|zM<|zZ) ?_
 refine jA<|jH<|jA<|kx [(3,(vb ((((jV x).length:Nat):Int) == 0)))] [] (zR (kY jL)<|zE (kE (yA x (by omega)))<|zE (xD kC (L:=(jV x)))<|zE gX<|zM<|zZ) ?_
 refine jG (b:=((((jV x).length:Nat):Int) == 0)) rfl (fun h1=>?_) (fun h1=>?_)
 ·replace h1:=eq_of_beq h1
  refine jA<|kx [(2,(jT 0))] [] (zM<|zZ) ?_
  refine jI ⟨_,(.tmp (d:=(.val (.int .i64 (0)))) rfl .nil),?_⟩
  rw[toZ_nil h1];rfl
 ·replace h1:=ne_of_beq_false h1
  refine jA<|kx [(8,(vb x.neg))] [] (zE (kV uT)<|zR (kP dJ)<|zM<|zZ) ?_
  refine jG (b:=x.neg) rfl (fun h2=>?_) (fun h2=>?_)
  ·refine jA<|kx [(2,(vi (-1)))] [] (zM<|zZ) ?_
   refine jI ⟨_,(.tmp (d:=(.val (.int .i64 (-1)))) rfl .nil),?_⟩
   rw[sign_neg h1 h2];rfl
  ·refine jE<|jA<|kx [(2,(jT 1))] [] (zM<|zZ) ?_
   refine jI ⟨_,(.tmp (d:=(.val (.int .i64 (1)))) rfl .nil),?_⟩
   rw[sign_pos h1 h2];rfl
theorem t_neg(x:kJ)(hx:x.gs.length≤1099511627776):kB Tryz.prog 97 [(jJ x)] (jJ (jQ (-jS x))):=by
 refine jK Tryz.func97 rfl cb97 rfl ?_
 show qU _ _ _ _ ⟨[(0,(.d (jJ x)))],[]⟩
 refine jA<|kx [(1,(.ref 0 0)),(2,(.ref 1 0))] [(0,some (bx (jJ x))),(1,some (bx (jJ (kJ.mk false []))))] (zN (yC 0)<|zN (uQ 1 uH uI)<|zZ) ?_
 refine jA<|kd [] [(1,some (bx (jJ (vE (!x.neg) (val (jV x))))))] mo (wE (kV uT)<|wR (kP dJ)<|wE oNt<|wR (kY jL)<|wE (kE (yA x (by omega)))<|wE (kE (t_clone (jV x) (Nat.le_trans (xV _) (by omega))))<|wE (kE (mH (!x.neg) (jV x) (kO _).1 (Nat.le_trans (xV _) (by omega))))<|wT (qA jL)<|wZ) ?_
 refine jI ⟨_,(kQ (cs:=(bx (jJ (vE (!x.neg) (val (jV x)))))) (d:=(jJ (vE (!x.neg) (val (jV x))))) rfl rfl jL rfl rfl .nil),?_⟩
 rw[← neg_eq];rfl
theorem t_sum(b:Bool)(l:List Nat)(c:Bool)(m:List Nat)(hl:xZ l)(hm:xZ m)(hll:l.length≤1099511627776)(hlm:m.length≤1099511627776):kB Tryz.prog 113 [(.val (.bool (b))),(.sl 103 1 (List.map jD l)),(.val (.bool (c))),(.sl 103 1 (List.map jD m))] (jJ (jQ (nR b (val l)+nR c (val m)))):=by
 refine jK Tryz.func113 rfl cb113 rfl ?_
 show qU _ _ _ _ ⟨[(0,(vb b)),(1,(vl 103 1 jD l)),(2,(vb c)),(3,(vl 103 1 jD m))],[]⟩
 refine jA<|kx [(8,(.ref 0 0))] [(0,some (bx (jJ (kJ.mk false []))))] (zN (uQ 0 uH uI)<|zZ) ?_
 refine jA<|jH<|jA<|kx [(9,(vb (b == c)))] [] (zM<|zM<|zE (oEb bo4)<|zM<|zZ) ?_
 refine jG (b:=(b == c)) rfl (fun h1=>?_) (fun h1=>?_)
 ·replace h1:=eq_of_beq h1
  refine jA<|kx [] [(0,some (bx (jJ (vE b (val (ofNat (val l+val m)))))))] (zM<|zM<|zM<|zE (kE (t_plus l m hl.1 hm.1 (by omega) (by omega)))<|zE (kE (mH b (ofNat (val l+val m)) (kA _) (Nat.le_trans (add_len hl.1 hm.1) (by omega))))<|zT (qA jL)<|zZ) ?_
  refine jI ⟨_,(kQ (cs:=(bx (jJ (vE b (val (ofNat (val l+val m))))))) (d:=(jJ (vE b (val (ofNat (val l+val m)))))) rfl rfl jL rfl rfl .nil),?_⟩
  rw[← sum_same h1];rfl
 ·replace h1:=ne_of_beq_false h1
  refine jA<|kx [(18,(vb (decide (0≤(qY ((val l:Nat):Int) ((val m:Nat):Int))))))] [] (zM<|zM<|zE (kE (t_compare l m (by assumption) (by assumption) (by omega)))<|zE oGe<|zM<|zZ) ?_
  refine jG rfl (fun h2=>?_) (fun h2=>?_)
  ·replace h2:=uW h2
   refine jA<|kx [] [(0,some (bx (jJ (vE b (val (ofNat (val l-val m)))))))] (zM<|zM<|zM<|zE (kE (t_minus l m hl.1 hm.1 (by have:=eA h2;omega) (by omega)))<|zE (kE (mH b (ofNat (val l-val m)) (kA _) (Nat.le_trans (sub_len hl.1) (by omega))))<|zT (qA jL)<|zZ) ?_
   refine jI ⟨_,(kQ (cs:=(bx (jJ (vE b (val (ofNat (val l-val m))))))) (d:=(jJ (vE b (val (ofNat (val l-val m)))))) rfl rfl jL rfl rfl .nil),?_⟩
   rw[← sum_first h1 (by have:=eA h2;omega)];rfl
  ·replace h2:=uY h2
   refine jE<|jA<|kx [] [(0,some (bx (jJ (vE c (val (ofNat (val m-val l)))))))] (zM<|zM<|zM<|zE (kE (t_minus m l hm.1 hl.1 (by have:=cmpI_lt h2;omega) (by omega)))<|zE (kE (mH c (ofNat (val m-val l)) (kA _) (Nat.le_trans (sub_len hm.1) (by omega))))<|zT (qA jL)<|zZ) ?_
   refine jI ⟨_,(kQ (cs:=(bx (jJ (vE c (val (ofNat (val m-val l))))))) (d:=(jJ (vE c (val (ofNat (val m-val l)))))) rfl rfl jL rfl rfl .nil),?_⟩
   rw[← sum_second h1 (by have:=cmpI_lt h2;omega)];rfl
theorem t_add(x:kJ)(y:kJ)(hx:x.gs.length≤1099511627776)(hy:y.gs.length≤1099511627776):kB Tryz.prog 100 [(jJ x),(jJ y)] (jJ (jQ (jS x+jS y))):=by
 refine jK Tryz.func100 rfl cb100 rfl ?_
 show qU _ _ _ _ ⟨[(0,(.d (jJ x))),(1,(.d (jJ y)))],[]⟩
 refine jA<|kx [(2,(.ref 0 0)),(3,(.ref 1 0)),(4,(.ref 2 0))] [(0,some (bx (jJ x))),(1,some (bx (jJ y))),(2,some (bx (jJ (kJ.mk false []))))] (zN (yC 0)<|zN (yC 1)<|zN (uQ 2 uH uI)<|zZ) ?_
 refine jA<|kd [] [(2,some (bx (jJ (jQ (nR x.neg (val (jV x))+nR y.neg (val (jV y)))))))] mo (wE (kV uT)<|wR (kP dJ)<|wR (kY jL)<|wE (kE (yA x (by omega)))<|wE (kV uT)<|wR (kP dJ)<|wR (kY jL)<|wE (kE (yA y (by omega)))<|wE (kE (t_sum x.neg (jV x) y.neg (jV y) (kO _) (kO _) (Nat.le_trans (xV _) (by omega)) (Nat.le_trans (xV _) (by omega))))<|wT (qA jL)<|wZ) ?_
 refine jI ⟨_,(kQ (cs:=(bx (jJ (jQ (nR x.neg (val (jV x))+nR y.neg (val (jV y))))))) (d:=(jJ (jQ (nR x.neg (val (jV x))+nR y.neg (val (jV y)))))) rfl rfl jL rfl rfl .nil),?_⟩
 rfl
theorem t_mul(x:kJ)(y:kJ)(hx:x.gs.length≤1099511627776)(hy:y.gs.length≤1099511627776):kB Tryz.prog 49 [(jJ x),(jJ y)] (jJ (jQ (jS x*jS y))):=by
 refine jK Tryz.func49 rfl cb49 rfl ?_
 show qU _ _ _ _ ⟨[(0,(.d (jJ x))),(1,(.d (jJ y)))],[]⟩
 refine jA<|kx [(2,(.ref 0 0)),(3,(.ref 1 0)),(4,(.ref 2 0))] [(0,some (bx (jJ x))),(1,some (bx (jJ y))),(2,some (bx (jJ (kJ.mk false []))))] (zN (yC 0)<|zN (yC 1)<|zN (uQ 2 uH uI)<|zZ) ?_
 refine jA<|kd [] [(2,some (bx (jJ (vE (!(x.neg == y.neg)) (val (ofNat (val (jV x)*val (jV y))))))))] mo (wE (kV uT)<|wR (kP dJ)<|wE (kV uT)<|wR (kP dJ)<|wE (oNb bo4)<|wR (kY jL)<|wE (kE (yA x (by omega)))<|wR (kY jL)<|wE (kE (yA y (by omega)))<|wE (kE (t_times (jV x) (jV y) (kO _).1 (kO _).1 (Nat.le_trans (xV _) (by omega)) (Nat.le_trans (xV _) (by omega))))<|wE (kE (mH (!(x.neg == y.neg)) (ofNat (val (jV x)*val (jV y))) (kA _) (Nat.le_trans (mul_len (kO _).1 (kO _).1) (by have:=xV x;have:=xV y;omega))))<|wT (qA jL)<|wZ) ?_
 refine jI ⟨_,(kQ (cs:=(bx (jJ (vE (!(x.neg == y.neg)) (val (ofNat (val (jV x)*val (jV y)))))))) (d:=(jJ (vE (!(x.neg == y.neg)) (val (ofNat (val (jV x)*val (jV y))))))) rfl rfl jL rfl rfl .nil),?_⟩
 rw[show jS x*jS y=_ from rfl,jS,jS,← mul_eq];rfl
theorem t_of(n:Int)(hlo:-9223372036854775808≤n)(hhi:n≤9223372036854775807):kB Tryz.prog 47 [(.val (.int .i64 (n)))] (jJ (jQ n)):=by
 refine jK Tryz.func47 rfl cb47 rfl ?_
 show qU _ _ _ _ ⟨[(0,(vi n))],[]⟩
 refine jA<|kx [(2,(.ref 0 0))] [(0,some (bx (jJ (kJ.mk false []))))] (zN (uQ 0 uH uI)<|zZ) ?_
 refine jA<|kx [(3,(xT ((n % 18446744073709551616).toNat)))] [] (zM<|zE (yR un3 vY ((n % 18446744073709551616).toNat) (hr:=by exact (conv_u64 _)))<|zM<|zZ) ?_
 refine jA<|jA<|kx [(7,(vb (decide (n<0))))] [] (zM<|zE uM<|zZ) ?_
 refine jG (b:=decide (n<0)) rfl (fun h1=>?_) (fun h1=>?_)
 ·replace h1:=uW h1
  refine kx [(3,(xT ((-n).toNat)))] [] (zM<|zE (oNg (((-n).toNat:Nat):Int) (hr:=by exact (neg_u64 (by assumption) hlo)))<|zM<|zZ) ?_
  refine jA<|kx [] [(0,some (bx (jJ (vE (decide (n<0)) (val (ofNat ((-n).toNat)))))))] (zM<|zE uM<|zM<|zE (kE (t_split ((-n).toNat) (by omega)))<|zE (kE (mH (decide (n<0)) (ofNat ((-n).toNat)) (kA _) (Nat.le_trans (dK (by omega)) (by decide))))<|zT (qA jL)<|zZ) ?_
  refine jI ⟨_,(kQ (cs:=(bx (jJ (vE (decide (n<0)) (val (ofNat ((-n).toNat))))))) (d:=(jJ (vE (decide (n<0)) (val (ofNat ((-n).toNat)))))) rfl rfl jL rfl rfl .nil),?_⟩
  rw[of_neg h1];rfl
 ·replace h1:=uY h1
  refine jE<|jA<|kx [] [(0,some (bx (jJ (vE (decide (n<0)) (val (ofNat ((n % 18446744073709551616).toNat)))))))] (zM<|zE uM<|zM<|zE (kE (t_split ((n % 18446744073709551616).toNat) (by omega)))<|zE (kE (mH (decide (n<0)) (ofNat ((n % 18446744073709551616).toNat)) (kA _) (Nat.le_trans (dK (by omega)) (by decide))))<|zT (qA jL)<|zZ) ?_
  refine jI ⟨_,(kQ (cs:=(bx (jJ (vE (decide (n<0)) (val (ofNat ((n % 18446744073709551616).toNat))))))) (d:=(jJ (vE (decide (n<0)) (val (ofNat ((n % 18446744073709551616).toNat)))))) rfl rfl jL rfl rfl .nil),?_⟩
  rw[of_pos h1 hhi];rfl
theorem t_compareI(x:kJ)(y:kJ)(hx:x.gs.length≤1099511627776)(hy:y.gs.length≤1099511627776):kB Tryz.prog 45 [(jJ x),(jJ y)] (.val (.int .i64 ((qY (jS x) (jS y))))):=by
 refine jK Tryz.func45 rfl cb45 rfl ?_
 show qU _ _ _ _ ⟨[(0,(.d (jJ x))),(1,(.d (jJ y)))],[]⟩
 refine jA<|kx [(2,(.ref 0 0)),(3,(.ref 1 0))] [(0,some (bx (jJ x))),(1,some (bx (jJ y)))] (zN (yC 0)<|zN (yC 1)<|zM<|zZ) ?_
 refine jA<|jA<|kd [(5,(vi (kG (jS x)))),(6,(vi (kG (jS y))))] [] mo (wR (kY jL)<|wE (kE (t_sign x (by omega)))<|wR (kY jL)<|wE (kE (t_sign y (by omega)))<|wM<|wM<|wZ) ?_
 refine jA<|kx [(14,(vb ((kG (jS x)) != (kG (jS y)))))] [] (zM<|zM<|zE fO<|zZ) ?_
 refine jG (b:=((kG (jS x)) != (kG (jS y)))) rfl (fun h1=>?_) (fun h1=>?_)
 ·replace h1:=bne_iff_ne.1 h1
  refine jA<|kx [(4,(vi (qY (kG (jS x)) (kG (jS y)))))] [] (zM<|zM<|zE (kE (t_cmp_int (kG (jS x)) (kG (jS y))))<|zM<|zZ) ?_
  refine jI ⟨_,(.tmp (d:=(.val (.int .i64 ((qY (kG (jS x)) (kG (jS y))))))) rfl .nil),?_⟩
  rw[← cmp_sign h1];rfl
 ·replace h1:=bne_eq_false_iff_eq.1 h1
  refine jE<|jA<|kd [(7,(vi (qY ((val (jV x):Nat):Int) ((val (jV y):Nat):Int))))] [] mo (wR (kY jL)<|wE (kE (yA x (by omega)))<|wR (kY jL)<|wE (kE (yA y (by omega)))<|wE (kE (t_compare (jV x) (jV y) (kO _) (kO _) (Nat.le_trans (xV _) (by omega))))<|wM<|wZ) ?_
  refine jA<|jA<|kx [(24,(vb x.neg))] [] (zE (kV uT)<|zR (kP dJ)<|zZ) ?_
  refine jG (b:=x.neg) rfl (fun h2=>?_) (fun h2=>?_)
  ·refine jA<|kx [(4,(vi (-(qY ((val (jV x):Nat):Int) ((val (jV y):Nat):Int)))))] [] (zM<|zE (oNg (-(qY ((val (jV x):Nat):Int) ((val (jV y):Nat):Int))) (hr:=by exact (wi64 (by omega) (by have:=cmpI_range ((val (jV x):Nat):Int) ((val (jV y):Nat):Int);omega) (by have:=cmpI_range ((val (jV x):Nat):Int) ((val (jV y):Nat):Int);omega))))<|zM<|zZ) ?_
   refine jI ⟨_,(.tmp (d:=(.val (.int .i64 (-(qY ((val (jV x):Nat):Int) ((val (jV y):Nat):Int)))))) rfl .nil),?_⟩
   rw[← cmp_neg h1 h2];rfl
  ·refine jE<|jA<|kx [(4,(vi (qY ((val (jV x):Nat):Int) ((val (jV y):Nat):Int))))] [] (zM<|zM<|zZ) ?_
   refine jI ⟨_,(.tmp (d:=(.val (.int .i64 ((qY ((val (jV x):Nat):Int) ((val (jV y):Nat):Int)))))) rfl .nil),?_⟩
   rw[← cmp_pos h1 h2];rfl
attribute [local go_sem] Oper.semAt_some
set_option maxRecDepth 100000 in
set_option maxHeartbeats 2000000 in
theorem trimV(b cap:Nat)(l:List Nat)(hd:Go.Fid.Dig l)(h0:Go.Fid.val l≠0)(w:World)(hc:∀ i,i<l.length→w.cell? ⟨b,i,none⟩=some (.int .u32 ((l.getD i 0:Nat):Int)))(h1:l.length≤cap)(h2:cap≤maxLen) :
  CallsIn Fence.wide 1 Tryz.prog 94 #[.slice (some ⟨b,0,none⟩) l.length cap] w fun e w'=>e=.returned (.slice (some ⟨b,0,none⟩) (Go.Fid.ofNat (Go.Fid.val l)).length cap)∧w'=w:=by
 refine callsIn_of_wp Tryz.func94 rfl trivial ?_ rfl
 simp only[Tryz.ntmps94,List.size_toArray,List.length_cons,List.length_nil,Nat.reduceAdd,Nat.reduceSub,Array.replicate_succ,Array.replicate_zero,List.push_toArray,List.append_toArray,List.nil_append,List.cons_append]
 gi_wp2
 gi_loopw [0] (fun i wr=>∃ j:Nat,j≤l.length∧0<j∧i=.slice (some ⟨b,0,none⟩) j cap∧Go.Fid.val (l.take j)=Go.Fid.val l∧wr=w)
  (fun i _=>match i with | .slice _ n _=>n | _=>0)
 case atStart=>
  have hl:0<l.length:=by
   rcases l with _ | ⟨d,l⟩
   ·exact absurd rfl h0
   ·simp
  exact ⟨l.length,Nat.le_refl _,hl,rfl,by rw[List.take_length],rfl⟩
 case round=>
  obtain ⟨j,hj,hj0,rfl,hv,rfl⟩:=hrel
  have hcj:=hc (j-1) (by omega)
  have hj63:(j:Int)≤9223372036854775807:=by unfold maxLen at h2;omega
  have hv2:=Go.Fid.val_take_succ l (j-1)
  rw[show j-1+1=j by omega] at hv2
  by_cases hz:l.getD (j-1) 0=0
  ·rw[hz] at hcj hv2
   have h1j:0<j-1:=by
    rcases Nat.eq_zero_or_pos (j-1) with e | e
    ·rw[e,List.take_zero,Go.Fid.val_nil,Nat.mul_zero] at hv2
     omega
    ·exact e
   gi_wp2
   go_roundw
   case rel=>exact ⟨j-1,by omega,h1j,by simp,by rw[← hv,hv2];simp,trivial⟩
   case measure=>simp;omega
  ·gi_wp2
   ·rename_i hq
    exfalso
    simp [List.getD] at hz hq
    omega
   ·refine ⟨rfl,.slice (some ⟨b,0,none⟩) j cap,by simp [results,Tryz.results94,go_sem],?_⟩
    have e:Go.Fid.ofNat (Go.Fid.val l)=l.take j:=by
     rw[← hv]
     refine (Go.Fid.can_eq ⟨hd.take j,?_⟩).symm
     unfold Go.Fid.Top
     have h5:(l.take j).length-1=j-1:=by rw[List.length_take];omega
     rw[h5]
     have h6:j-1<l.length:=by omega
     simp [List.getD,List.getElem?_eq_getElem h6,List.getElem?_take_of_lt (show j-1<j by omega)] at hz ⊢
     exact hz
    rw[e,List.length_take,Nat.min_eq_left hj]
    exact ⟨rfl,rfl⟩
theorem trim_cb:Go.Fid.callB Tryz.prog 94=true:=by kernel_rfl
open Go.Fid in
theorem e_trimO{o:Oper}{S:Nat→SV}{x:Operand}{ats:Array TypeId}{k T m:Nat}(l:List Nat)(ho:o.op=.call { callee:=.value (.func 94),args:=#[x],argTypes:=ats })(hx:ev S x=.own k T 1 m)(hl:l.length=m)(hd:Dig l)(h0:val l≠0) :
  qW Tryz.prog o S [(k,l.map (fun g=>SV.d (jD g)))] (.own k T 1 (ofNat (val l)).length) :=
 fun a w D β Q hop hrd hD=>by
  have hxv:=hop x (by simp [ho,Op.operands,Call.operands])
  rw[hx] at hxv
  have hm:0<m:=by
   rcases Nat.eq_zero_or_pos m with e | e
   ·rw[e] at hl
    have:=List.eq_nil_of_length_eq_zero hl
    subst this
    exact absurd rfl h0
   ·exact e
  have hle:(ofNat (val l)).length≤l.length:=qH (uS hd)
  rcases hxv with ⟨_,e,_⟩ | ⟨b,cap,vs,h1,h2,h3,h4,h5,h6⟩
  ·omega
  ·have hblk:=hrd (k,l.map (fun g=>SV.d (jD g))) (by simp)
   rcases hblk with ⟨g1,_⟩ | ⟨b',vs',T',g1,g2,g3,g4,g5⟩
   ·rw[h1] at g1;cases g1
   ·obtain rfl:b=b':=by rw[h1] at g1;injection g1
    rw[h3] at g2
    injection g2 with g2
    injection g2 with g2 gT
    subst g2;subst gT
    have hcell:∀ i,w.cell? ⟨b,i,none⟩=vs[i]?:=fun i=>cell_of_row w b i vs T (0,0) h3
    have hrun:(execOp a.eval o).run Tryz.prog w=.ok (.enter 94 #[.slice (some ⟨b,0,none⟩) l.length cap]) w:=by
     simp only[execOp,ho,resolve,Deferred.ofValue,Act.eval,Sem.run_bind,Sem.run_pure,Result.andThen_ok,invoke,Array.empty_append,Array.append_empty]
     rw[xF trim_cb]
     simp [h2,hl]
    refine cT hrun (((callsIn_wide (n:=1)).1 (trimV b cap l hd h0 w (fun i hi=>?_) (by omega) h6)).mono fun e w' h=>?_)
    ·rw[hcell]
     obtain ⟨u,e1,_,e3⟩:=g4 i (.d (jD (l.getD i 0))) (by rw[List.getElem?_map,List.getElem?_eq_getElem hi];simp [List.getD,List.getElem?_eq_getElem hi])
     rw[e1,qM e3]
    ·obtain ⟨he,rfl⟩:=h
     exact ⟨_,he,_,D,rfl,Below.refl _ _,⟨fun _ _ _ h=>h,fun _ _ _ h=>.inl h⟩,.inr ⟨b,cap,vs,h1,rfl,h3,h4,by omega,h6⟩⟩
open Go.Fid in
theorem trim_take{l:List Nat}(hd:Dig l):ofNat (val l)=l.take (ofNat (val l)).length:=by
 have h1:∀ (n:Nat) (l:List Nat),l.length=n→Dig l→ofNat (val l)=l.take (ofNat (val l)).length:=by
  intro n
  induction n with
  |zero=>intro l hl _;rw[List.eq_nil_of_length_eq_zero hl];rw[val_nil,uA];rfl
  |succ n ih=>
   intro l hl hd
   have h2:=val_take_succ l n
   rw[← hl,List.take_length] at h2
   by_cases hz:l.getD n 0=0
   ·rw[hz,Nat.mul_zero,Nat.add_zero] at h2
    have h3:=ih (l.take n) (by rw[List.length_take];omega) (hd.take n)
    rw[← h2,List.take_take] at h3
    have h4:(ofNat (val l)).length≤n:=by
     rw[h2];exact qH (by have:=uS (hd.take n);rwa [List.length_take,Nat.min_eq_left (by omega)] at this)
    rw[Nat.min_eq_left h4] at h3
    exact h3
   ·have h3:xZ l:=⟨hd,by
     unfold Top
     rw[show l.length-1=n by omega]
     have h6:n<l.length:=by omega
     simp [List.getD,List.getElem?_eq_getElem h6] at hz ⊢
     exact hz⟩
    rw[← can_eq h3,List.take_length]
 exact h1 _ l rfl hd
end Go.Proofs.YteimogfidbkpnabGreat
