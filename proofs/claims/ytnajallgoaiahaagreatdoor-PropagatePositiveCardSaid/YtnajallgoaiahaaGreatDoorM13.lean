/- Part 13 of a proof: rules, plain facts, and functions walked. -/
import Derived.Test.YtnajallgoaiahaaGreatDoorM7
import Derived.Test.YtnajallgoaiahaaGreatDoorChecked
import Derived.RangeFuncBox
import Derived.Shelf.Abstract
import Derived.OwnWalkIn
import Derived.TacticsInMore
import Derived.LoopNIn
import Derived.LoopIn
import Derived.Test.YtnajallgoaiahaaGreatDoorM12
import Derived.Test.YtnajallgoaiahaaGreatDoorM9
import Derived.Test.YtnajallgoaiahaaGreatDoorM10
set_option linter.all false
set_option maxRecDepth 4000
namespace Go.Proofs.YtnajallgoaiahaaGreatDoor
open Go.RowKit Go.Shelf
attribute [local go_sem] Oper.semAt_some
set_option maxRecDepth 100000 in
set_option maxHeartbeats 2000000 in
theorem back1(N l Bs b off len cap:Nat)(u:Nat→Value)(qV:(len:Int)≤9223372036854775807)(J:Nat→World→Prop)(Jx:World→Prop)
  (hc:∀ j W,J j W→W.cell? ⟨Bs,0,none⟩=some (.slice (some ⟨b,off,none⟩) len cap)∧∀ i,i<len→W.cell? ⟨b,off+i,none⟩=some (u i))
  (hY:∀ j W,J j W→j<len→YieldAt Fence.wide N Tryz.prog l #[.int .i64 ((len:Int)-1-(j:Int)),u (len-1-j)] W fun e W'=>
   (e=.returned (.bool true)∧J (j+1) W')∨(e=.returned (.bool false)∧Jx W'))
  (W:World) (h0:J 0 W) :
  CallsIn Fence.wide (N+1) Tryz.prog 262 #[.func (.yield l) #[] #[],.pointer (some ⟨Bs,0,none⟩)] W fun e W'=>(∃ v,e=.returned v)∧(J len W'∨Jx W'):=by
 refine callsIn_of_wp Tryz.func262 rfl trivial ?_ rfl
 simp only[Tryz.ntmps262,List.size_toArray,List.length_cons,List.length_nil,Nat.reduceAdd,Nat.reduceSub,Array.replicate_succ,Array.replicate_zero,List.push_toArray,List.append_toArray,List.nil_append,List.cons_append]
 have hBs:=(hc 0 W h0).1
 gi_wp2
 gi_loopw [3] (fun i wr=>∃ j:Nat,j≤len∧i=.int .i64 ((len:Int)-1-(j:Int))∧J j wr)
  (fun i _=>(intOf i+1).toNat)
 case atStart=>exact ⟨0,Nat.zero_le _,by simp,h0⟩
 case round=>
  obtain ⟨j,hk,rfl,hJs⟩:=hrel
  have hBj:=(hc j wr hJs).1
  by_cases hlt:j<len
  ·have hcj:=(hc j wr hJs).2 (len-1-j) (by omega)
   obtain ⟨fn,tmps,assign,body,hy,hR⟩:=hY j wr hJs hlt
   gi_wp2
   refine hR.mono ?_
   rintro e W3 (⟨rfl,hJ3⟩ | ⟨rfl,hJx3⟩)
   ·gi_wp2
    go_roundw
    case rel=>exact ⟨j+1,by omega,by simp;omega,hJ3⟩
    case measure=>simp [intOf];omega
   ·gi_wp2
    refine bodyPost_ret (results_none rfl _ _ _) rfl ?_
    exact ⟨⟨_,rfl⟩,.inr hJx3⟩
  ·obtain rfl:j=len:=by omega
   gi_wp2
   go_end0
   exact ⟨⟨_,rfl⟩,.inl hJs⟩
set_option maxRecDepth 100000 in
set_option maxHeartbeats 2000000 in
theorem back1_nil(N l Bs cap:Nat)(ao:Option Addr)(J:World→Prop)(W:World)(hBs:W.cell? ⟨Bs,0,none⟩=some (.slice ao 0 cap))(h0:J W) :
  CallsIn Fence.wide (N+1) Tryz.prog 262 #[.func (.yield l) #[] #[],.pointer (some ⟨Bs,0,none⟩)] W fun e W'=>(∃ v,e=.returned v)∧J W':=by
 refine callsIn_of_wp Tryz.func262 rfl trivial ?_ rfl
 simp only[Tryz.ntmps262,List.size_toArray,List.length_cons,List.length_nil,Nat.reduceAdd,Nat.reduceSub,Array.replicate_succ,Array.replicate_zero,List.push_toArray,List.append_toArray,List.nil_append,List.cons_append]
 gi_wp2
 gi_loopw [3] (fun i wr=>i=.int .i64 (-1)∧J wr) (fun _ _=>0)
 case atStart=>exact ⟨by simp,h0⟩
 case round=>
  obtain ⟨rfl,hJs⟩:=hrel
  gi_wp2
  go_end0
  exact ⟨⟨_,rfl⟩,hJs⟩
set_option maxHeartbeats 1000000 in
theorem back_in(a:Option Addr)(len cap:Nat)(w:World) :
  Calls Tryz.prog 249 #[.slice a len cap] w fun e w'=>e=.returned (.func (.func 262) #[] #[.pointer (some ⟨w.heap.size,0,none⟩)])∧w'=w.alloc (.cells #[.slice a len cap] 41):=by
 refine (callsIn_wide (n:=1)).1 (callsIn_of_wp Tryz.func249 rfl trivial ?_ rfl)
 simp only[Tryz.ntmps249,List.size_toArray,List.length_cons,List.length_nil,Nat.reduceAdd,Nat.reduceSub,Array.replicate_succ,Array.replicate_zero,List.push_toArray,List.append_toArray,List.nil_append,List.cons_append]
 gi_wp2
 go_ret
 exact ⟨rfl,rfl⟩
theorem backs:Go.Fid.Backs Tryz.prog 249 262 41:=⟨back_in,back1_nil,fun N l c b off len cap u qV J Jx hc hY W h0=>back1 N l c b off len cap u qV J Jx hc hY W h0,enters_of Tryz.func262 (by kernel_rfl) rfl⟩
open Go.Fid
theorem cb217:callB Tryz.prog 217=true:=by kernel_rfl
theorem cb218:callB Tryz.prog 218=true:=by kernel_rfl
theorem cb219:callB Tryz.prog 219=true:=by kernel_rfl
theorem cb220:callB Tryz.prog 220=true:=by kernel_rfl
theorem cb221:callB Tryz.prog 221=true:=by kernel_rfl
theorem cb248:callB Tryz.prog 248=true:=by kernel_rfl
theorem cb249:callB Tryz.prog 249=true:=by kernel_rfl
theorem cb250:callB Tryz.prog 250=true:=by kernel_rfl
theorem cb263:callB Tryz.prog 263=true:=by kernel_rfl
theorem pl43:eB Tryz.prog 43=some [(0,1),(1,1)]:=by kernel_rfl
theorem cS:qO Tryz.prog 3=some (false,1):=by kernel_rfl
theorem xZ:qO Tryz.prog 41=some (false,1):=by kernel_rfl
theorem jY:qO Tryz.prog 43=some (true,2):=by kernel_rfl
theorem sh170:qO Tryz.prog 170=some (false,1):=by kernel_rfl
theorem ze3:xX Tryz.prog 3=some [.int .i64 0]:=by kernel_rfl
theorem yN:xX Tryz.prog 43=some [.bool false,.slice none 0 0]:=by kernel_rfl
theorem ze170:xX Tryz.prog 170=some [.int .u64 0]:=by kernel_rfl
theorem zo3:aN [.int .i64 0] [.val (.int .i64 0)]:=by simp [aN,Value.oneCell']
theorem yL:aN [.bool false,.slice none 0 0] [.val (.bool false),.sl 140 1 []]:=by simp [aN,Value.oneCell']
theorem zo170:aN [.int .u64 0] [.val (.int .u64 0)]:=by simp [aN,Value.oneCell']
theorem t_isnan_int(a:Int):jP Tryz.prog 248 [(.val (.int .i64 (a)))] (.val (.bool (false))):=by
 refine jI Tryz.func248 rfl cb248 rfl ?_
 show qJ _ _ _ _ ⟨[(0,(vi a))],[]⟩
 refine jB<|kx [] [] (zM<|zZ) ?_
 refine jB<|kx [(2,(vb (a != a)))] [] (zM<|zM<|zE mC<|zM<|zZ) ?_
 refine jE ⟨_,(.tmp (d:=(.val (.bool ((a != a))))) rfl .nil),?_⟩
 simp [retD]
theorem t_cmp_int(a b:Int):jP Tryz.prog 217 [(.val (.int .i64 (a))),(.val (.int .i64 (b)))] (.val (.int .i64 ((vB a b)))):=by
 refine jI Tryz.func217 rfl cb217 rfl ?_
 show qJ _ _ _ _ ⟨[(0,(vi a)),(1,(vi b))],[]⟩
 refine jB<|kx [] [] (zM<|zZ) ?_
 refine jB<|kx [(5,(vb false))] [] (zM<|zE (jX (t_isnan_int a))<|zM<|zZ) ?_
 refine jB<|kx [(6,(vb false))] [] (zM<|zE (jX (t_isnan_int b))<|zM<|zZ) ?_
 refine jB<|jB<|kx [(11,(vb false))] [] (zM<|zZ) ?_
 refine kS ?_
 refine jD<|jB<|jB<|kx [(13,(vb false))] [] (zM<|zZ) ?_
 refine kS ?_
 refine jD<|jB<|jB<|kx [(16,(vb (decide (a<b))))] [] (zM<|zM<|zE xG<|zZ) ?_
 refine jF (b:=decide (a<b)) rfl (fun h1=>?_) (fun h1=>?_)
 ·replace h1:=uW h1
  refine jB<|kx [(4,(vi (-1)))] [] (zM<|zZ) ?_
  refine jE ⟨_,(.tmp (d:=(.val (.int .i64 (-1)))) rfl .nil),?_⟩
  rw[show vB a b=-1 from if_pos h1];rfl
 ·replace h1:=uX h1
  refine jD<|jB<|jB<|kx [(19,(vb (decide (b<a))))] [] (zM<|zM<|zE mA<|zZ) ?_
  refine jF (b:=decide (b<a)) rfl (fun h2=>?_) (fun h2=>?_)
  ·replace h2:=uW h2
   refine jB<|kx [(4,(jR 1))] [] (zM<|zZ) ?_
   refine jE ⟨_,(.tmp (d:=(.val (.int .i64 (1)))) rfl .nil),?_⟩
   rw[fZ h2];rfl
  ·replace h2:=uX h2
   refine jD<|jB<|kx [(4,(jR 0))] [] (zM<|zZ) ?_
   refine jE ⟨_,(.tmp (d:=(.val (.int .i64 (0)))) rfl .nil),?_⟩
   rw[cmpI_eq h1 h2];rfl
theorem t_isnan_uint32(a:Nat):jP Tryz.prog 263 [(.val (.int .u32 (((a:Nat):Int))))] (.val (.bool (false))):=by
 refine jI Tryz.func263 rfl cb263 rfl ?_
 show qJ _ _ _ _ ⟨[(0,(fP a))],[]⟩
 refine jB<|kx [] [] (zM<|zZ) ?_
 refine jB<|kx [(2,(vb (((a:Nat):Int) != ((a:Nat):Int))))] [] (zM<|zM<|zE mC<|zM<|zZ) ?_
 refine jE ⟨_,(.tmp (d:=(.val (.bool ((((a:Nat):Int) != ((a:Nat):Int)))))) rfl .nil),?_⟩
 simp [retD]
theorem t_cmp_uint32(a b:Nat):jP Tryz.prog 250 [(.val (.int .u32 (((a:Nat):Int)))),(.val (.int .u32 (((b:Nat):Int))))] (.val (.int .i64 ((vB ((a:Nat):Int) ((b:Nat):Int))))):=by
 refine jI Tryz.func250 rfl cb250 rfl ?_
 show qJ _ _ _ _ ⟨[(0,(fP a)),(1,(fP b))],[]⟩
 refine jB<|kx [] [] (zM<|zZ) ?_
 refine jB<|kx [(5,(vb false))] [] (zM<|zE (jX (t_isnan_uint32 a))<|zM<|zZ) ?_
 refine jB<|kx [(6,(vb false))] [] (zM<|zE (jX (t_isnan_uint32 b))<|zM<|zZ) ?_
 refine jB<|jB<|kx [(11,(vb false))] [] (zM<|zZ) ?_
 refine kS ?_
 refine jD<|jB<|jB<|kx [(13,(vb false))] [] (zM<|zZ) ?_
 refine kS ?_
 refine jD<|jB<|jB<|kx [(16,(vb (decide (((a:Nat):Int)<((b:Nat):Int)))))] [] (zM<|zM<|zE xG<|zZ) ?_
 refine jF rfl (fun h1=>?_) (fun h1=>?_)
 ·replace h1:=uW h1
  refine jB<|kx [(4,(vi (-1)))] [] (zM<|zZ) ?_
  refine jE ⟨_,(.tmp (d:=(.val (.int .i64 (-1)))) rfl .nil),?_⟩
  rw[show vB ((a:Nat):Int) ((b:Nat):Int)=-1 from if_pos h1];rfl
 ·replace h1:=uX h1
  refine jD<|jB<|jB<|kx [(19,(vb (decide (((b:Nat):Int)<((a:Nat):Int)))))] [] (zM<|zM<|zE mA<|zZ) ?_
  refine jF rfl (fun h2=>?_) (fun h2=>?_)
  ·replace h2:=uW h2
   refine jB<|kx [(4,(jR 1))] [] (zM<|zZ) ?_
   refine jE ⟨_,(.tmp (d:=(.val (.int .i64 (1)))) rfl .nil),?_⟩
   rw[fZ h2];rfl
  ·replace h2:=uX h2
   refine jD<|jB<|kx [(4,(jR 0))] [] (zM<|zZ) ?_
   refine jE ⟨_,(.tmp (d:=(.val (.int .i64 (0)))) rfl .nil),?_⟩
   rw[cmpI_eq h1 h2];rfl
theorem mX(neg:Bool)(l:List Nat)(hd:Dig l)(hb:l.length≤17592186044416):jP Tryz.prog 220 [(.val (.bool (neg))),(.sl 140 1 (List.map jC l))] (jO (xH neg (val l))):=by
 refine jI Tryz.func220 rfl cb220 rfl ?_
 show qJ _ _ _ _ ⟨[(0,(vb neg)),(1,(vl 140 1 jC l))],[]⟩
 refine jB<|kx [(4,(.ref 0 0))] [(0,some (bx (jO (kU.mk false []))))] (zN (uF 0 yN yL)<|zZ) ?_
 refine jB<|kx [(1,(vl 140 1 jC (ofNat (val l))))] [] (zM<|zE (jX (t_trim l (by assumption) (by omega)))<|zM<|zZ) ?_
 refine jB<|jB<|kx [(9,(vb ((((ofNat (val l)).length:Nat):Int) == 0)))] [] (zM<|zE (uE kK (L:=(ofNat (val l))))<|zE gD<|zZ) ?_
 refine jF rfl (fun h1=>?_) (fun h1=>?_)
 ·replace h1:=eq_of_beq h1
  refine jB<|kx [] [(0,some (bx (jO (kU.mk false []))))] (zE (bY pl43 yN yL)<|zT (qK jY)<|zZ) ?_
  refine jE ⟨_,(kN (cs:=(bx (jO (kU.mk false [])))) (d:=(jO (kU.mk false []))) rfl rfl jY rfl rfl .nil),?_⟩
  rw[mkI_zero h1];rfl
 ·replace h1:=ne_of_beq_false h1
  refine jD<|jB<|kx [] [(0,some (bx (jO (kU.mk neg (ofNat (val l))))))] (zM<|zM<|zE (bY pl43 yN yL)<|zT (qK jY)<|zZ) ?_
  refine jE ⟨_,(kN (cs:=(bx (jO (kU.mk neg (ofNat (val l)))))) (d:=(jO (kU.mk neg (ofNat (val l))))) rfl rfl jY rfl rfl .nil),?_⟩
  rw[mkI_pos h1];rfl
theorem t_word(l:List Nat)(hd:Dig l):jP Tryz.prog 219 [(.sl 140 1 (List.map jC l))] (.tup [(.val (.int .u64 ((((yS l):Nat):Int)))),(.val (.bool ((mV l))))]):=by
 refine jI Tryz.func219 rfl cb219 rfl ?_
 show qJ _ _ _ _ ⟨[(0,(vl 140 1 jC l))],[]⟩
 refine jB<|kx [(2,(gE 0)),(3,(vb false))] [] (zM<|zM<|zZ) ?_
 refine jB<|jB<|kx [(9,(vb (decide (2<((l.length:Nat):Int)))))] [] (zM<|zE (uE kK)<|zE mA<|zZ) ?_
 refine jF (b:=decide (2<((l.length:Nat):Int))) rfl (fun h1=>?_) (fun h1=>?_)
 ·replace h1:=uW h1
  refine jB<|kx [(2,(gE 0)),(3,(vb false))] [] (zM<|zM<|zZ) ?_
  refine jE ⟨_,(.tmp (d:=(.val (.int .u64 (0)))) rfl (.tmp (d:=(.val (.bool (false)))) rfl .nil)),?_⟩
  rw[show yS l=0 from if_neg (by omega),show mV l=false from decide_eq_false (by omega)];rfl
 ·replace h1:=uX h1
  have h2:l.length≤2:=by omega
  refine jD<|jB<|kx [(4,(.ref 0 0))] [(0,some (bx (.val (.int .u64 (0)))))] (zN (uF 0 ze170 zo170)<|zT (qK sh170)<|zZ) ?_
  refine jB<|pwp_backL backs cb249 rfl 5 jC l 0 (fun n=>⟨[(2,(gE 0)),(3,(vb false)),(4,(.ref 0 0))],[(0,some (bx (.val (.int .u64 (((n:Nat):Int))))))]⟩) (fun (j:Nat) n=>n=val (l.drop (l.length-j))) 0 rfl rfl rfl rfl rfl rfl rfl rfl rfl rfl rfl rfl (fun _=>rfl) (fun _=>rfl) wk (by simp [val]) (by omega) ?_ ?_
  ·rintro rl j n hj hn
   have hw:=word_bound hd hj h2
   rw[← hn] at hw
   have hg:=hd.getD (l.length-1-j)
   refine kx [(6,(fP (l.getD (l.length-1-j) 0)))] [] (zM<|zZ) ?_
   refine jH<|kx [] [(0,some (bx (.val (.int .u64 (((((n*1000000000)+(l.getD (l.length-1-j) 0)):Nat):Int))))))] (zR (uN sh170)<|zE (oMl (n*1000000000))<|zM<|zE (cA yT yR (l.getD (l.length-1-j) 0))<|zE (vT ((n*1000000000)+(l.getD (l.length-1-j) 0)))<|zT (qK sh170)<|zZ) ?_
   exact ⟨n*1000000000+l.getD (l.length-1-j) 0,wk,(by dsimp only;rw[aT l j hj,← hn];omega)⟩
  ·rintro n hn
   refine jB<|kx [(2,(gE n)),(3,(vb true))] [] (zR (uN sh170)<|zM<|zM<|zZ) ?_
   refine jE ⟨_,(.tmp (d:=(.val (.int .u64 (((n:Nat):Int))))) rfl (.tmp (d:=(.val (.bool (true)))) rfl .nil)),?_⟩
   rw[show yS l=n by rw[hn,Nat.sub_self,List.drop_zero];exact if_pos h2,show mV l=true from decide_eq_true h2];rfl
theorem t_compare(a b:List Nat)(ha:yG a)(hb:yG b)(hla:a.length≤17592186044416):jP Tryz.prog 218 [(.sl 140 1 (List.map jC a)),(.sl 140 1 (List.map jC b))] (.val (.int .i64 ((vB ((val a:Nat):Int) ((val b:Nat):Int))))):=by
 refine jI Tryz.func218 rfl cb218 rfl ?_
 show qJ _ _ _ _ ⟨[(0,(vl 140 1 jC a)),(1,(vl 140 1 jC b))],[]⟩
 refine jB<|kx [(3,(.ref 0 0)),(4,(.ref 1 0))] [(0,some (bx (.sl 140 1 (List.map jC b)))),(1,some (bx (.val (.int .i64 (0)))))] (zN (vW 0)<|zN (uF 1 ze3 zo3)<|zZ) ?_
 refine jB<|jB<|kx [(11,(vb (((a.length:Nat):Int) != ((b.length:Nat):Int))))] [] (zM<|zE (uE kK)<|zR (uN xZ)<|zE (uE kK)<|zE mC<|zZ) ?_
 refine jF rfl (fun h1=>?_) (fun h1=>?_)
 ·replace h1:=bne_iff_ne.1 h1
  refine jB<|kx [] [(1,some (bx (.val (.int .i64 ((vB ((a.length:Nat):Int) ((b.length:Nat):Int)))))))] (zM<|zE (uE kK)<|zR (uN xZ)<|zE (uE kK)<|zE (jX (t_cmp_int ((a.length:Nat):Int) ((b.length:Nat):Int)))<|zT (qK cS)<|zZ) ?_
  refine jE ⟨_,(res_1 (cs:=(bx (.val (.int .i64 ((vB ((a.length:Nat):Int) ((b.length:Nat):Int))))))) (d:=(.val (.int .i64 ((vB ((a.length:Nat):Int) ((b.length:Nat):Int)))))) rfl rfl cS rfl rfl .nil),?_⟩
  rw[← cmpI_len ha hb h1];rfl
 ·replace h1:=bne_eq_false_iff_eq.1 h1
  have hl:a.length=b.length:=by omega
  refine jD<|jB<|pwp_backL backs cb249 rfl 5 jC a 0 (fun _=>⟨[(3,(.ref 0 0)),(4,(.ref 1 0))],[(0,some (bx (.sl 140 1 (List.map jC b)))),(1,some (bx (.val (.int .i64 (0)))))]⟩) (fun (j:Nat) _=>val (a.drop (a.length-j))=val (b.drop (a.length-j))) () rfl rfl rfl rfl rfl rfl rfl rfl rfl rfl rfl rfl (fun _=>rfl) (fun _=>rfl) wk (by rw[Nat.sub_zero,List.drop_length,hl,List.drop_length]) (by omega) ?_ ?_
  ·rintro rl j ⟨⟩ hj he
   refine jB<|kx [(5,(jR (a.length-1-j)))] [] (zM<|zZ) ?_
   refine kx [(6,(fP (a.getD (a.length-1-j) 0)))] [] (zM<|zZ) ?_
   refine jH<|jB<|kx [(26,(vb ((((a.getD (a.length-1-j) 0):Nat):Int) != (((b.getD (a.length-1-j) 0):Nat):Int))))] [] (zM<|zR (uN xZ)<|zM<|zE (xJ kK (a.length-1-j) (0:Nat))<|zE (xO qR)<|zE mC<|zZ) ?_
   refine jF rfl (fun h2=>?_) (fun h2=>?_)
   ·replace h2:=bne_iff_ne.1 h2
    refine jB<|kx [] [(1,some (bx (.val (.int .i64 ((vB (((a.getD (a.length-1-j) 0):Nat):Int) (((b.getD (a.length-1-j) 0):Nat):Int)))))))] (zM<|zR (uN xZ)<|zM<|zE (xJ kK (a.length-1-j) (0:Nat))<|zE (xO qR)<|zE (jX (t_cmp_uint32 (a.getD (a.length-1-j) 0) (b.getD (a.length-1-j) 0)))<|zT (qK cS)<|zZ) ?_
    refine jE ⟨⟨[(4,(.ref 1 0))],[(1,some (bx (.val (.int .i64 ((vB (((a.getD (a.length-1-j) 0):Nat):Int) (((b.getD (a.length-1-j) 0):Nat):Int)))))))]⟩,wk,keys_of rfl,⟨_,(res_1 (cs:=(bx (.val (.int .i64 ((vB (((a.getD (a.length-1-j) 0):Nat):Int) (((b.getD (a.length-1-j) 0):Nat):Int))))))) (d:=(.val (.int .i64 ((vB (((a.getD (a.length-1-j) 0):Nat):Int) (((b.getD (a.length-1-j) 0):Nat):Int)))))) rfl rfl cS rfl rfl .nil),?_⟩⟩
    rw[← cmpI_top ha.1 hb.1 hl hj he h2];rfl
   ·replace h2:=bne_eq_false_iff_eq.1 h2
    refine jD ?_
    exact ⟨(),wk,(by dsimp only;have e1:=aT a j hj;have e2:=aT b j (by omega);rw[← hl] at e2;rw[e1,e2,he];omega)⟩
  ·rintro ⟨⟩ he
   refine jB<|kx [] [(1,some (bx (.val (.int .i64 (0)))))] (zT (qK cS)<|zZ) ?_
   refine jE ⟨_,(res_1 (cs:=(bx (.val (.int .i64 (0))))) (d:=(.val (.int .i64 (0)))) rfl rfl cS rfl rfl .nil),?_⟩
   rw[cmpI_same (by rw[Nat.sub_self,List.drop_zero,List.drop_zero] at he;exact he)];rfl
theorem t_split(n:Nat)(hn:n<18446744073709551616):jP Tryz.prog 221 [(.val (.int .u64 (((n:Nat):Int))))] (.sl 140 1 (List.map jC (ofNat n))):=by
 refine jI Tryz.func221 rfl cb221 rfl ?_
 show qJ _ _ _ _ ⟨[(0,(gE n))],[]⟩
 refine jB<|kx [] [] (zE (cT 140 1)<|zZ) ?_
 refine jB<|kx [(3,(.own 0 140 1 0))] [(0,some (bm jC []))] (zO 0 140 1<|zZ) ?_
 refine jB<|jH<|kB (α:=Nat × List Nat) (fun (m,g)=>⟨[(0,(gE m)),(3,(.own 0 140 1 g.length))],[(0,some (bm jC g))]⟩) (fun (m,g)=>m≤n∧g++ofNat m=ofNat n) (fun (m,g)=>m) (n,[]) wk ⟨Nat.le_refl _,by rw[List.nil_append]⟩ ?_
 rintro ⟨m,g⟩ ⟨hm,hg⟩
 have hl:=split_len hg hn
 refine jB<|jB<|kx [(5,(vb (decide (0<((m:Nat):Int)))))] [] (zM<|zE mA<|zZ) ?_
 refine jF (b:=decide (0<((m:Nat):Int))) rfl (fun h1=>?_) (fun h1=>?_)
 ·replace h1:=uW h1
  refine jD<|jB<|jH<|kf [(3,(.own 0 140 1 ((g++[(m % 1000000000)]).length)))] [(0,some (bm jC (g++[(m % 1000000000)])))] (zM<|zM<|zE (oRe (m % 1000000000))<|zE (cA nE gU (m % 1000000000))<|zE (eC kK vP yJ)<|zA jC g [(m % 1000000000)] rfl kK vP nS<|zM<|zF) ?_
  refine kx [(0,(gE (m / 1000000000)))] [] (zM<|zE (oQu (m / 1000000000))<|zM<|zZ) ?_
  exact ⟨(m / 1000000000,g++[m % 1000000000]),wk,⟨by omega,split_step hg h1⟩,(by first|omega|(dsimp only;omega))⟩
 ·replace h1:=uX h1
  refine kC<|jB<|kV (vN (t:=3) (k:=0) (es:=List.map jC g) rfl rfl (uI _ _ (fun _=>rfl)) (uT _ _ rfl) (vH _ _ (fun _=>rfl) rfl)) ?_
  refine kx [(2,(vl 140 1 jC g))] [] (zM<|zM<|zZ) ?_
  refine jE ⟨_,(.tmp (d:=(.sl 140 1 (List.map jC g))) rfl .nil),?_⟩
  rw[split_end hg h1];rfl
theorem cb135:callB Tryz.prog 135=true:=by kernel_rfl
theorem cb214:callB Tryz.prog 214=true:=by kernel_rfl
theorem cb215:callB Tryz.prog 215=true:=by kernel_rfl
theorem cb216:callB Tryz.prog 216=true:=by kernel_rfl
theorem cb223:callB Tryz.prog 223=true:=by kernel_rfl
theorem cb247:callB Tryz.prog 247=true:=by kernel_rfl
theorem vL:xP Tryz.prog 43 0=some 0:=by kernel_rfl
theorem vS:xP Tryz.prog 43 1=some 1:=by kernel_rfl
theorem aU:qO Tryz.prog 4=some (false,1):=by kernel_rfl
theorem t_big(a:Nat):jP Tryz.prog 215 [(.val (.int .u32 (((a:Nat):Int))))] (.val (.bool ((decide (1000000000≤((a:Nat):Int)))))):=by
 refine jI Tryz.func215 rfl cb215 rfl ?_
 show qJ _ _ _ _ ⟨[(0,(fP a))],[]⟩
 refine jB<|kx [] [] (zM<|zZ) ?_
 refine jB<|kx [(2,(vb (decide (1000000000≤((a:Nat):Int)))))] [] (zM<|zE oGe<|zM<|zZ) ?_
 refine jE ⟨_,(.tmp (d:=(.val (.bool (decide (1000000000≤((a:Nat):Int)))))) rfl .nil),?_⟩
 rfl
theorem t_index(l:List Nat)(hb:l.length≤17592186044416):jP Tryz.prog 247 [(.sl 140 1 (List.map jC l)),(.val (.func (.func 215) #[] #[]))] (.val (.int .i64 ((xQ l)))):=by
 refine jI Tryz.func247 rfl cb247 rfl ?_
 show qJ _ _ _ _ ⟨[(0,(vl 140 1 jC l)),(1,(.d (.val (.func (.func 215) #[] #[]))))],[]⟩
 refine jB<|kx [] [] (zM<|zZ) ?_
 refine jB<|jB<|kx [(7,(jR l.length)),(8,(jR 0))] [] (zM<|zE (uE kK)<|zM<|zZ) ?_
 refine jH<|kB (α:=Nat) (fun i=>⟨[(0,(vl 140 1 jC l)),(1,(.d (.val (.func (.func 215) #[] #[])))),(7,(jR l.length)),(8,(jR i))],[]⟩) (fun i=>i≤l.length∧Dig (l.take i)) (fun i=>l.length-i) 0 wk ⟨Nat.zero_le _,gW⟩ ?_
 rintro i ⟨hi,hd⟩
 refine jB<|kx [(9,(vb (decide (((i:Nat):Int)<((l.length:Nat):Int)))))] [] (zE xG<|zZ) ?_
 refine jB<|jF rfl (fun h1=>?_) (fun h1=>?_)
 ·replace h1:=uW h1
  refine jD<|jB<|jH<|jB<|kx [(5,(jR i))] [] (zM<|zM<|zZ) ?_
  refine jB<|kx [(16,(vb (decide (1000000000≤(((l.getD i 0):Nat):Int)))))] [] (zM<|zM<|zM<|zE (xJ kK i (0:Nat))<|zE (xO qR)<|zE (jX (t_big (l.getD i 0)))<|zZ) ?_
  refine jF rfl (fun h2=>?_) (fun h2=>?_)
  ·replace h2:=uW h2
   refine jB<|kx [(4,(jR i))] [] (zM<|zM<|zZ) ?_
   refine jE ⟨_,(.tmp (d:=(.val (.int .i64 (((i:Nat):Int))))) rfl .nil),?_⟩
   rw[firstBig_at (by omega) hd (by omega)];rfl
  ·replace h2:=uX h2
   refine jD<|kx [(8,(jR (i+1)))] [] (zE (vT (i+1))<|zM<|zZ) ?_
   exact ⟨(i+1),wk,⟨by omega,dig_take_succ (by omega) hd (by omega)⟩,(by omega)⟩
 ·replace h1:=uX h1
  refine kC<|jB<|kx [(4,(vi (-1)))] [] (zM<|zZ) ?_
  refine jE ⟨_,(.tmp (d:=(.val (.int .i64 (-1)))) rfl .nil),?_⟩
  rw[bO (by rw[List.take_of_length_le (by omega)] at hd;exact hd)];rfl
theorem t_contains(l:List Nat)(hb:l.length≤17592186044416):jP Tryz.prog 214 [(.sl 140 1 (List.map jC l)),(.val (.func (.func 215) #[] #[]))] (.val (.bool ((decide (0≤xQ l))))):=by
 refine jI Tryz.func214 rfl cb214 rfl ?_
 show qJ _ _ _ _ ⟨[(0,(vl 140 1 jC l)),(1,(.d (.val (.func (.func 215) #[] #[]))))],[]⟩
 refine jB<|kx [] [] (zM<|zZ) ?_
 refine jB<|kx [(4,(vb (decide (0≤(xQ l)))))] [] (zM<|zM<|zE (jX (t_index l (by omega)))<|zE oGe<|zM<|zZ) ?_
 refine jE ⟨_,(.tmp (d:=(.val (.bool (decide (0≤(xQ l)))))) rfl .nil),?_⟩
 rfl
theorem t_valid(x:kU)(hb:x.gs.length≤17592186044416):jP Tryz.prog 135 [(jO x)] (.val (.bool ((uP x)))):=by
 refine jI Tryz.func135 rfl cb135 rfl ?_
 show qJ _ _ _ _ ⟨[(0,(.d (jO x)))],[]⟩
 refine jB<|kx [(1,(.ref 0 0))] [(0,some (bx (jO x)))] (zN (vW 0)<|zM<|zZ) ?_
 refine jB<|kx [(3,(jR x.gs.length))] [] (zE (qE vS)<|zR (uN xZ)<|zE (uE kK)<|zM<|zZ) ?_
 refine jB<|jB<|kx [(8,(vb (((x.gs.length:Nat):Int) == 0)))] [] (zM<|zE gD<|zZ) ?_
 refine jF (b:=(((x.gs.length:Nat):Int) == 0)) rfl (fun h1=>?_) (fun h1=>?_)
 ·replace h1:=eq_of_beq h1
  refine jB<|kx [(2,(vb (!x.neg)))] [] (zE (qE vL)<|zR (uN aU)<|zE nY<|zM<|zZ) ?_
  refine jE ⟨_,(.tmp (d:=(.val (.bool (!x.neg)))) rfl .nil),?_⟩
  rw[show uP x=!x.neg from if_pos h1];rfl
 ·replace h1:=ne_of_beq_false h1
  refine jD<|jB<|kx [(2,(vb (((((x.gs.getD (x.gs.length-1) 0):Nat):Int) != 0)&&!(decide (0≤xQ x.gs)))))] [] ?_ ?_
  ·refine zE (qE vS)<|zR (uN xZ)<|zM<|zE (oSb (x.gs.length-1))<|zE (xJ kK (x.gs.length-1) (0:Nat))<|zE (xO qR)<|zE mC<|zE (oV (vb ((((x.gs.getD (x.gs.length-1) 0):Nat):Int) != 0)) (kR (by kernel_rfl)))<|?_
   rcases hb2:((((x.gs.getD (x.gs.length-1) 0):Nat):Int) != 0) with _ | _
   ·replace hb2:=bne_eq_false_iff_eq.1 hb2
    exact zK<|zK<|zK<|zK<|zE xN<|zM<|zZ
   ·replace hb2:=bne_iff_ne.1 hb2
    exact zE (qE vS)<|zR (uN xZ)<|zE (jX (t_contains x.gs (by omega)))<|zE nY<|zE fM<|zM<|zZ
  refine jE ⟨_,(.tmp (d:=(.val (.bool ((((((x.gs.getD (x.gs.length-1) 0):Nat):Int) != 0)&&!(decide (0≤xQ x.gs))))))) rfl .nil),?_⟩
  rw[show uP x=_ from if_neg h1];rfl
theorem gK(x:kU)(hb:x.gs.length≤17592186044416):jP Tryz.prog 216 [(jO x)] (.sl 140 1 (List.map jC (kO x))):=by
 refine jI Tryz.func216 rfl cb216 rfl ?_
 show qJ _ _ _ _ ⟨[(0,(.d (jO x)))],[]⟩
 refine jB<|kx [(1,(.ref 0 0))] [(0,some (bx (jO x)))] (zN (vW 0)<|zE (cT 140 1)<|zZ) ?_
 refine jB<|jB<|kx [(5,(vb (!(uP x))))] [] (zR (kM jY)<|zE (jX (t_valid x (by omega)))<|zE nY<|zZ) ?_
 refine jF (b:=!(uP x)) rfl (fun h1=>?_) (fun h1=>?_)
 ·refine jB<|kx [(2,(vl 140 1 jC []))] [] (zE (cT 140 1)<|zZ) ?_
  refine jE ⟨_,(.tmp (d:=(.sl 140 1 (List.map jC []))) rfl .nil),?_⟩
  rw[show kO x=[] from if_neg (by simpa using h1)];rfl
 ·refine jD<|jB<|kx [(2,(vl 140 1 jC x.gs))] [] (zE (qE vS)<|zR (uN xZ)<|zM<|zZ) ?_
  refine jE ⟨_,(.tmp (d:=(.sl 140 1 (List.map jC x.gs))) rfl .nil),?_⟩
  rw[show kO x=x.gs from if_pos (by simpa using h1)];rfl
theorem t_clone(l:List Nat)(hb:l.length≤17592186044416):jP Tryz.prog 223 [(.sl 140 1 (List.map jC l))] (.sl 140 1 (List.map jC l)):=by
 refine jI Tryz.func223 rfl cb223 rfl ?_
 show qJ _ _ _ _ ⟨[(0,(vl 140 1 jC l))],[]⟩
 refine jB<|kx [] [] (zE (cT 140 1)<|zZ) ?_
 refine jB<|jB<|pwp_nilq rfl rfl rfl rfl rfl rfl kK rfl rfl rfl (fun nb hnb=>?_)
 refine jF (b:=nb) rfl (fun h1=>?_) (fun h1=>?_)
 ·refine jB<|kx [(2,(vl 140 1 jC []))] [] (zE (cT 140 1)<|zZ) ?_
  refine jE ⟨_,(.tmp (d:=(.sl 140 1 (List.map jC []))) rfl .nil),?_⟩
  rw[List.map_eq_nil_iff.1 (hnb h1)];rfl
 ·refine jD<|jB<|kf [(2,(.own 0 140 1 (([]++l).length)))] [(0,some (bm jC ([]++l)))] (zN (oBo 0 kK vP yJ)<|zM<|zA jC [] l rfl kK vP nS<|zM<|zF) ?_
  refine kV (vN (t:=2) (k:=0) (es:=List.map jC ([]++l)) rfl rfl (uI _ _ (fun _=>rfl)) (uT _ _ rfl) (vH _ _ (fun _=>rfl) rfl)) ?_
  refine jE ⟨_,(.tmp (d:=(.sl 140 1 (List.map jC ([]++l)))) rfl .nil),?_⟩
  rfl
theorem bo4:boolB Tryz.prog 4=true:=by kernel_rfl
theorem cb136:callB Tryz.prog 136=true:=by kernel_rfl
theorem cb137:callB Tryz.prog 137=true:=by kernel_rfl
theorem cb139:callB Tryz.prog 139=true:=by kernel_rfl
theorem cb142:callB Tryz.prog 142=true:=by kernel_rfl
theorem cb150:callB Tryz.prog 150=true:=by kernel_rfl
theorem cb225:callB Tryz.prog 225=true:=by kernel_rfl
theorem cb229:callB Tryz.prog 229=true:=by kernel_rfl
theorem un3:(Tryz.prog.underlying 3).isSome=true:=by kernel_rfl
theorem t_sign(x:kU)(hx:x.gs.length≤1099511627776):jP Tryz.prog 136 [(jO x)] (.val (.int .i64 ((qZ (kA x))))):=by
 refine jI Tryz.func136 rfl cb136 rfl ?_
 show qJ _ _ _ _ ⟨[(0,(.d (jO x)))],[]⟩
 refine jB<|kx [(1,(.ref 0 0))] [(0,some (bx (jO x)))] (zN (vW 0)<|zM<|zZ) ?_
 refine jB<|jH<|jB<|kx [(3,(vb ((((kO x).length:Nat):Int) == 0)))] [] (zR (kM jY)<|zE (jX (gK x (by omega)))<|zE (uE kK (L:=(kO x)))<|zE gD<|zM<|zZ) ?_
 refine jF (b:=((((kO x).length:Nat):Int) == 0)) rfl (fun h1=>?_) (fun h1=>?_)
 ·replace h1:=eq_of_beq h1
  refine jB<|kx [(2,(jR 0))] [] (zM<|zZ) ?_
  refine jE ⟨_,(.tmp (d:=(.val (.int .i64 (0)))) rfl .nil),?_⟩
  rw[toZ_nil h1];rfl
 ·replace h1:=ne_of_beq_false h1
  refine jB<|kx [(8,(vb x.neg))] [] (zE (qE vL)<|zR (uN aU)<|zM<|zZ) ?_
  refine jF (b:=x.neg) rfl (fun h2=>?_) (fun h2=>?_)
  ·refine jB<|kx [(2,(vi (-1)))] [] (zM<|zZ) ?_
   refine jE ⟨_,(.tmp (d:=(.val (.int .i64 (-1)))) rfl .nil),?_⟩
   rw[sign_neg h1 h2];rfl
  ·refine jD<|jB<|kx [(2,(jR 1))] [] (zM<|zZ) ?_
   refine jE ⟨_,(.tmp (d:=(.val (.int .i64 (1)))) rfl .nil),?_⟩
   rw[sign_pos h1 h2];rfl
theorem t_neg(x:kU)(hx:x.gs.length≤1099511627776):jP Tryz.prog 225 [(jO x)] (jO (kH (-kA x))):=by
 refine jI Tryz.func225 rfl cb225 rfl ?_
 show qJ _ _ _ _ ⟨[(0,(.d (jO x)))],[]⟩
 refine jB<|kx [(1,(.ref 0 0)),(2,(.ref 1 0))] [(0,some (bx (jO x))),(1,some (bx (jO (kU.mk false []))))] (zN (vW 0)<|zN (uF 1 yN yL)<|zZ) ?_
 refine jB<|kd [] [(1,some (bx (jO (xH (!x.neg) (val (kO x))))))] mo (wE (qE vL)<|wR (uN aU)<|wE nY<|wR (kM jY)<|wE (jX (gK x (by omega)))<|wE (jX (t_clone (kO x) (Nat.le_trans (gF _) (by omega))))<|wE (jX (mX (!x.neg) (kO x) (qN _).1 (Nat.le_trans (gF _) (by omega))))<|wT (qK jY)<|wZ) ?_
 refine jE ⟨_,(kN (cs:=(bx (jO (xH (!x.neg) (val (kO x)))))) (d:=(jO (xH (!x.neg) (val (kO x))))) rfl rfl jY rfl rfl .nil),?_⟩
 rw[← neg_eq];rfl
theorem t_sum(b:Bool)(l:List Nat)(c:Bool)(m:List Nat)(hl:yG l)(hm:yG m)(hll:l.length≤1099511627776)(hlm:m.length≤1099511627776):jP Tryz.prog 229 [(.val (.bool (b))),(.sl 140 1 (List.map jC l)),(.val (.bool (c))),(.sl 140 1 (List.map jC m))] (jO (kH (cU b (val l)+cU c (val m)))):=by
 refine jI Tryz.func229 rfl cb229 rfl ?_
 show qJ _ _ _ _ ⟨[(0,(vb b)),(1,(vl 140 1 jC l)),(2,(vb c)),(3,(vl 140 1 jC m))],[]⟩
 refine jB<|kx [(8,(.ref 0 0))] [(0,some (bx (jO (kU.mk false []))))] (zN (uF 0 yN yL)<|zZ) ?_
 refine jB<|jH<|jB<|kx [(9,(vb (b == c)))] [] (zM<|zM<|zE (oEb bo4)<|zM<|zZ) ?_
 refine jF (b:=(b == c)) rfl (fun h1=>?_) (fun h1=>?_)
 ·replace h1:=eq_of_beq h1
  refine jB<|kx [] [(0,some (bx (jO (xH b (val (ofNat (val l+val m)))))))] (zM<|zM<|zM<|zE (jX (t_plus l m hl.1 hm.1 (by omega) (by omega)))<|zE (jX (mX b (ofNat (val l+val m)) (kJ _) (Nat.le_trans (add_len hl.1 hm.1) (by omega))))<|zT (qK jY)<|zZ) ?_
  refine jE ⟨_,(kN (cs:=(bx (jO (xH b (val (ofNat (val l+val m))))))) (d:=(jO (xH b (val (ofNat (val l+val m)))))) rfl rfl jY rfl rfl .nil),?_⟩
  rw[← sum_same h1];rfl
 ·replace h1:=ne_of_beq_false h1
  refine jB<|kx [(18,(vb (decide (0≤(vB ((val l:Nat):Int) ((val m:Nat):Int))))))] [] (zM<|zM<|zE (jX (t_compare l m (by assumption) (by assumption) (by omega)))<|zE oGe<|zM<|zZ) ?_
  refine jF rfl (fun h2=>?_) (fun h2=>?_)
  ·replace h2:=uW h2
   refine jB<|kx [] [(0,some (bx (jO (xH b (val (ofNat (val l-val m)))))))] (zM<|zM<|zM<|zE (jX (t_minus l m hl.1 hm.1 (by have:=iF h2;omega) (by omega)))<|zE (jX (mX b (ofNat (val l-val m)) (kJ _) (Nat.le_trans (sub_len hl.1) (by omega))))<|zT (qK jY)<|zZ) ?_
   refine jE ⟨_,(kN (cs:=(bx (jO (xH b (val (ofNat (val l-val m))))))) (d:=(jO (xH b (val (ofNat (val l-val m)))))) rfl rfl jY rfl rfl .nil),?_⟩
   rw[← sum_first h1 (by have:=iF h2;omega)];rfl
  ·replace h2:=uX h2
   refine jD<|jB<|kx [] [(0,some (bx (jO (xH c (val (ofNat (val m-val l)))))))] (zM<|zM<|zM<|zE (jX (t_minus m l hm.1 hl.1 (by have:=cmpI_lt h2;omega) (by omega)))<|zE (jX (mX c (ofNat (val m-val l)) (kJ _) (Nat.le_trans (sub_len hm.1) (by omega))))<|zT (qK jY)<|zZ) ?_
   refine jE ⟨_,(kN (cs:=(bx (jO (xH c (val (ofNat (val m-val l))))))) (d:=(jO (xH c (val (ofNat (val m-val l)))))) rfl rfl jY rfl rfl .nil),?_⟩
   rw[← sum_second h1 (by have:=cmpI_lt h2;omega)];rfl
theorem t_add(x:kU)(y:kU)(hx:x.gs.length≤1099511627776)(hy:y.gs.length≤1099511627776):jP Tryz.prog 150 [(jO x),(jO y)] (jO (kH (kA x+kA y))):=by
 refine jI Tryz.func150 rfl cb150 rfl ?_
 show qJ _ _ _ _ ⟨[(0,(.d (jO x))),(1,(.d (jO y)))],[]⟩
 refine jB<|kx [(2,(.ref 0 0)),(3,(.ref 1 0)),(4,(.ref 2 0))] [(0,some (bx (jO x))),(1,some (bx (jO y))),(2,some (bx (jO (kU.mk false []))))] (zN (vW 0)<|zN (vW 1)<|zN (uF 2 yN yL)<|zZ) ?_
 refine jB<|kd [] [(2,some (bx (jO (kH (cU x.neg (val (kO x))+cU y.neg (val (kO y)))))))] mo (wE (qE vL)<|wR (uN aU)<|wR (kM jY)<|wE (jX (gK x (by omega)))<|wE (qE vL)<|wR (uN aU)<|wR (kM jY)<|wE (jX (gK y (by omega)))<|wE (jX (t_sum x.neg (kO x) y.neg (kO y) (qN _) (qN _) (Nat.le_trans (gF _) (by omega)) (Nat.le_trans (gF _) (by omega))))<|wT (qK jY)<|wZ) ?_
 refine jE ⟨_,(kN (cs:=(bx (jO (kH (cU x.neg (val (kO x))+cU y.neg (val (kO y))))))) (d:=(jO (kH (cU x.neg (val (kO x))+cU y.neg (val (kO y)))))) rfl rfl jY rfl rfl .nil),?_⟩
 rfl
theorem t_mul(x:kU)(y:kU)(hx:x.gs.length≤1099511627776)(hy:y.gs.length≤1099511627776):jP Tryz.prog 142 [(jO x),(jO y)] (jO (kH (kA x*kA y))):=by
 refine jI Tryz.func142 rfl cb142 rfl ?_
 show qJ _ _ _ _ ⟨[(0,(.d (jO x))),(1,(.d (jO y)))],[]⟩
 refine jB<|kx [(2,(.ref 0 0)),(3,(.ref 1 0)),(4,(.ref 2 0))] [(0,some (bx (jO x))),(1,some (bx (jO y))),(2,some (bx (jO (kU.mk false []))))] (zN (vW 0)<|zN (vW 1)<|zN (uF 2 yN yL)<|zZ) ?_
 refine jB<|kd [] [(2,some (bx (jO (xH (!(x.neg == y.neg)) (val (ofNat (val (kO x)*val (kO y))))))))] mo (wE (qE vL)<|wR (uN aU)<|wE (qE vL)<|wR (uN aU)<|wE (oNb bo4)<|wR (kM jY)<|wE (jX (gK x (by omega)))<|wR (kM jY)<|wE (jX (gK y (by omega)))<|wE (jX (t_times (kO x) (kO y) (qN _).1 (qN _).1 (Nat.le_trans (gF _) (by omega)) (Nat.le_trans (gF _) (by omega))))<|wE (jX (mX (!(x.neg == y.neg)) (ofNat (val (kO x)*val (kO y))) (kJ _) (Nat.le_trans (mul_len (qN _).1 (qN _).1) (by have:=gF x;have:=gF y;omega))))<|wT (qK jY)<|wZ) ?_
 refine jE ⟨_,(kN (cs:=(bx (jO (xH (!(x.neg == y.neg)) (val (ofNat (val (kO x)*val (kO y)))))))) (d:=(jO (xH (!(x.neg == y.neg)) (val (ofNat (val (kO x)*val (kO y))))))) rfl rfl jY rfl rfl .nil),?_⟩
 rw[show kA x*kA y=_ from rfl,kA,kA,← mul_eq];rfl
theorem t_of(n:Int)(hlo:-9223372036854775808≤n)(hhi:n≤9223372036854775807):jP Tryz.prog 139 [(.val (.int .i64 (n)))] (jO (kH n)):=by
 refine jI Tryz.func139 rfl cb139 rfl ?_
 show qJ _ _ _ _ ⟨[(0,(vi n))],[]⟩
 refine jB<|kx [(2,(.ref 0 0))] [(0,some (bx (jO (kU.mk false []))))] (zN (uF 0 yN yL)<|zZ) ?_
 refine jB<|kx [(3,(gE ((n % 18446744073709551616).toNat)))] [] (zM<|zE (cA un3 yR ((n % 18446744073709551616).toNat) (hr:=by exact (conv_u64 _)))<|zM<|zZ) ?_
 refine jB<|jB<|kx [(7,(vb (decide (n<0))))] [] (zM<|zE xG<|zZ) ?_
 refine jF (b:=decide (n<0)) rfl (fun h1=>?_) (fun h1=>?_)
 ·replace h1:=uW h1
  refine kx [(3,(gE ((-n).toNat)))] [] (zM<|zE (oNg (((-n).toNat:Nat):Int) (hr:=by exact (neg_u64 (by assumption) hlo)))<|zM<|zZ) ?_
  refine jB<|kx [] [(0,some (bx (jO (xH (decide (n<0)) (val (ofNat ((-n).toNat)))))))] (zM<|zE xG<|zM<|zE (jX (t_split ((-n).toNat) (by omega)))<|zE (jX (mX (decide (n<0)) (ofNat ((-n).toNat)) (kJ _) (Nat.le_trans (fF (by omega)) (by decide))))<|zT (qK jY)<|zZ) ?_
  refine jE ⟨_,(kN (cs:=(bx (jO (xH (decide (n<0)) (val (ofNat ((-n).toNat))))))) (d:=(jO (xH (decide (n<0)) (val (ofNat ((-n).toNat)))))) rfl rfl jY rfl rfl .nil),?_⟩
  rw[of_neg h1];rfl
 ·replace h1:=uX h1
  refine jD<|jB<|kx [] [(0,some (bx (jO (xH (decide (n<0)) (val (ofNat ((n % 18446744073709551616).toNat)))))))] (zM<|zE xG<|zM<|zE (jX (t_split ((n % 18446744073709551616).toNat) (by omega)))<|zE (jX (mX (decide (n<0)) (ofNat ((n % 18446744073709551616).toNat)) (kJ _) (Nat.le_trans (fF (by omega)) (by decide))))<|zT (qK jY)<|zZ) ?_
  refine jE ⟨_,(kN (cs:=(bx (jO (xH (decide (n<0)) (val (ofNat ((n % 18446744073709551616).toNat))))))) (d:=(jO (xH (decide (n<0)) (val (ofNat ((n % 18446744073709551616).toNat)))))) rfl rfl jY rfl rfl .nil),?_⟩
  rw[of_pos h1 hhi];rfl
theorem t_compareI(x:kU)(y:kU)(hx:x.gs.length≤1099511627776)(hy:y.gs.length≤1099511627776):jP Tryz.prog 137 [(jO x),(jO y)] (.val (.int .i64 ((vB (kA x) (kA y))))):=by
 refine jI Tryz.func137 rfl cb137 rfl ?_
 show qJ _ _ _ _ ⟨[(0,(.d (jO x))),(1,(.d (jO y)))],[]⟩
 refine jB<|kx [(2,(.ref 0 0)),(3,(.ref 1 0))] [(0,some (bx (jO x))),(1,some (bx (jO y)))] (zN (vW 0)<|zN (vW 1)<|zM<|zZ) ?_
 refine jB<|jB<|kd [(5,(vi (qZ (kA x)))),(6,(vi (qZ (kA y))))] [] mo (wR (kM jY)<|wE (jX (t_sign x (by omega)))<|wR (kM jY)<|wE (jX (t_sign y (by omega)))<|wM<|wM<|wZ) ?_
 refine jB<|kx [(14,(vb ((qZ (kA x)) != (qZ (kA y)))))] [] (zM<|zM<|zE mC<|zZ) ?_
 refine jF (b:=((qZ (kA x)) != (qZ (kA y)))) rfl (fun h1=>?_) (fun h1=>?_)
 ·replace h1:=bne_iff_ne.1 h1
  refine jB<|kx [(4,(vi (vB (qZ (kA x)) (qZ (kA y)))))] [] (zM<|zM<|zE (jX (t_cmp_int (qZ (kA x)) (qZ (kA y))))<|zM<|zZ) ?_
  refine jE ⟨_,(.tmp (d:=(.val (.int .i64 ((vB (qZ (kA x)) (qZ (kA y))))))) rfl .nil),?_⟩
  rw[← cmp_sign h1];rfl
 ·replace h1:=bne_eq_false_iff_eq.1 h1
  refine jD<|jB<|kd [(7,(vi (vB ((val (kO x):Nat):Int) ((val (kO y):Nat):Int))))] [] mo (wR (kM jY)<|wE (jX (gK x (by omega)))<|wR (kM jY)<|wE (jX (gK y (by omega)))<|wE (jX (t_compare (kO x) (kO y) (qN _) (qN _) (Nat.le_trans (gF _) (by omega))))<|wM<|wZ) ?_
  refine jB<|jB<|kx [(24,(vb x.neg))] [] (zE (qE vL)<|zR (uN aU)<|zZ) ?_
  refine jF (b:=x.neg) rfl (fun h2=>?_) (fun h2=>?_)
  ·refine jB<|kx [(4,(vi (-(vB ((val (kO x):Nat):Int) ((val (kO y):Nat):Int)))))] [] (zM<|zE (oNg (-(vB ((val (kO x):Nat):Int) ((val (kO y):Nat):Int))) (hr:=by exact (wi64 (by omega) (by have:=cmpI_range ((val (kO x):Nat):Int) ((val (kO y):Nat):Int);omega) (by have:=cmpI_range ((val (kO x):Nat):Int) ((val (kO y):Nat):Int);omega))))<|zM<|zZ) ?_
   refine jE ⟨_,(.tmp (d:=(.val (.int .i64 (-(vB ((val (kO x):Nat):Int) ((val (kO y):Nat):Int)))))) rfl .nil),?_⟩
   rw[← cmp_neg h1 h2];rfl
  ·refine jD<|jB<|kx [(4,(vi (vB ((val (kO x):Nat):Int) ((val (kO y):Nat):Int))))] [] (zM<|zM<|zZ) ?_
   refine jE ⟨_,(.tmp (d:=(.val (.int .i64 ((vB ((val (kO x):Nat):Int) ((val (kO y):Nat):Int)))))) rfl .nil),?_⟩
   rw[← cmp_pos h1 h2];rfl
attribute [local go_sem] Oper.semAt_some
set_option maxRecDepth 100000 in
set_option maxHeartbeats 2000000 in
theorem trimV(b cap:Nat)(l:List Nat)(hd:Go.Fid.Dig l)(h0:Go.Fid.val l≠0)(w:World)(hc:∀ i,i<l.length→w.cell? ⟨b,i,none⟩=some (.int .u32 ((l.getD i 0:Nat):Int)))(h1:l.length≤cap)(h2:cap≤maxLen) :
  CallsIn Fence.wide 1 Tryz.prog 251 #[.slice (some ⟨b,0,none⟩) l.length cap] w fun e w'=>e=.returned (.slice (some ⟨b,0,none⟩) (Go.Fid.ofNat (Go.Fid.val l)).length cap)∧w'=w:=by
 refine callsIn_of_wp Tryz.func251 rfl trivial ?_ rfl
 simp only[Tryz.ntmps251,List.size_toArray,List.length_cons,List.length_nil,Nat.reduceAdd,Nat.reduceSub,Array.replicate_succ,Array.replicate_zero,List.push_toArray,List.append_toArray,List.nil_append,List.cons_append]
 gi_wp2
 gi_loopw [0] (fun i wr=>∃ j:Nat,j≤l.length∧0<j∧i=.slice (some ⟨b,0,none⟩) j cap∧Go.Fid.val (l.take j)=Go.Fid.val l∧wr=w)
  (fun i _=>match i with | .slice _ n _=>n | _=>0)
 case atStart=>
  have hl:0<l.length:=by
   rcases l with _ | ⟨d,l⟩
   ·exact absurd rfl h0
   ·simp
  exact ⟨l.length,Nat.le_refl _,hl,rfl,by rw[List.take_length],rfl⟩
 case round=>
  obtain ⟨j,hj,hj0,rfl,hv,rfl⟩:=hrel
  have hcj:=hc (j-1) (by omega)
  have hj63:(j:Int)≤9223372036854775807:=by unfold maxLen at h2;omega
  have hv2:=Go.Fid.val_take_succ l (j-1)
  rw[show j-1+1=j by omega] at hv2
  by_cases hz:l.getD (j-1) 0=0
  ·rw[hz] at hcj hv2
   have h1j:0<j-1:=by
    rcases Nat.eq_zero_or_pos (j-1) with e | e
    ·rw[e,List.take_zero,Go.Fid.val_nil,Nat.mul_zero] at hv2
     omega
    ·exact e
   gi_wp2
   go_roundw
   case rel=>exact ⟨j-1,by omega,h1j,by simp,by rw[← hv,hv2];simp,trivial⟩
   case measure=>simp;omega
  ·gi_wp2
   ·rename_i hq
    exfalso
    simp [List.getD] at hz hq
    omega
   ·refine ⟨rfl,.slice (some ⟨b,0,none⟩) j cap,by simp [results,Tryz.results251,go_sem],?_⟩
    have e:Go.Fid.ofNat (Go.Fid.val l)=l.take j:=by
     rw[← hv]
     refine (Go.Fid.can_eq ⟨hd.take j,?_⟩).symm
     unfold Go.Fid.Top
     have h5:(l.take j).length-1=j-1:=by rw[List.length_take];omega
     rw[h5]
     have h6:j-1<l.length:=by omega
     simp [List.getD,List.getElem?_eq_getElem h6,List.getElem?_take_of_lt (show j-1<j by omega)] at hz ⊢
     exact hz
    rw[e,List.length_take,Nat.min_eq_left hj]
    exact ⟨rfl,rfl⟩
theorem trim_cb:Go.Fid.callB Tryz.prog 251=true:=by kernel_rfl
open Go.Fid in
theorem e_trimO{o:Oper}{S:Nat→SV}{x:Operand}{ats:Array TypeId}{k T m:Nat}(l:List Nat)(ho:o.op=.call { callee:=.value (.func 251),args:=#[x],argTypes:=ats })(hx:ev S x=.own k T 1 m)(hl:l.length=m)(hd:Dig l)(h0:val l≠0) :
  uY Tryz.prog o S [(k,l.map (fun g=>SV.d (jC g)))] (.own k T 1 (ofNat (val l)).length) :=
 fun a w D β Q hop hrd hD=>by
  have hxv:=hop x (by simp [ho,Op.operands,Call.operands])
  rw[hx] at hxv
  have hm:0<m:=by
   rcases Nat.eq_zero_or_pos m with e | e
   ·rw[e] at hl
    have:=List.eq_nil_of_length_eq_zero hl
    subst this
    exact absurd rfl h0
   ·exact e
  have hle:(ofNat (val l)).length≤l.length:=qX (vX hd)
  rcases hxv with ⟨_,e,_⟩ | ⟨b,cap,vs,h1,h2,h3,h4,h5,h6⟩
  ·omega
  ·have hblk:=hrd (k,l.map (fun g=>SV.d (jC g))) (by simp)
   rcases hblk with ⟨g1,_⟩ | ⟨b',vs',T',g1,g2,g3,g4,g5⟩
   ·rw[h1] at g1;cases g1
   ·obtain rfl:b=b':=by rw[h1] at g1;injection g1
    rw[h3] at g2
    injection g2 with g2
    injection g2 with g2 gT
    subst g2;subst gT
    have hcell:∀ i,w.cell? ⟨b,i,none⟩=vs[i]?:=fun i=>cell_of_row w b i vs T (0,0) h3
    have hrun:(execOp a.eval o).run Tryz.prog w=.ok (.enter 251 #[.slice (some ⟨b,0,none⟩) l.length cap]) w:=by
     simp only[execOp,ho,resolve,Deferred.ofValue,Act.eval,Sem.run_bind,Sem.run_pure,Result.andThen_ok,invoke,Array.empty_append,Array.append_empty]
     rw[vQ trim_cb]
     simp [h2,hl]
    refine nQ hrun (((callsIn_wide (n:=1)).1 (trimV b cap l hd h0 w (fun i hi=>?_) (by omega) h6)).mono fun e w' h=>?_)
    ·rw[hcell]
     obtain ⟨u,e1,_,e3⟩:=g4 i (.d (jC (l.getD i 0))) (by rw[List.getElem?_map,List.getElem?_eq_getElem hi];simp [List.getD,List.getElem?_eq_getElem hi])
     rw[e1,vI e3]
    ·obtain ⟨he,rfl⟩:=h
     exact ⟨_,he,_,D,rfl,Below.refl _ _,⟨fun _ _ _ h=>h,fun _ _ _ h=>.inl h⟩,.inr ⟨b,cap,vs,h1,rfl,h3,h4,by omega,h6⟩⟩
open Go.Fid in
theorem trim_take{l:List Nat}(hd:Dig l):ofNat (val l)=l.take (ofNat (val l)).length:=by
 have h1:∀ (n:Nat) (l:List Nat),l.length=n→Dig l→ofNat (val l)=l.take (ofNat (val l)).length:=by
  intro n
  induction n with
  |zero=>intro l hl _;rw[List.eq_nil_of_length_eq_zero hl];rw[val_nil,uD];rfl
  |succ n ih=>
   intro l hl hd
   have h2:=val_take_succ l n
   rw[← hl,List.take_length] at h2
   by_cases hz:l.getD n 0=0
   ·rw[hz,Nat.mul_zero,Nat.add_zero] at h2
    have h3:=ih (l.take n) (by rw[List.length_take];omega) (hd.take n)
    rw[← h2,List.take_take] at h3
    have h4:(ofNat (val l)).length≤n:=by
     rw[h2];exact qX (by have:=vX (hd.take n);rwa [List.length_take,Nat.min_eq_left (by omega)] at this)
    rw[Nat.min_eq_left h4] at h3
    exact h3
   ·have h3:yG l:=⟨hd,by
     unfold Top
     rw[show l.length-1=n by omega]
     have h6:n<l.length:=by omega
     simp [List.getD,List.getElem?_eq_getElem h6] at hz ⊢
     exact hz⟩
    rw[← can_eq h3,List.take_length]
 exact h1 _ l rfl hd
end Go.Proofs.YtnajallgoaiahaaGreatDoor
