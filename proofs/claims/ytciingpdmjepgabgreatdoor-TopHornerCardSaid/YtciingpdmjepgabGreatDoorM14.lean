/- Part 14 of a proof: rules, plain facts, and functions walked. -/
import Derived.Test.YtciingpdmjepgabGreatDoorM8
import Derived.Test.YtciingpdmjepgabGreatDoorChecked
import Derived.RangeFuncBox
import Derived.Shelf.Abstract
import Derived.OwnWalkIn
import Derived.TacticsInMore
import Derived.LoopNIn
import Derived.LoopIn
import Derived.Test.YtciingpdmjepgabGreatDoorM13
import Derived.Test.YtciingpdmjepgabGreatDoorM10
import Derived.Test.YtciingpdmjepgabGreatDoorM11
set_option linter.all false
set_option maxRecDepth 4000
namespace Go.Proofs.YtciingpdmjepgabGreatDoor
open Go.RowKit Go.Shelf
attribute [local go_sem] Oper.semAt_some
set_option maxRecDepth 100000 in
set_option maxHeartbeats 2000000 in
theorem back1(N l Bs b off len cap:Nat)(u:Nat->Value)(qL:(len:Int)<=9223372036854775807)(J:Nat->World->Prop)(Jx:World->Prop)
  (hc:∀ j W,J j W->W.cell? ⟨Bs,0,none⟩=some (.slice (some ⟨b,off,none⟩) len cap)/\∀ i,i<len->W.cell? ⟨b,off+i,none⟩=some (u i))
  (hY:∀ j W,J j W->j<len->YieldAt Fence.wide N Tryz.prog l #[.int .i64 ((len:Int)-1-(j:Int)),u (len-1-j)] W fun e W'=>
   (e=.returned (.bool true)/\J (j+1) W')\/(e=.returned (.bool false)/\Jx W'))
  (W:World) (h0:J 0 W) :
  CallsIn Fence.wide (N+1) Tryz.prog 136 #[.func (.yield l) #[] #[],.pointer (some ⟨Bs,0,none⟩)] W fun e W'=>(∃ v,e=.returned v)/\(J len W'\/Jx W'):=by
 refine callsIn_of_wp Tryz.func136 rfl trivial ?_ rfl
 simp only[Tryz.ntmps136,List.size_toArray,List.length_cons,List.length_nil,Nat.reduceAdd,Nat.reduceSub,Array.replicate_succ,Array.replicate_zero,List.push_toArray,List.append_toArray,List.nil_append,List.cons_append]
 have hBs:=(hc 0 W h0).1
 gi_wp2
 gi_loopw [3] (fun i wr=>∃ j:Nat,j<=len/\i=.int .i64 ((len:Int)-1-(j:Int))/\J j wr)
  (fun i _=>(intOf i+1).toNat)
 case atStart=>exact ⟨0,Nat.zero_le _,by simp,h0⟩
 case round=>
  obtain ⟨j,hk,rfl,hJs⟩:=hrel
  have hBj:=(hc j wr hJs).1
  by_cases hlt:j<len
  ·have hcj:=(hc j wr hJs).2 (len-1-j) (by omega)
   obtain ⟨fn,tmps,assign,body,hy,hR⟩:=hY j wr hJs hlt
   gi_wp2
   refine hR.mono ?_
   rintro e W3 (⟨rfl,hJ3⟩ | ⟨rfl,hJx3⟩)
   ·gi_wp2
    go_roundw
    case rel=>exact ⟨j+1,by omega,by simp;omega,hJ3⟩
    case measure=>simp [intOf];omega
   ·gi_wp2
    refine bodyPost_ret (results_none rfl _ _ _) rfl ?_
    exact ⟨⟨_,rfl⟩,.inr hJx3⟩
  ·obtain rfl:j=len:=by omega
   gi_wp2
   go_end0
   exact ⟨⟨_,rfl⟩,.inl hJs⟩
set_option maxRecDepth 100000 in
set_option maxHeartbeats 2000000 in
theorem back1_nil(N l Bs cap:Nat)(ao:Option Addr)(J:World->Prop)(W:World)(hBs:W.cell? ⟨Bs,0,none⟩=some (.slice ao 0 cap))(h0:J W) :
  CallsIn Fence.wide (N+1) Tryz.prog 136 #[.func (.yield l) #[] #[],.pointer (some ⟨Bs,0,none⟩)] W fun e W'=>(∃ v,e=.returned v)/\J W':=by
 refine callsIn_of_wp Tryz.func136 rfl trivial ?_ rfl
 simp only[Tryz.ntmps136,List.size_toArray,List.length_cons,List.length_nil,Nat.reduceAdd,Nat.reduceSub,Array.replicate_succ,Array.replicate_zero,List.push_toArray,List.append_toArray,List.nil_append,List.cons_append]
 gi_wp2
 gi_loopw [3] (fun i wr=>i=.int .i64 (-1)/\J wr) (fun _ _=>0)
 case atStart=>exact ⟨by simp,h0⟩
 case round=>
  obtain ⟨rfl,hJs⟩:=hrel
  gi_wp2
  go_end0
  exact ⟨⟨_,rfl⟩,hJs⟩
set_option maxHeartbeats 1000000 in
theorem back_in(a:Option Addr)(len cap:Nat)(w:World) :
  Calls Tryz.prog 123 #[.slice a len cap] w fun e w'=>e=.returned (.func (.func 136) #[] #[.pointer (some ⟨w.heap.size,0,none⟩)])/\w'=w.alloc (.cells #[.slice a len cap] 24):=by
 refine (callsIn_wide (n:=1)).1 (callsIn_of_wp Tryz.func123 rfl trivial ?_ rfl)
 simp only[Tryz.ntmps123,List.size_toArray,List.length_cons,List.length_nil,Nat.reduceAdd,Nat.reduceSub,Array.replicate_succ,Array.replicate_zero,List.push_toArray,List.append_toArray,List.nil_append,List.cons_append]
 gi_wp2
 go_ret
 exact ⟨rfl,rfl⟩
theorem backs:Go.Fid.Backs Tryz.prog 123 136 24:=⟨back_in,back1_nil,fun N l c b off len cap u qL J Jx hc hY W h0=>back1 N l c b off len cap u qL J Jx hc hY W h0,enters_of Tryz.func136 (by kernel_rfl) rfl⟩
open Go.Fid
theorem cb123:callB Tryz.prog 123=true:=by kernel_rfl
theorem pl26:mP Tryz.prog 26=some [(0,1),(1,1)]:=by kernel_rfl
theorem gN:qD Tryz.prog 3=some (false,1):=by kernel_rfl
theorem vZ:qD Tryz.prog 24=some (false,1):=by kernel_rfl
theorem jX:qD Tryz.prog 26=some (true,2):=by kernel_rfl
theorem sh79:qD Tryz.prog 79=some (false,1):=by kernel_rfl
theorem ze3:vP Tryz.prog 3=some [.int .i64 0]:=by kernel_rfl
theorem xL:vP Tryz.prog 26=some [.bool false,.slice none 0 0]:=by kernel_rfl
theorem ze79:vP Tryz.prog 79=some [.int .u64 0]:=by kernel_rfl
theorem zo3:dV [.int .i64 0] [.val (.int .i64 0)]:=by simp [dV,Value.oneCell']
theorem xK:dV [.bool false,.slice none 0 0] [.val (.bool false),.sl 74 1 []]:=by simp [dV,Value.oneCell']
theorem zo79:dV [.int .u64 0] [.val (.int .u64 0)]:=by simp [dV,Value.oneCell']
theorem t_isnan_int(a:Int):jW Tryz.prog 122 [(.val (.int .i64 (a)))] (.val (.bool (false))):=by
 refine uW Tryz.func122 ?_
 refine jB<|kx [] [] (zM<|zZ) ?_
 refine jB<|kx [(2,(vb (a != a)))] [] (zM<|zM<|zE oNe<|zM<|zZ) ?_
 refine jE ⟨_,(.tmp (d:=(.val (.bool ((a != a))))) rfl .nil),?_⟩
 simp [retD]
theorem t_cmp_int(a b:Int):jW Tryz.prog 100 [(.val (.int .i64 (a))),(.val (.int .i64 (b)))] (.val (.int .i64 ((uI a b)))):=by
 refine uW Tryz.func100 ?_
 refine jB<|kx [] [] (zM<|zZ) ?_
 refine jB<|kx [(5,(vb false))] [] (zM<|zE (kH (t_isnan_int a))<|zM<|zZ) ?_
 refine jB<|kx [(6,(vb false))] [] (zM<|zE (kH (t_isnan_int b))<|zM<|zZ) ?_
 refine jB<|jB<|kx [(11,(vb false))] [] (zM<|zZ) ?_
 refine qH ?_
 refine jF<|jB<|jB<|kx [(13,(vb false))] [] (zM<|zZ) ?_
 refine qH ?_
 refine jF<|jB<|jB<|kx [(16,(vb (decide (a<b))))] [] (zM<|zM<|zE xO<|zZ) ?_
 refine jH (b:=decide (a<b)) rfl (fun h1=>?_) (fun h1=>?_)
 ·replace h1:=xF h1
  refine jB<|kx [(4,(vi (-1)))] [] (zM<|zZ) ?_
  refine jE ⟨_,(.tmp (d:=(.val (.int .i64 (-1)))) rfl .nil),?_⟩
  rw[show uI a b=-1 from if_pos h1];rfl
 ·replace h1:=xH h1
  refine jF<|jB<|jB<|kx [(19,(vb (decide (b<a))))] [] (zM<|zM<|zE mB<|zZ) ?_
  refine jH (b:=decide (b<a)) rfl (fun h2=>?_) (fun h2=>?_)
  ·replace h2:=xF h2
   refine jB<|kx [(4,(jS 1))] [] (zM<|zZ) ?_
   refine jE ⟨_,(.tmp (d:=(.val (.int .i64 (1)))) rfl .nil),?_⟩
   rw[eT h2];rfl
  ·replace h2:=xH h2
   refine jF<|jB<|kx [(4,(jS 0))] [] (zM<|zZ) ?_
   refine jE ⟨_,(.tmp (d:=(.val (.int .i64 (0)))) rfl .nil),?_⟩
   rw[cmpI_eq h1 h2];rfl
theorem t_isnan_uint32(a:Nat):jW Tryz.prog 137 [(.val (.int .u32 (((a:Nat):Int))))] (.val (.bool (false))):=by
 refine uW Tryz.func137 ?_
 refine jB<|kx [] [] (zM<|zZ) ?_
 refine jB<|kx [(2,(vb (((a:Nat):Int) != ((a:Nat):Int))))] [] (zM<|zM<|zE oNe<|zM<|zZ) ?_
 refine jE ⟨_,(.tmp (d:=(.val (.bool ((((a:Nat):Int) != ((a:Nat):Int)))))) rfl .nil),?_⟩
 simp [retD]
theorem t_cmp_uint32(a b:Nat):jW Tryz.prog 124 [(.val (.int .u32 (((a:Nat):Int)))),(.val (.int .u32 (((b:Nat):Int))))] (.val (.int .i64 ((uI ((a:Nat):Int) ((b:Nat):Int))))):=by
 refine uW Tryz.func124 ?_
 refine jB<|kx [] [] (zM<|zZ) ?_
 refine jB<|kx [(5,(vb false))] [] (zM<|zE (kH (t_isnan_uint32 a))<|zM<|zZ) ?_
 refine jB<|kx [(6,(vb false))] [] (zM<|zE (kH (t_isnan_uint32 b))<|zM<|zZ) ?_
 refine jB<|jB<|kx [(11,(vb false))] [] (zM<|zZ) ?_
 refine qH ?_
 refine jF<|jB<|jB<|kx [(13,(vb false))] [] (zM<|zZ) ?_
 refine qH ?_
 refine jF<|jB<|jB<|kx [(16,(vb (decide (((a:Nat):Int)<((b:Nat):Int)))))] [] (zM<|zM<|zE xO<|zZ) ?_
 refine jH rfl (fun h1=>?_) (fun h1=>?_)
 ·replace h1:=xF h1
  refine jB<|kx [(4,(vi (-1)))] [] (zM<|zZ) ?_
  refine jE ⟨_,(.tmp (d:=(.val (.int .i64 (-1)))) rfl .nil),?_⟩
  rw[show uI ((a:Nat):Int) ((b:Nat):Int)=-1 from if_pos h1];rfl
 ·replace h1:=xH h1
  refine jF<|jB<|jB<|kx [(19,(vb (decide (((b:Nat):Int)<((a:Nat):Int)))))] [] (zM<|zM<|zE mB<|zZ) ?_
  refine jH rfl (fun h2=>?_) (fun h2=>?_)
  ·replace h2:=xF h2
   refine jB<|kx [(4,(jS 1))] [] (zM<|zZ) ?_
   refine jE ⟨_,(.tmp (d:=(.val (.int .i64 (1)))) rfl .nil),?_⟩
   rw[eT h2];rfl
  ·replace h2:=xH h2
   refine jF<|jB<|kx [(4,(jS 0))] [] (zM<|zZ) ?_
   refine jE ⟨_,(.tmp (d:=(.val (.int .i64 (0)))) rfl .nil),?_⟩
   rw[cmpI_eq h1 h2];rfl
theorem nL(neg:Bool)(l:List Nat)(hd:Dig l)(hb:l.length<=35184372088832):jW Tryz.prog 103 [(.val (.bool (neg))),(.sl 74 1 (List.map jC l))] (jM (vC neg (val l))):=by
 refine uW Tryz.func103 ?_
 refine jB<|kx [(4,(.ref 0 0))] [(0,some (bx (jM (kO.mk false []))))] (zN (uT 0 xL xK)<|zZ) ?_
 refine jB<|kx [(1,(vl 74 1 jC (ofNat (val l))))] [] (zM<|zE (kH (t_trim l (by assumption) (by omega)))<|zM<|zZ) ?_
 refine jB<|jB<|kx [(9,(vb ((((ofNat (val l)).length:Nat):Int) == 0)))] [] (zM<|zE (zV kC (L:=(ofNat (val l))))<|zE nT<|zZ) ?_
 refine jH rfl (fun h1=>?_) (fun h1=>?_)
 ·replace h1:=eq_of_beq h1
  refine jB<|kx [] [(0,some (bx (jM (kO.mk false []))))] (zE (oBd pl26 xL xK)<|zT (qK jX)<|zZ) ?_
  refine jE ⟨_,(kQ (cs:=(bx (jM (kO.mk false [])))) (d:=(jM (kO.mk false []))) rfl rfl jX rfl rfl .nil),?_⟩
  rw[mkI_zero h1];rfl
 ·replace h1:=ne_of_beq_false h1
  refine jF<|jB<|kx [] [(0,some (bx (jM (kO.mk neg (ofNat (val l))))))] (zM<|zM<|zE (oBd pl26 xL xK)<|zT (qK jX)<|zZ) ?_
  refine jE ⟨_,(kQ (cs:=(bx (jM (kO.mk neg (ofNat (val l)))))) (d:=(jM (kO.mk neg (ofNat (val l))))) rfl rfl jX rfl rfl .nil),?_⟩
  rw[mkI_pos h1];rfl
theorem t_word(l:List Nat)(hd:Dig l):jW Tryz.prog 102 [(.sl 74 1 (List.map jC l))] (.tup [(.val (.int .u64 ((((xG l):Nat):Int)))),(.val (.bool ((gS l))))]):=by
 refine uW Tryz.func102 ?_
 refine jB<|kx [(2,(zP 0)),(3,(vb false))] [] (zM<|zM<|zZ) ?_
 refine jB<|jB<|kx [(9,(vb (decide (2<((l.length:Nat):Int)))))] [] (zM<|zE (zV kC)<|zE mB<|zZ) ?_
 refine jH (b:=decide (2<((l.length:Nat):Int))) rfl (fun h1=>?_) (fun h1=>?_)
 ·replace h1:=xF h1
  refine jB<|kx [(2,(zP 0)),(3,(vb false))] [] (zM<|zM<|zZ) ?_
  refine jE ⟨_,(.tmp (d:=(.val (.int .u64 (0)))) rfl (.tmp (d:=(.val (.bool (false)))) rfl .nil)),?_⟩
  rw[show xG l=0 from if_neg (by omega),show gS l=false from decide_eq_false (by omega)];rfl
 ·replace h1:=xH h1
  have h2:l.length<=2:=by omega
  refine jF<|jB<|kx [(4,(.ref 0 0))] [(0,some (bx (.val (.int .u64 (0)))))] (zN (uT 0 ze79 zo79)<|zT (qK sh79)<|zZ) ?_
  refine jB<|pwp_backL backs cb123 rfl 5 jC l 0 (fun n=>⟨[(2,(zP 0)),(3,(vb false)),(4,(.ref 0 0))],[(0,some (bx (.val (.int .u64 (((n:Nat):Int))))))]⟩) (fun (j:Nat) n=>n=val (l.drop (l.length-j))) 0 rfl rfl rfl rfl rfl rfl rfl rfl rfl rfl rfl rfl (fun _=>rfl) (fun _=>rfl) wk (by simp [val]) (by omega) ?_ ?_
  ·rintro rl j n hj hn
   have hw:=word_bound hd hj h2
   rw[<- hn] at hw
   have hg:=hd.getD (l.length-1-j)
   refine kx [(6,(aH (l.getD (l.length-1-j) 0)))] [] (zM<|zZ) ?_
   refine jG<|kx [] [(0,some (bx (.val (.int .u64 (((((n*1000000000)+(l.getD (l.length-1-j) 0)):Nat):Int))))))] (zR (qR sh79)<|zE (oMl (n*1000000000))<|zM<|zE (hC gZ gY (l.getD (l.length-1-j) 0))<|zE (vD ((n*1000000000)+(l.getD (l.length-1-j) 0)))<|zT (qK sh79)<|zZ) ?_
   exact ⟨n*1000000000+l.getD (l.length-1-j) 0,wk,(by dsimp only;rw[aB l j hj,<- hn];omega)⟩
  ·rintro n hn
   refine jB<|kx [(2,(zP n)),(3,(vb true))] [] (zR (qR sh79)<|zM<|zM<|zZ) ?_
   refine jE ⟨_,(.tmp (d:=(.val (.int .u64 (((n:Nat):Int))))) rfl (.tmp (d:=(.val (.bool (true)))) rfl .nil)),?_⟩
   rw[show xG l=n by rw[hn,Nat.sub_self,List.drop_zero];exact if_pos h2,show gS l=true from decide_eq_true h2];rfl
theorem t_compare(a b:List Nat)(ha:zJ a)(hb:zJ b)(hla:a.length<=35184372088832):jW Tryz.prog 101 [(.sl 74 1 (List.map jC a)),(.sl 74 1 (List.map jC b))] (.val (.int .i64 ((uI ((val a:Nat):Int) ((val b:Nat):Int))))):=by
 refine uW Tryz.func101 ?_
 refine jB<|kx [(3,(.ref 0 0)),(4,(.ref 1 0))] [(0,some (bx (.sl 74 1 (List.map jC b)))),(1,some (bx (.val (.int .i64 (0)))))] (zN (xA 0)<|zN (uT 1 ze3 zo3)<|zZ) ?_
 refine jB<|jB<|kx [(11,(vb (((a.length:Nat):Int) != ((b.length:Nat):Int))))] [] (zM<|zE (zV kC)<|zR (qR vZ)<|zE (zV kC)<|zE oNe<|zZ) ?_
 refine jH rfl (fun h1=>?_) (fun h1=>?_)
 ·replace h1:=bne_iff_ne.1 h1
  refine jB<|kx [] [(1,some (bx (.val (.int .i64 ((uI ((a.length:Nat):Int) ((b.length:Nat):Int)))))))] (zM<|zE (zV kC)<|zR (qR vZ)<|zE (zV kC)<|zE (kH (t_cmp_int ((a.length:Nat):Int) ((b.length:Nat):Int)))<|zT (qK gN)<|zZ) ?_
  refine jE ⟨_,(res_1 (cs:=(bx (.val (.int .i64 ((uI ((a.length:Nat):Int) ((b.length:Nat):Int))))))) (d:=(.val (.int .i64 ((uI ((a.length:Nat):Int) ((b.length:Nat):Int)))))) rfl rfl gN rfl rfl .nil),?_⟩
  rw[<- cmpI_len ha hb h1];rfl
 ·replace h1:=bne_eq_false_iff_eq.1 h1
  have hl:a.length=b.length:=by omega
  refine jF<|jB<|pwp_backL backs cb123 rfl 5 jC a 0 (fun _=>⟨[(3,(.ref 0 0)),(4,(.ref 1 0))],[(0,some (bx (.sl 74 1 (List.map jC b)))),(1,some (bx (.val (.int .i64 (0)))))]⟩) (fun (j:Nat) _=>val (a.drop (a.length-j))=val (b.drop (a.length-j))) () rfl rfl rfl rfl rfl rfl rfl rfl rfl rfl rfl rfl (fun _=>rfl) (fun _=>rfl) wk (by rw[Nat.sub_zero,List.drop_length,hl,List.drop_length]) (by omega) ?_ ?_
  ·rintro rl j ⟨⟩ hj he
   refine jB<|kx [(5,(jS (a.length-1-j)))] [] (zM<|zZ) ?_
   refine kx [(6,(aH (a.getD (a.length-1-j) 0)))] [] (zM<|zZ) ?_
   refine jG<|jB<|kx [(26,(vb ((((a.getD (a.length-1-j) 0):Nat):Int) != (((b.getD (a.length-1-j) 0):Nat):Int))))] [] (zM<|zR (qR vZ)<|zM<|zE (dS kC (a.length-1-j) (0:Nat))<|zE (gJ uK)<|zE oNe<|zZ) ?_
   refine jH rfl (fun h2=>?_) (fun h2=>?_)
   ·replace h2:=bne_iff_ne.1 h2
    refine jB<|kx [] [(1,some (bx (.val (.int .i64 ((uI (((a.getD (a.length-1-j) 0):Nat):Int) (((b.getD (a.length-1-j) 0):Nat):Int)))))))] (zM<|zR (qR vZ)<|zM<|zE (dS kC (a.length-1-j) (0:Nat))<|zE (gJ uK)<|zE (kH (t_cmp_uint32 (a.getD (a.length-1-j) 0) (b.getD (a.length-1-j) 0)))<|zT (qK gN)<|zZ) ?_
    refine jE ⟨⟨[(4,(.ref 1 0))],[(1,some (bx (.val (.int .i64 ((uI (((a.getD (a.length-1-j) 0):Nat):Int) (((b.getD (a.length-1-j) 0):Nat):Int)))))))]⟩,wk,keys_of rfl,⟨_,(res_1 (cs:=(bx (.val (.int .i64 ((uI (((a.getD (a.length-1-j) 0):Nat):Int) (((b.getD (a.length-1-j) 0):Nat):Int))))))) (d:=(.val (.int .i64 ((uI (((a.getD (a.length-1-j) 0):Nat):Int) (((b.getD (a.length-1-j) 0):Nat):Int)))))) rfl rfl gN rfl rfl .nil),?_⟩⟩
    rw[<- cmpI_top ha.1 hb.1 hl hj he h2];rfl
   ·replace h2:=bne_eq_false_iff_eq.1 h2
    refine jF ?_
    exact ⟨(),wk,(by dsimp only;have e1:=aB a j hj;have e2:=aB b j (by omega);rw[<- hl] at e2;rw[e1,e2,he];omega)⟩
  ·rintro ⟨⟩ he
   refine jB<|kx [] [(1,some (bx (.val (.int .i64 (0)))))] (zT (qK gN)<|zZ) ?_
   refine jE ⟨_,(res_1 (cs:=(bx (.val (.int .i64 (0))))) (d:=(.val (.int .i64 (0)))) rfl rfl gN rfl rfl .nil),?_⟩
   rw[cmpI_same (by rw[Nat.sub_self,List.drop_zero,List.drop_zero] at he;exact he)];rfl
theorem t_split(n:Nat)(hn:n<18446744073709551616):jW Tryz.prog 104 [(.val (.int .u64 (((n:Nat):Int))))] (.sl 74 1 (List.map jC (ofNat n))):=by
 refine uW Tryz.func104 ?_
 refine jB<|kx [] [] (zE (oNl 74 1)<|zZ) ?_
 refine jB<|kx [(3,(.own 0 74 1 0))] [(0,some (bm jC []))] (zO 0 74 1<|zZ) ?_
 refine jB<|jG<|kU (α:=Nat × List Nat) (fun (m,g)=>⟨[(0,(zP m)),(3,(.own 0 74 1 g.length))],[(0,some (bm jC g))]⟩) (fun (m,g)=>m<=n/\g++ofNat m=ofNat n) (fun (m,g)=>m) (n,[]) wk ⟨Nat.le_refl _,by rw[List.nil_append]⟩ ?_
 rintro ⟨m,g⟩ ⟨hm,hg⟩
 have hl:=split_len hg hn
 refine jB<|jB<|kx [(5,(vb (decide (0<((m:Nat):Int)))))] [] (zM<|zE mB<|zZ) ?_
 refine jH (b:=decide (0<((m:Nat):Int))) rfl (fun h1=>?_) (fun h1=>?_)
 ·replace h1:=xF h1
  refine jF<|jB<|jG<|kf [(3,(.own 0 74 1 ((g++[(m % 1000000000)]).length)))] [(0,some (bm jC (g++[(m % 1000000000)])))] (zM<|zM<|zE (oRe (m % 1000000000))<|zE (hC cY cA (m % 1000000000))<|zE (dM kC xW hM)<|zA jC g [(m % 1000000000)] rfl kC xW dT<|zM<|zF) ?_
  refine kx [(0,(zP (m / 1000000000)))] [] (zM<|zE (oQu (m / 1000000000))<|zM<|zZ) ?_
  exact ⟨(m / 1000000000,g++[m % 1000000000]),wk,⟨by omega,split_step hg h1⟩,(by first|omega|(dsimp only;omega))⟩
 ·replace h1:=xH h1
  refine kK<|jB<|kM (vS (t:=3) (k:=0) (es:=List.map jC g) rfl rfl (uM _ _ (fun _=>rfl)) (uD _ _ rfl) (vE _ _ (fun _=>rfl) rfl)) ?_
  refine kx [(2,(vl 74 1 jC g))] [] (zM<|zM<|zZ) ?_
  refine jE ⟨_,(.tmp (d:=(.sl 74 1 (List.map jC g))) rfl .nil),?_⟩
  rw[split_end hg h1];rfl
theorem uS:uL Tryz.prog 26 0=some 0:=by kernel_rfl
theorem uR:uL Tryz.prog 26 1=some 1:=by kernel_rfl
theorem sh4:qD Tryz.prog 4=some (false,1):=by kernel_rfl
theorem t_big(a:Nat):jW Tryz.prog 98 [(.val (.int .u32 (((a:Nat):Int))))] (.val (.bool ((decide (1000000000<=((a:Nat):Int)))))):=by
 refine uW Tryz.func98 ?_
 refine jB<|kx [] [] (zM<|zZ) ?_
 refine jB<|kx [(2,(vb (decide (1000000000<=((a:Nat):Int)))))] [] (zM<|zE oGe<|zM<|zZ) ?_
 refine jE ⟨_,(.tmp (d:=(.val (.bool (decide (1000000000<=((a:Nat):Int)))))) rfl .nil),?_⟩
 rfl
theorem t_index(l:List Nat)(hb:l.length<=35184372088832):jW Tryz.prog 121 [(.sl 74 1 (List.map jC l)),(.val (.func (.func 98) #[] #[]))] (.val (.int .i64 ((vN l)))):=by
 refine uW Tryz.func121 ?_
 refine jB<|kx [] [] (zM<|zZ) ?_
 refine jB<|jB<|kx [(7,(jS l.length)),(8,(jS 0))] [] (zM<|zE (zV kC)<|zM<|zZ) ?_
 refine jG<|kU (α:=Nat) (fun i=>⟨[(0,(vl 74 1 jC l)),(1,(.d (.val (.func (.func 98) #[] #[])))),(7,(jS l.length)),(8,(jS i))],[]⟩) (fun i=>i<=l.length/\Dig (l.take i)) (fun i=>l.length-i) 0 wk ⟨Nat.zero_le _,yA⟩ ?_
 rintro i ⟨hi,hd⟩
 refine jB<|kx [(9,(vb (decide (((i:Nat):Int)<((l.length:Nat):Int)))))] [] (zE xO<|zZ) ?_
 refine jB<|jH rfl (fun h1=>?_) (fun h1=>?_)
 ·replace h1:=xF h1
  refine jF<|jB<|jG<|jB<|kx [(5,(jS i))] [] (zM<|zM<|zZ) ?_
  refine jB<|kx [(16,(vb (decide (1000000000<=(((l.getD i 0):Nat):Int)))))] [] (zM<|zM<|zM<|zE (dS kC i (0:Nat))<|zE (gJ uK)<|zE (kH (t_big (l.getD i 0)))<|zZ) ?_
  refine jH rfl (fun h2=>?_) (fun h2=>?_)
  ·replace h2:=xF h2
   refine jB<|kx [(4,(jS i))] [] (zM<|zM<|zZ) ?_
   refine jE ⟨_,(.tmp (d:=(.val (.int .i64 (((i:Nat):Int))))) rfl .nil),?_⟩
   rw[firstBig_at (by omega) hd (by omega)];rfl
  ·replace h2:=xH h2
   refine jF<|kx [(8,(jS (i+1)))] [] (zE (vD (i+1))<|zM<|zZ) ?_
   exact ⟨(i+1),wk,⟨by omega,dig_take_succ (by omega) hd (by omega)⟩,(by omega)⟩
 ·replace h1:=xH h1
  refine kK<|jB<|kx [(4,(vi (-1)))] [] (zM<|zZ) ?_
  refine jE ⟨_,(.tmp (d:=(.val (.int .i64 (-1)))) rfl .nil),?_⟩
  rw[aZ (by rw[List.take_of_length_le (by omega)] at hd;exact hd)];rfl
theorem t_contains(l:List Nat)(hb:l.length<=35184372088832):jW Tryz.prog 97 [(.sl 74 1 (List.map jC l)),(.val (.func (.func 98) #[] #[]))] (.val (.bool ((decide (0<=vN l))))):=by
 refine uW Tryz.func97 ?_
 refine jB<|kx [] [] (zM<|zZ) ?_
 refine jB<|kx [(4,(vb (decide (0<=(vN l)))))] [] (zM<|zM<|zE (kH (t_index l (by omega)))<|zE oGe<|zM<|zZ) ?_
 refine jE ⟨_,(.tmp (d:=(.val (.bool (decide (0<=(vN l)))))) rfl .nil),?_⟩
 rfl
theorem t_valid(x:kO)(hb:x.gs.length<=35184372088832):jW Tryz.prog 47 [(jM x)] (.val (.bool ((qW x)))):=by
 refine uW Tryz.func47 ?_
 refine jB<|kx [(1,(.ref 0 0))] [(0,some (bx (jM x)))] (zN (xA 0)<|zM<|zZ) ?_
 refine jB<|kx [(3,(jS x.gs.length))] [] (zE (kW uR)<|zR (qR vZ)<|zE (zV kC)<|zM<|zZ) ?_
 refine jB<|jB<|kx [(8,(vb (((x.gs.length:Nat):Int) == 0)))] [] (zM<|zE nT<|zZ) ?_
 refine jH (b:=(((x.gs.length:Nat):Int) == 0)) rfl (fun h1=>?_) (fun h1=>?_)
 ·replace h1:=eq_of_beq h1
  refine jB<|kx [(2,(vb (!x.neg)))] [] (zE (kW uS)<|zR (qR sh4)<|zE eL<|zM<|zZ) ?_
  refine jE ⟨_,(.tmp (d:=(.val (.bool (!x.neg)))) rfl .nil),?_⟩
  rw[show qW x=!x.neg from if_pos h1];rfl
 ·replace h1:=ne_of_beq_false h1
  refine jF<|jB<|kx [(2,(vb (((((x.gs.getD (x.gs.length-1) 0):Nat):Int) != 0)&&!(decide (0<=vN x.gs)))))] [] ?_ ?_
  ·refine zE (kW uR)<|zR (qR vZ)<|zM<|zE (oSb (x.gs.length-1))<|zE (dS kC (x.gs.length-1) (0:Nat))<|zE (gJ uK)<|zE oNe<|zE (oV (vb ((((x.gs.getD (x.gs.length-1) 0):Nat):Int) != 0)) (qF (by kernel_rfl)))<|?_
   rcases hb2:((((x.gs.getD (x.gs.length-1) 0):Nat):Int) != 0) with _ | _
   ·replace hb2:=bne_eq_false_iff_eq.1 hb2
    exact zK<|zK<|zK<|zK<|zE gK<|zM<|zZ
   ·replace hb2:=bne_iff_ne.1 hb2
    exact zE (kW uR)<|zR (qR vZ)<|zE (kH (t_contains x.gs (by omega)))<|zE eL<|zE oPa<|zM<|zZ
  refine jE ⟨_,(.tmp (d:=(.val (.bool ((((((x.gs.getD (x.gs.length-1) 0):Nat):Int) != 0)&&!(decide (0<=vN x.gs))))))) rfl .nil),?_⟩
  rw[show qW x=_ from if_neg h1];rfl
theorem yC(x:kO)(hb:x.gs.length<=35184372088832):jW Tryz.prog 99 [(jM x)] (.sl 74 1 (List.map jC (kJ x))):=by
 refine uW Tryz.func99 ?_
 refine jB<|kx [(1,(.ref 0 0))] [(0,some (bx (jM x)))] (zN (xA 0)<|zE (oNl 74 1)<|zZ) ?_
 refine jB<|jB<|kx [(5,(vb (!(qW x))))] [] (zR (kT jX)<|zE (kH (t_valid x (by omega)))<|zE eL<|zZ) ?_
 refine jH (b:=!(qW x)) rfl (fun h1=>?_) (fun h1=>?_)
 ·refine jB<|kx [(2,(vl 74 1 jC []))] [] (zE (oNl 74 1)<|zZ) ?_
  refine jE ⟨_,(.tmp (d:=(.sl 74 1 (List.map jC []))) rfl .nil),?_⟩
  rw[show kJ x=[] from if_neg (by simpa using h1)];rfl
 ·refine jF<|jB<|kx [(2,(vl 74 1 jC x.gs))] [] (zE (kW uR)<|zR (qR vZ)<|zM<|zZ) ?_
  refine jE ⟨_,(.tmp (d:=(.sl 74 1 (List.map jC x.gs))) rfl .nil),?_⟩
  rw[show kJ x=x.gs from if_pos (by simpa using h1)];rfl
theorem t_clone(l:List Nat)(hb:l.length<=35184372088832):jW Tryz.prog 106 [(.sl 74 1 (List.map jC l))] (.sl 74 1 (List.map jC l)):=by
 refine uW Tryz.func106 ?_
 refine jB<|kx [] [] (zE (oNl 74 1)<|zZ) ?_
 refine jB<|jB<|pwp_nilq rfl rfl rfl rfl rfl rfl kC rfl rfl rfl (fun nb hnb=>?_)
 refine jH (b:=nb) rfl (fun h1=>?_) (fun h1=>?_)
 ·refine jB<|kx [(2,(vl 74 1 jC []))] [] (zE (oNl 74 1)<|zZ) ?_
  refine jE ⟨_,(.tmp (d:=(.sl 74 1 (List.map jC []))) rfl .nil),?_⟩
  rw[List.map_eq_nil_iff.1 (hnb h1)];rfl
 ·refine jF<|jB<|kf [(2,(.own 0 74 1 (([]++l).length)))] [(0,some (bm jC ([]++l)))] (zN (oBo 0 kC xW hM)<|zM<|zA jC [] l rfl kC xW dT<|zM<|zF) ?_
  refine kM (vS (t:=2) (k:=0) (es:=List.map jC ([]++l)) rfl rfl (uM _ _ (fun _=>rfl)) (uD _ _ rfl) (vE _ _ (fun _=>rfl) rfl)) ?_
  refine jE ⟨_,(.tmp (d:=(.sl 74 1 (List.map jC ([]++l)))) rfl .nil),?_⟩
  rfl
theorem bo4:boolB Tryz.prog 4=true:=by kernel_rfl
theorem un3:(Tryz.prog.underlying 3).isSome=true:=by kernel_rfl
theorem t_sign(x:kO)(hx:x.gs.length<=35184372087816):jW Tryz.prog 48 [(jM x)] (.val (.int .i64 ((qO (jQ x))))):=by
 refine uW Tryz.func48 ?_
 refine jB<|kx [(1,(.ref 0 0))] [(0,some (bx (jM x)))] (zN (xA 0)<|zM<|zZ) ?_
 refine jB<|jG<|jB<|kx [(3,(vb ((((kJ x).length:Nat):Int) == 0)))] [] (zR (kT jX)<|zE (kH (yC x (by omega)))<|zE (zV kC (L:=(kJ x)))<|zE nT<|zM<|zZ) ?_
 refine jH (b:=((((kJ x).length:Nat):Int) == 0)) rfl (fun h1=>?_) (fun h1=>?_)
 ·replace h1:=eq_of_beq h1
  refine jB<|kx [(2,(jS 0))] [] (zM<|zZ) ?_
  refine jE ⟨_,(.tmp (d:=(.val (.int .i64 (0)))) rfl .nil),?_⟩
  rw[toZ_nil h1];rfl
 ·replace h1:=ne_of_beq_false h1
  refine jB<|kx [(8,(vb x.neg))] [] (zE (kW uS)<|zR (qR sh4)<|zM<|zZ) ?_
  refine jH (b:=x.neg) rfl (fun h2=>?_) (fun h2=>?_)
  ·refine jB<|kx [(2,(vi (-1)))] [] (zM<|zZ) ?_
   refine jE ⟨_,(.tmp (d:=(.val (.int .i64 (-1)))) rfl .nil),?_⟩
   rw[sign_neg h1 h2];rfl
  ·refine jF<|jB<|kx [(2,(jS 1))] [] (zM<|zZ) ?_
   refine jE ⟨_,(.tmp (d:=(.val (.int .i64 (1)))) rfl .nil),?_⟩
   rw[sign_pos h1 h2];rfl
theorem t_neg(x:kO)(hx:x.gs.length<=35184372087816):jW Tryz.prog 63 [(jM x)] (jM (kD (-jQ x))):=by
 refine uW Tryz.func63 ?_
 refine jB<|kx [(1,(.ref 0 0)),(2,(.ref 1 0))] [(0,some (bx (jM x))),(1,some (bx (jM (kO.mk false []))))] (zN (xA 0)<|zN (uT 1 xL xK)<|zZ) ?_
 refine jB<|kd [] [(1,some (bx (jM (vC (!x.neg) (val (kJ x))))))] mo (wE (kW uS)<|wR (qR sh4)<|wE eL<|wR (kT jX)<|wE (kH (yC x (by omega)))<|wE (kH (t_clone (kJ x) (Nat.le_trans (xR _) (by omega))))<|wE (kH (nL (!x.neg) (kJ x) (qA _).1 (Nat.le_trans (xR _) (by omega))))<|wT (qK jX)<|wZ) ?_
 refine jE ⟨_,(kQ (cs:=(bx (jM (vC (!x.neg) (val (kJ x)))))) (d:=(jM (vC (!x.neg) (val (kJ x))))) rfl rfl jX rfl rfl .nil),?_⟩
 rw[<- neg_eq];rfl
theorem t_sum(b:Bool)(l:List Nat)(c:Bool)(m:List Nat)(hl:zJ l)(hm:zJ m)(hll:l.length<=35184372087816)(hlm:m.length<=35184372087816):jW Tryz.prog 113 [(.val (.bool (b))),(.sl 74 1 (List.map jC l)),(.val (.bool (c))),(.sl 74 1 (List.map jC m))] (jM (kD (mO b (val l)+mO c (val m)))):=by
 refine uW Tryz.func113 ?_
 refine jB<|kx [(8,(.ref 0 0))] [(0,some (bx (jM (kO.mk false []))))] (zN (uT 0 xL xK)<|zZ) ?_
 refine jB<|jG<|jB<|kx [(9,(vb (b == c)))] [] (zM<|zM<|zE (oEb bo4)<|zM<|zZ) ?_
 refine jH (b:=(b == c)) rfl (fun h1=>?_) (fun h1=>?_)
 ·replace h1:=eq_of_beq h1
  refine jB<|kx [] [(0,some (bx (jM (vC b (val (ofNat (val l+val m)))))))] (zM<|zM<|zM<|zE (kH (t_plus l m hl.1 hm.1 (by omega) (by omega)))<|zE (kH (nL b (ofNat (val l+val m)) (kB _) (Nat.le_trans (add_len hl.1 hm.1) (by omega))))<|zT (qK jX)<|zZ) ?_
  refine jE ⟨_,(kQ (cs:=(bx (jM (vC b (val (ofNat (val l+val m))))))) (d:=(jM (vC b (val (ofNat (val l+val m)))))) rfl rfl jX rfl rfl .nil),?_⟩
  rw[<- sum_same h1];rfl
 ·replace h1:=ne_of_beq_false h1
  refine jB<|kx [(18,(vb (decide (0<=(uI ((val l:Nat):Int) ((val m:Nat):Int))))))] [] (zM<|zM<|zE (kH (t_compare l m (by assumption) (by assumption) (by omega)))<|zE oGe<|zM<|zZ) ?_
  refine jH rfl (fun h2=>?_) (fun h2=>?_)
  ·replace h2:=xF h2
   refine jB<|kx [] [(0,some (bx (jM (vC b (val (ofNat (val l-val m)))))))] (zM<|zM<|zM<|zE (kH (t_minus l m hl.1 hm.1 (by have:=bF h2;omega) (by omega)))<|zE (kH (nL b (ofNat (val l-val m)) (kB _) (Nat.le_trans (sub_len hl.1) (by omega))))<|zT (qK jX)<|zZ) ?_
   refine jE ⟨_,(kQ (cs:=(bx (jM (vC b (val (ofNat (val l-val m))))))) (d:=(jM (vC b (val (ofNat (val l-val m)))))) rfl rfl jX rfl rfl .nil),?_⟩
   rw[<- sum_first h1 (by have:=bF h2;omega)];rfl
  ·replace h2:=xH h2
   refine jF<|jB<|kx [] [(0,some (bx (jM (vC c (val (ofNat (val m-val l)))))))] (zM<|zM<|zM<|zE (kH (t_minus m l hm.1 hl.1 (by have:=cmpI_lt h2;omega) (by omega)))<|zE (kH (nL c (ofNat (val m-val l)) (kB _) (Nat.le_trans (sub_len hm.1) (by omega))))<|zT (qK jX)<|zZ) ?_
   refine jE ⟨_,(kQ (cs:=(bx (jM (vC c (val (ofNat (val m-val l))))))) (d:=(jM (vC c (val (ofNat (val m-val l)))))) rfl rfl jX rfl rfl .nil),?_⟩
   rw[<- sum_second h1 (by have:=cmpI_lt h2;omega)];rfl
theorem t_add(x:kO)(y:kO)(hx:x.gs.length<=35184372087816)(hy:y.gs.length<=35184372087816):jW Tryz.prog 60 [(jM x),(jM y)] (jM (kD (jQ x+jQ y))):=by
 refine uW Tryz.func60 ?_
 refine jB<|kx [(2,(.ref 0 0)),(3,(.ref 1 0)),(4,(.ref 2 0))] [(0,some (bx (jM x))),(1,some (bx (jM y))),(2,some (bx (jM (kO.mk false []))))] (zN (xA 0)<|zN (xA 1)<|zN (uT 2 xL xK)<|zZ) ?_
 refine jB<|kd [] [(2,some (bx (jM (kD (mO x.neg (val (kJ x))+mO y.neg (val (kJ y)))))))] mo (wE (kW uS)<|wR (qR sh4)<|wR (kT jX)<|wE (kH (yC x (by omega)))<|wE (kW uS)<|wR (qR sh4)<|wR (kT jX)<|wE (kH (yC y (by omega)))<|wE (kH (t_sum x.neg (kJ x) y.neg (kJ y) (qA _) (qA _) (Nat.le_trans (xR _) (by omega)) (Nat.le_trans (xR _) (by omega))))<|wT (qK jX)<|wZ) ?_
 refine jE ⟨_,(kQ (cs:=(bx (jM (kD (mO x.neg (val (kJ x))+mO y.neg (val (kJ y))))))) (d:=(jM (kD (mO x.neg (val (kJ x))+mO y.neg (val (kJ y)))))) rfl rfl jX rfl rfl .nil),?_⟩
 rfl
theorem t_mul(x:kO)(y:kO)(hx:x.gs.length<=1099511627776)(hy:y.gs.length<=1099511627776):jW Tryz.prog 59 [(jM x),(jM y)] (jM (kD (jQ x*jQ y))):=by
 refine uW Tryz.func59 ?_
 refine jB<|kx [(2,(.ref 0 0)),(3,(.ref 1 0)),(4,(.ref 2 0))] [(0,some (bx (jM x))),(1,some (bx (jM y))),(2,some (bx (jM (kO.mk false []))))] (zN (xA 0)<|zN (xA 1)<|zN (uT 2 xL xK)<|zZ) ?_
 refine jB<|kd [] [(2,some (bx (jM (vC (!(x.neg == y.neg)) (val (ofNat (val (kJ x)*val (kJ y))))))))] mo (wE (kW uS)<|wR (qR sh4)<|wE (kW uS)<|wR (qR sh4)<|wE (oNb bo4)<|wR (kT jX)<|wE (kH (yC x (by omega)))<|wR (kT jX)<|wE (kH (yC y (by omega)))<|wE (kH (t_times (kJ x) (kJ y) (qA _).1 (qA _).1 (by have:=xR x;have:=xR y;omega) (Nat.le_trans (xR _) (by omega))))<|wE (kH (nL (!(x.neg == y.neg)) (ofNat (val (kJ x)*val (kJ y))) (kB _) (Nat.le_trans (mul_len (qA _).1 (qA _).1) (by have:=xR x;have:=xR y;omega))))<|wT (qK jX)<|wZ) ?_
 refine jE ⟨_,(kQ (cs:=(bx (jM (vC (!(x.neg == y.neg)) (val (ofNat (val (kJ x)*val (kJ y)))))))) (d:=(jM (vC (!(x.neg == y.neg)) (val (ofNat (val (kJ x)*val (kJ y))))))) rfl rfl jX rfl rfl .nil),?_⟩
 rw[show jQ x*jQ y=_ from rfl,jQ,jQ,<- mul_eq];rfl
theorem t_of(n:Int)(hlo:-9223372036854775808<=n:=by decide)(hhi:n<=9223372036854775807:=by decide):jW Tryz.prog 51 [(.val (.int .i64 (n)))] (jM (kD n)):=by
 refine uW Tryz.func51 ?_
 refine jB<|kx [(2,(.ref 0 0))] [(0,some (bx (jM (kO.mk false []))))] (zN (uT 0 xL xK)<|zZ) ?_
 refine jB<|kx [(3,(zP ((n % 18446744073709551616).toNat)))] [] (zM<|zE (hC un3 gY ((n % 18446744073709551616).toNat) (hr:=by exact (conv_u64 _)))<|zM<|zZ) ?_
 refine jB<|jB<|kx [(7,(vb (decide (n<0))))] [] (zM<|zE xO<|zZ) ?_
 refine jH (b:=decide (n<0)) rfl (fun h1=>?_) (fun h1=>?_)
 ·replace h1:=xF h1
  refine kx [(3,(zP ((-n).toNat)))] [] (zM<|zE (oNg (((-n).toNat:Nat):Int) (hr:=by exact (neg_u64 (by assumption) hlo)))<|zM<|zZ) ?_
  refine jB<|kx [] [(0,some (bx (jM (vC (decide (n<0)) (val (ofNat ((-n).toNat)))))))] (zM<|zE xO<|zM<|zE (kH (t_split ((-n).toNat) (by omega)))<|zE (kH (nL (decide (n<0)) (ofNat ((-n).toNat)) (kB _) (Nat.le_trans (eB (by omega)) (by decide))))<|zT (qK jX)<|zZ) ?_
  refine jE ⟨_,(kQ (cs:=(bx (jM (vC (decide (n<0)) (val (ofNat ((-n).toNat))))))) (d:=(jM (vC (decide (n<0)) (val (ofNat ((-n).toNat)))))) rfl rfl jX rfl rfl .nil),?_⟩
  rw[of_neg h1];rfl
 ·replace h1:=xH h1
  refine jF<|jB<|kx [] [(0,some (bx (jM (vC (decide (n<0)) (val (ofNat ((n % 18446744073709551616).toNat)))))))] (zM<|zE xO<|zM<|zE (kH (t_split ((n % 18446744073709551616).toNat) (by omega)))<|zE (kH (nL (decide (n<0)) (ofNat ((n % 18446744073709551616).toNat)) (kB _) (Nat.le_trans (eB (by omega)) (by decide))))<|zT (qK jX)<|zZ) ?_
  refine jE ⟨_,(kQ (cs:=(bx (jM (vC (decide (n<0)) (val (ofNat ((n % 18446744073709551616).toNat))))))) (d:=(jM (vC (decide (n<0)) (val (ofNat ((n % 18446744073709551616).toNat)))))) rfl rfl jX rfl rfl .nil),?_⟩
  rw[of_pos h1 hhi];rfl
theorem t_compareI(x:kO)(y:kO)(hx:x.gs.length<=35184372087816)(hy:y.gs.length<=35184372087816):jW Tryz.prog 49 [(jM x),(jM y)] (.val (.int .i64 ((uI (jQ x) (jQ y))))):=by
 refine uW Tryz.func49 ?_
 refine jB<|kx [(2,(.ref 0 0)),(3,(.ref 1 0))] [(0,some (bx (jM x))),(1,some (bx (jM y)))] (zN (xA 0)<|zN (xA 1)<|zM<|zZ) ?_
 refine jB<|jB<|kd [(5,(vi (qO (jQ x)))),(6,(vi (qO (jQ y))))] [] mo (wR (kT jX)<|wE (kH (t_sign x (by omega)))<|wR (kT jX)<|wE (kH (t_sign y (by omega)))<|wM<|wM<|wZ) ?_
 refine jB<|kx [(14,(vb ((qO (jQ x)) != (qO (jQ y)))))] [] (zM<|zM<|zE oNe<|zZ) ?_
 refine jH (b:=((qO (jQ x)) != (qO (jQ y)))) rfl (fun h1=>?_) (fun h1=>?_)
 ·replace h1:=bne_iff_ne.1 h1
  refine jB<|kx [(4,(vi (uI (qO (jQ x)) (qO (jQ y)))))] [] (zM<|zM<|zE (kH (t_cmp_int (qO (jQ x)) (qO (jQ y))))<|zM<|zZ) ?_
  refine jE ⟨_,(.tmp (d:=(.val (.int .i64 ((uI (qO (jQ x)) (qO (jQ y))))))) rfl .nil),?_⟩
  rw[<- cmp_sign h1];rfl
 ·replace h1:=bne_eq_false_iff_eq.1 h1
  refine jF<|jB<|kd [(7,(vi (uI ((val (kJ x):Nat):Int) ((val (kJ y):Nat):Int))))] [] mo (wR (kT jX)<|wE (kH (yC x (by omega)))<|wR (kT jX)<|wE (kH (yC y (by omega)))<|wE (kH (t_compare (kJ x) (kJ y) (qA _) (qA _) (Nat.le_trans (xR _) (by omega))))<|wM<|wZ) ?_
  refine jB<|jB<|kx [(24,(vb x.neg))] [] (zE (kW uS)<|zR (qR sh4)<|zZ) ?_
  refine jH (b:=x.neg) rfl (fun h2=>?_) (fun h2=>?_)
  ·refine jB<|kx [(4,(vi (-(uI ((val (kJ x):Nat):Int) ((val (kJ y):Nat):Int)))))] [] (zM<|zE (oNg (-(uI ((val (kJ x):Nat):Int) ((val (kJ y):Nat):Int))) (hr:=by exact (wi64 (by omega) (by have:=cmpI_range ((val (kJ x):Nat):Int) ((val (kJ y):Nat):Int);omega) (by have:=cmpI_range ((val (kJ x):Nat):Int) ((val (kJ y):Nat):Int);omega))))<|zM<|zZ) ?_
   refine jE ⟨_,(.tmp (d:=(.val (.int .i64 (-(uI ((val (kJ x):Nat):Int) ((val (kJ y):Nat):Int)))))) rfl .nil),?_⟩
   rw[<- cmp_neg h1 h2];rfl
  ·refine jF<|jB<|kx [(4,(vi (uI ((val (kJ x):Nat):Int) ((val (kJ y):Nat):Int))))] [] (zM<|zM<|zZ) ?_
   refine jE ⟨_,(.tmp (d:=(.val (.int .i64 ((uI ((val (kJ x):Nat):Int) ((val (kJ y):Nat):Int)))))) rfl .nil),?_⟩
   rw[<- cmp_pos h1 h2];rfl
attribute [local go_sem] Oper.semAt_some
set_option maxRecDepth 100000 in
set_option maxHeartbeats 2000000 in
theorem trimV(b cap:Nat)(l:List Nat)(hd:Go.Fid.Dig l)(h0:Go.Fid.val l≠0)(w:World)(hc:∀ i,i<l.length->w.cell? ⟨b,i,none⟩=some (.int .u32 ((l.getD i 0:Nat):Int)))(h1:l.length<=cap)(h2:cap<=maxLen) :
  CallsIn Fence.wide 1 Tryz.prog 125 #[.slice (some ⟨b,0,none⟩) l.length cap] w fun e w'=>e=.returned (.slice (some ⟨b,0,none⟩) (Go.Fid.ofNat (Go.Fid.val l)).length cap)/\w'=w:=by
 refine callsIn_of_wp Tryz.func125 rfl trivial ?_ rfl
 simp only[Tryz.ntmps125,List.size_toArray,List.length_cons,List.length_nil,Nat.reduceAdd,Nat.reduceSub,Array.replicate_succ,Array.replicate_zero,List.push_toArray,List.append_toArray,List.nil_append,List.cons_append]
 gi_wp2
 gi_loopw [0] (fun i wr=>∃ j:Nat,j<=l.length/\0<j/\i=.slice (some ⟨b,0,none⟩) j cap/\Go.Fid.val (l.take j)=Go.Fid.val l/\wr=w)
  (fun i _=>match i with | .slice _ n _=>n | _=>0)
 case atStart=>
  have hl:0<l.length:=by
   rcases l with _ | ⟨d,l⟩
   ·exact absurd rfl h0
   ·simp
  exact ⟨l.length,Nat.le_refl _,hl,rfl,by rw[List.take_length],rfl⟩
 case round=>
  obtain ⟨j,hj,hj0,rfl,hv,rfl⟩:=hrel
  have hcj:=hc (j-1) (by omega)
  have hj63:(j:Int)<=9223372036854775807:=by unfold maxLen at h2;omega
  have hv2:=Go.Fid.val_take_succ l (j-1)
  rw[show j-1+1=j by omega] at hv2
  by_cases hz:l.getD (j-1) 0=0
  ·rw[hz] at hcj hv2
   have h1j:0<j-1:=by
    rcases Nat.eq_zero_or_pos (j-1) with e | e
    ·rw[e,List.take_zero,Go.Fid.val_nil,Nat.mul_zero] at hv2
     omega
    ·exact e
   gi_wp2
   go_roundw
   case rel=>exact ⟨j-1,by omega,h1j,by simp,by rw[<- hv,hv2];simp,trivial⟩
   case measure=>simp;omega
  ·gi_wp2
   ·rename_i hq
    exfalso
    simp [List.getD] at hz hq
    omega
   ·refine ⟨rfl,.slice (some ⟨b,0,none⟩) j cap,by simp [results,Tryz.results125,go_sem],?_⟩
    have e:Go.Fid.ofNat (Go.Fid.val l)=l.take j:=by
     rw[<- hv]
     refine (Go.Fid.can_eq ⟨hd.take j,?_⟩).symm
     unfold Go.Fid.Top
     have h5:(l.take j).length-1=j-1:=by rw[List.length_take];omega
     rw[h5]
     have h6:j-1<l.length:=by omega
     simp [List.getD,List.getElem?_eq_getElem h6,List.getElem?_take_of_lt (show j-1<j by omega)] at hz ⊢
     exact hz
    rw[e,List.length_take,Nat.min_eq_left hj]
    exact ⟨rfl,rfl⟩
theorem trim_cb:Go.Fid.callB Tryz.prog 125=true:=by kernel_rfl
open Go.Fid in
theorem e_trimO{o:Oper}{S:Nat->SV}{x:Operand}{ats:Array TypeId}{k T m:Nat}(l:List Nat)(ho:o.op=.call { callee:=.value (.func 125),args:=#[x],argTypes:=ats })(hx:ev S x=.own k T 1 m)(hl:l.length=m)(hd:Dig l)(h0:val l≠0) :
  uC Tryz.prog o S [(k,l.map (fun g=>SV.d (jC g)))] (.own k T 1 (ofNat (val l)).length) :=
 fun a w D β Q hop hrd hD=>by
  have hxv:=hop x (by simp [ho,Op.operands,Call.operands])
  rw[hx] at hxv
  have hm:0<m:=by
   rcases Nat.eq_zero_or_pos m with e | e
   ·rw[e] at hl
    have:=List.eq_nil_of_length_eq_zero hl
    subst this
    exact absurd rfl h0
   ·exact e
  have hle:(ofNat (val l)).length<=l.length:=qJ (uV hd)
  rcases hxv with ⟨_,e,_⟩ | ⟨b,cap,vs,h1,h2,h3,h4,h5,h6⟩
  ·omega
  ·have hblk:=hrd (k,l.map (fun g=>SV.d (jC g))) (by simp)
   rcases hblk with g0 | ⟨b',vs',T',g1,g2,g3,g4,g5⟩
   ·exact (g0.at_cells h1 h3).elim
   ·obtain rfl:b=b':=by rw[h1] at g1;injection g1
    rw[h3] at g2
    injection g2 with g2
    injection g2 with g2 gT
    subst g2;subst gT
    have hcell:∀ i,w.cell? ⟨b,i,none⟩=vs[i]?:=fun i=>cell_of_row w b i vs T (0,0) h3
    have hrun:(execOp a.eval o).run Tryz.prog w=.ok (.enter 125 #[.slice (some ⟨b,0,none⟩) l.length cap]) w:=by
     simp only[execOp,ho,resolve,Deferred.ofValue,Act.eval,Sem.run_bind,Sem.run_pure,Result.andThen_ok,invoke,Array.empty_append,Array.append_empty]
     rw[uY trim_cb]
     simp [h2,hl]
    refine cW hrun (((callsIn_wide (n:=1)).1 (trimV b cap l hd h0 w (fun i hi=>?_) (by omega) h6)).mono fun e w' h=>?_)
    ·rw[hcell]
     obtain ⟨u,e1,_,e3⟩:=g4 i (.d (jC (l.getD i 0))) (by rw[List.getElem?_map,List.getElem?_eq_getElem hi];simp [List.getD,List.getElem?_eq_getElem hi])
     rw[e1,uO e3]
    ·obtain ⟨he,rfl⟩:=h
     exact ⟨_,he,_,D,rfl,Below.refl _ _,⟨fun _ _ _ h=>h,fun _ _ _ h=>.inl h⟩,.inr ⟨b,cap,vs,h1,rfl,h3,h4,by omega,h6⟩⟩
open Go.Fid in
theorem trim_take{l:List Nat}(hd:Dig l):ofNat (val l)=l.take (ofNat (val l)).length:=by
 have h1:∀ (n:Nat) (l:List Nat),l.length=n->Dig l->ofNat (val l)=l.take (ofNat (val l)).length:=by
  intro n
  induction n with
  |zero=>intro l hl _;rw[List.eq_nil_of_length_eq_zero hl];rw[val_nil,qS];rfl
  |succ n ih=>
   intro l hl hd
   have h2:=val_take_succ l n
   rw[<- hl,List.take_length] at h2
   by_cases hz:l.getD n 0=0
   ·rw[hz,Nat.mul_zero,Nat.add_zero] at h2
    have h3:=ih (l.take n) (by rw[List.length_take];omega) (hd.take n)
    rw[<- h2,List.take_take] at h3
    have h4:(ofNat (val l)).length<=n:=by
     rw[h2];exact qJ (by have:=uV (hd.take n);rwa [List.length_take,Nat.min_eq_left (by omega)] at this)
    rw[Nat.min_eq_left h4] at h3
    exact h3
   ·have h3:zJ l:=⟨hd,by
     unfold Top
     rw[show l.length-1=n by omega]
     have h6:n<l.length:=by omega
     simp [List.getD,List.getElem?_eq_getElem h6] at hz ⊢
     exact hz⟩
    rw[<- can_eq h3,List.take_length]
 exact h1 _ l rfl hd
end Go.Proofs.YtciingpdmjepgabGreatDoor
namespace Go.Proofs.YtciingpdmjepgabGreatDoor
open Go.Fid
theorem ze24:vP Tryz.prog 24=some [.slice none 0 0]:=by kernel_rfl
theorem zo24:dV [.slice none 0 0] [.sl 74 1 []]:=by simp [dV,Value.oneCell']
theorem t_short(a:List Nat)(d:Nat)(hda:Dig a)(hd0:0<d)(hd1:d<=1000000000)(hla:a.length<=35184372088832):jW Tryz.prog 126 [(.sl 74 1 (List.map jC a)),(.val (.int .u32 (((d:Nat):Int))))] (.tup [(.sl 74 1 (List.map jC (ofNat (val a / d)))),(.val (.int .u32 ((((val a % d):Nat):Int))))]):=by
 refine uW Tryz.func126 ?_
 refine jB<|kx [(3,(.ref 0 0)),(4,(.ref 1 0)),(5,(aH 0))] [(0,some (bx (.val (.int .u32 (((d:Nat):Int)))))),(1,some (bx (.sl 74 1 (List.map jC []))))] (zN (xA 0)<|zN (uT 1 ze24 zo24)<|zM<|zZ) ?_
 refine jB<|kx [] [(1,some [(.own 2 74 1 a.length)]),(2,some (bm jC (List.replicate a.length 0)))] (zM<|zE (zV kC)<|zN (oMk 2 jC (0:Nat) a.length a.length kC xW hM dT)<|zT (oSo vZ)<|zZ) ?_
 refine jB<|kx [(6,(.ref 3 0))] [(3,some (bx (.val (.int .u64 (0)))))] (zH (uT 3 ze79 zo79)<|zT (qK sh79)<|zZ) ?_
 refine jB<|pwp_backL backs cb123 rfl 7 jC a 0 (fun (q,vH)=>⟨[(3,(.ref 0 0)),(4,(.ref 1 0)),(5,(aH 0)),(6,(.ref 3 0))],[(0,some (bx (.val (.int .u32 (((d:Nat):Int)))))),(1,some [(.own 2 74 1 a.length)]),(2,some (bm jC q)),(3,some (bx (.val (.int .u64 (((vH:Nat):Int))))))]⟩) (fun (j:Nat) (q,vH)=>q.length=a.length/\Dig q/\vH<d/\val (a.drop (a.length-j))=val (q.drop (a.length-j))*d+vH) (List.replicate a.length 0,0) rfl rfl rfl rfl rfl rfl rfl rfl rfl rfl rfl rfl (fun _=>rfl) (fun _=>rfl) wk ⟨by simp,vY _,hd0,by simp [val,cT]⟩ (by omega) ?_ ?_
 ·rintro rl j ⟨q,vH⟩ hj ⟨qL,hdq,hr,hv⟩
  have hg:=hda.getD (a.length-1-j)
  obtain ⟨hb1,hb2⟩:=short_bound hr hd1 hg
  refine jB<|kx [(7,(jS (a.length-1-j)))] [] (zM<|zZ) ?_
  refine kx [(8,(aH (a.getD (a.length-1-j) 0)))] [] (zM<|zZ) ?_
  refine jG<|jB<|kx [(9,(zP ((vH*1000000000)+(a.getD (a.length-1-j) 0))))] [] (zR (qR sh79)<|zE (oMl (vH*1000000000))<|zM<|zE (hC gZ gY (a.getD (a.length-1-j) 0))<|zE (vD ((vH*1000000000)+(a.getD (a.length-1-j) 0)))<|zM<|zZ) ?_
  refine kd [] [(2,some (bm jC (q.set (a.length-1-j) (((vH*1000000000)+(a.getD (a.length-1-j) 0)) / d)))),(3,some (bx (.val (.int .u64 ((((((vH*1000000000)+(a.getD (a.length-1-j) 0)) % d):Nat):Int))))))] mo (wR (qR vZ)<|wM<|wM<|wR (qR uK)<|wE (hC gZ gY d)<|wE (oQu (((vH*1000000000)+(a.getD (a.length-1-j) 0)) / d))<|wE (hC cY cA (((vH*1000000000)+(a.getD (a.length-1-j) 0)) / d))<|wM<|wR (qR uK)<|wE (hC gZ gY d)<|wE (oRe (((vH*1000000000)+(a.getD (a.length-1-j) 0)) % d))<|wE (aJ kC (a.length-1-j))<|wT (oSp uK (a.length-1-j) (((vH*1000000000)+(a.getD (a.length-1-j) 0)) / d))<|wT (qK sh79)<|wZ) ?_
  exact ⟨(q.set (a.length-1-j) ((vH*1000000000+a.getD (a.length-1-j) 0) / d),(vH*1000000000+a.getD (a.length-1-j) 0) % d),wk,⟨by simpa using qL,hdq.set _ hb2,Nat.mod_lt _ hd0,short_step hj qL hv rfl⟩⟩
 ·rintro ⟨q,vH⟩ ⟨qL,hdq,hr,hv⟩
  obtain ⟨e1,e2⟩:=short_end hv hr
  refine jB<|kM (publishB (j:=1) (k:=2) (es:=List.map jC q) rfl rfl rfl (uM _ _ (fun _=>rfl)) (uD _ _ qL) (vE _ _ (fun _=>rfl) qL)) ?_
  refine kd [(5,(aH vH))] [(1,some (bx (.sl 74 1 (List.map jC (ofNat (val q))))))] mo (wR (qR vZ)<|wE (kH (t_trim q (by assumption) (by omega)))<|wR (qR sh79)<|wE (hC cY cA vH)<|wT (qK vZ)<|wM<|wZ) ?_
  refine jE ⟨_,(res_1 (cs:=(bx (.sl 74 1 (List.map jC (ofNat (val q)))))) (d:=(.sl 74 1 (List.map jC (ofNat (val q))))) rfl rfl vZ rfl rfl (.tmp (d:=(.val (.int .u32 (((vH:Nat):Int))))) rfl .nil)),?_⟩
  rw[<- e1,<- e2];rfl
theorem o_times(a b:List Nat)(hda:Dig a)(hdb:Dig b)(hla:a.length+b.length<=35184372088832)(hlb:b.length<=35184372088832)(h0:0<val a*val b):TakesO Tryz.prog 112 [(.sl 74 1 (List.map jC a)),(.sl 74 1 (List.map jC b))] 74 1 (ofNat (val a*val b)).length (List.map jC (ofNat (val a*val b))):=by
 refine fn_introO Tryz.func112 rfl cb112 rfl (cP h0) ?_
 refine jB<|kx [] [] (zE (oNl 74 1)<|zZ) ?_
 refine jB<|kx [(5,(.own 0 74 1 (a.length+b.length)))] [(0,some (bm jC (List.replicate (a.length+b.length) 0)))] (zM<|zE (zV kC)<|zM<|zE (zV kC)<|zE (vD (a.length+b.length))<|zN (oMk 0 jC (0:Nat) (a.length+b.length) (a.length+b.length) kC xW hM dT)<|zM<|zZ) ?_
 refine jB<|jB<|kx [(18,(vl 74 1 jC a)),(19,(jS a.length)),(20,(jS 0))] [] (zM<|zE (zV kC)<|zM<|zZ) ?_
 refine jG<|kU (α:=Nat × List Nat) (fun (i,out)=>⟨[(1,(vl 74 1 jC b)),(5,(.own 0 74 1 (a.length+b.length))),(18,(vl 74 1 jC a)),(19,(jS a.length)),(20,(jS i))],[(0,some (bm jC out))]⟩) (fun (i,out)=>out.length=a.length+b.length/\Dig out/\i<=a.length/\(∀ k,i+b.length<=k->out.getD k 0=0)/\val out=val (a.take i)*val b) (fun (i,out)=>a.length-i) (0,List.replicate (a.length+b.length) 0) wk ⟨by simp,vY _,Nat.zero_le _,fun k _=>eG _ k,by simp [val,cT]⟩ ?_
 rintro ⟨i,out⟩ ⟨qL,hdo,hi,hz,hv⟩
 have hai:=hda.getD i
 refine jB<|kx [(21,(vb (decide (((i:Nat):Int)<((a.length:Nat):Int)))))] [] (zE xO<|zZ) ?_
 refine jB<|jH rfl (fun h1=>?_) (fun h1=>?_)
 ·replace h1:=xF h1
  refine jF<|jB<|jG<|jB<|kx [(6,(jS i)),(7,(aH (a.getD i 0)))] [] (zM<|zE (dS kC i (0:Nat))<|zE (gJ uK)<|zM<|zM<|zZ) ?_
  refine jB<|kx [(8,(zP 0))] [] (zM<|zZ) ?_
  refine jB<|jB<|kx [(25,(vl 74 1 jC b)),(26,(jS b.length)),(27,(jS 0))] [] (zM<|zE (zV kC)<|zM<|zZ) ?_
  refine jG<|kU (α:=Nat × List Nat × Nat) (fun (j,o2,c)=>⟨[(1,(vl 74 1 jC b)),(5,(.own 0 74 1 (a.length+b.length))),(6,(jS i)),(7,(aH (a.getD i 0))),(8,(zP c)),(18,(vl 74 1 jC a)),(19,(jS a.length)),(20,(jS i)),(25,(vl 74 1 jC b)),(26,(jS b.length)),(27,(jS j))],[(0,some (bm jC o2))]⟩) (fun (j,o2,c)=>o2.length=a.length+b.length/\Dig o2/\j<=b.length/\c<1000000000/\(∀ k,i+b.length<=k->o2.getD k 0=0)/\val o2+pw (i+j)*c=val (a.take i)*val b+pw i*(a.getD i 0*val (b.take j))) (fun (j,o2,c)=>b.length-j) (0,out,0) wk ⟨qL,hdo,Nat.zero_le _,by decide,hz,by simp [val,hv]⟩ ?_
  rintro ⟨j,o2,c⟩ ⟨hlen2,hdo2,hj,hc,hz2,hv2⟩
  have hbj:=hdb.getD j
  have hoj:=hdo2.getD (i+j)
  have hpq:a.getD i 0*b.getD j 0<=999999999*999999999:=Nat.mul_le_mul (by omega) (by omega)
  refine jB<|kx [(28,(vb (decide (((j:Nat):Int)<((b.length:Nat):Int)))))] [] (zE xO<|zZ) ?_
  refine jB<|jH rfl (fun h2=>?_) (fun h2=>?_)
  ·replace h2:=xF h2
   refine jF<|jB<|jG<|jB<|kx [(9,(jS j)),(10,(aH (b.getD j 0)))] [] (zM<|zE (dS kC j (0:Nat))<|zE (gJ uK)<|zM<|zM<|zZ) ?_
   refine jB<|kx [(11,(zP (((o2.getD (i+j) 0)+((a.getD i 0)*(b.getD j 0)))+c)))] [] (zM<|zM<|zM<|zE (vD (i+j))<|zE (aJ kC (i+j))<|zR (oLp uK (i+j) (0:Nat))<|zE (hC gZ gY (o2.getD (i+j) 0))<|zM<|zE (hC gZ gY (a.getD i 0))<|zM<|zE (hC gZ gY (b.getD j 0))<|zE (oMl ((a.getD i 0)*(b.getD j 0)))<|zE (vD ((o2.getD (i+j) 0)+((a.getD i 0)*(b.getD j 0))))<|zM<|zE (vD (((o2.getD (i+j) 0)+((a.getD i 0)*(b.getD j 0)))+c))<|zM<|zZ) ?_
   refine kx [(8,(zP ((((o2.getD (i+j) 0)+((a.getD i 0)*(b.getD j 0)))+c) / 1000000000)))] [(0,some (bm jC (o2.set (i+j) ((((o2.getD (i+j) 0)+((a.getD i 0)*(b.getD j 0)))+c) % 1000000000))))] (zM<|zM<|zM<|zE (vD (i+j))<|zM<|zE (oRe ((((o2.getD (i+j) 0)+((a.getD i 0)*(b.getD j 0)))+c) % 1000000000))<|zE (hC cY cA ((((o2.getD (i+j) 0)+((a.getD i 0)*(b.getD j 0)))+c) % 1000000000))<|zM<|zE (oQu ((((o2.getD (i+j) 0)+((a.getD i 0)*(b.getD j 0)))+c) / 1000000000))<|zE (aJ kC (i+j))<|zT (oSp uK (i+j) ((((o2.getD (i+j) 0)+((a.getD i 0)*(b.getD j 0)))+c) % 1000000000))<|zM<|zZ) ?_
   refine kx [(27,(jS (j+1)))] [] (zE (vD (j+1))<|zM<|zZ) ?_
   exact ⟨(j+1,o2.set (i+j) ((o2.getD (i+j) 0+a.getD i 0*b.getD j 0+c) % 1000000000),(o2.getD (i+j) 0+a.getD i 0*b.getD j 0+c) / 1000000000),wk,(by obtain ⟨q1,q2⟩:=times_step (by omega) hdo2 hv2 rfl (val_take_succ b j);exact ⟨by simpa using hlen2,q1,by omega,by omega,zero_set (by omega) hz2,q2⟩),(by first|omega|(dsimp only;omega))⟩
  ·replace h2:=xH h2
   have hje:j=b.length:=by omega
   rw[hje] at hv2
   refine kK<|kx [] [(0,some (bm jC (o2.set (i+b.length) c)))] (zM<|zM<|zM<|zE (zV kC)<|zE (vD (i+b.length))<|zM<|zE (hC cY cA c)<|zE (aJ kC (i+b.length))<|zT (oSp uK (i+b.length) c)<|zZ) ?_
   refine kx [(20,(jS (i+1)))] [] (zE (vD (i+1))<|zM<|zZ) ?_
   exact ⟨(i+1,o2.set (i+b.length) c),wk,(by obtain ⟨q1,q2,q3,q4⟩:=times_row hdo2 (by omega) hlen2 hz2 hc hv2;exact ⟨q1,q2,by omega,q3,q4⟩),(by first|omega|(dsimp only;omega))⟩
 ·replace h1:=xH h1
  have hie:i=a.length:=by omega
  rw[hie,List.take_length] at hv
  refine kK<|jB<|kx [(4,(.own 0 74 1 ((ofNat (val out)).length)))] [] (zM<|zR ⟨_,e_trimO out (by exact rfl) (by exact rfl) qL hdo (by omega),by kernel_rfl⟩<|zM<|zZ) ?_
  rw[<- hv]
  refine jE ⟨4,0,rfl,rfl,(bm jC out),rfl,?_⟩
  exact own_prefix _ (trim_take hdo)
end Go.Proofs.YtciingpdmjepgabGreatDoor
