/- Part 13 of a proof: rules, plain facts, and functions walked. -/
import Derived.Test.YtnajallgoaiahaaGreatDoorM7
import Derived.Test.YtnajallgoaiahaaGreatDoorChecked
import Derived.RangeFuncBox
import Derived.Shelf.Abstract
import Derived.OwnWalkIn
import Derived.TacticsInMore
import Derived.LoopNIn
import Derived.LoopIn
import Derived.Test.YtnajallgoaiahaaGreatDoorM12
import Derived.Test.YtnajallgoaiahaaGreatDoorM9
import Derived.Test.YtnajallgoaiahaaGreatDoorM10
set_option linter.all false
set_option maxRecDepth 4000
namespace Go.Proofs.YtnajallgoaiahaaGreatDoor
open Go.RowKit Go.Shelf
attribute [local go_sem] Oper.semAt_some
set_option maxRecDepth 100000 in
set_option maxHeartbeats 2000000 in
theorem back1(N l Bs b off len cap:Nat)(u:Nat→Value)(qU:(len:Int)≤9223372036854775807)(J:Nat→World→Prop)(Jx:World→Prop)
  (hc:∀ j W,J j W→W.cell? ⟨Bs,0,none⟩=some (.slice (some ⟨b,off,none⟩) len cap)∧∀ i,i<len→W.cell? ⟨b,off+i,none⟩=some (u i))
  (hY:∀ j W,J j W→j<len→YieldAt Fence.wide N Tryz.prog l #[.int .i64 ((len:Int)-1-(j:Int)),u (len-1-j)] W fun e W'=>
   (e=.returned (.bool true)∧J (j+1) W')∨(e=.returned (.bool false)∧Jx W'))
  (W:World) (h0:J 0 W) :
  CallsIn Fence.wide (N+1) Tryz.prog 262 #[.func (.yield l) #[] #[],.pointer (some ⟨Bs,0,none⟩)] W fun e W'=>(∃ v,e=.returned v)∧(J len W'∨Jx W'):=by
 refine callsIn_of_wp Tryz.func262 rfl trivial ?_ rfl
 simp only[Tryz.ntmps262,List.size_toArray,List.length_cons,List.length_nil,Nat.reduceAdd,Nat.reduceSub,Array.replicate_succ,Array.replicate_zero,List.push_toArray,List.append_toArray,List.nil_append,List.cons_append]
 have hBs:=(hc 0 W h0).1
 gi_wp2
 gi_loopw [3] (fun i wr=>∃ j:Nat,j≤len∧i=.int .i64 ((len:Int)-1-(j:Int))∧J j wr)
  (fun i _=>(intOf i+1).toNat)
 case atStart=>exact ⟨0,Nat.zero_le _,by simp,h0⟩
 case round=>
  obtain ⟨j,hk,rfl,hJs⟩:=hrel
  have hBj:=(hc j wr hJs).1
  by_cases hlt:j<len
  ·have hcj:=(hc j wr hJs).2 (len-1-j) (by omega)
   obtain ⟨fn,tmps,assign,body,hy,hR⟩:=hY j wr hJs hlt
   gi_wp2
   refine hR.mono ?_
   rintro e W3 (⟨rfl,hJ3⟩ | ⟨rfl,hJx3⟩)
   ·gi_wp2
    go_roundw
    case rel=>exact ⟨j+1,by omega,by simp;omega,hJ3⟩
    case measure=>simp [intOf];omega
   ·gi_wp2
    refine bodyPost_ret (results_none rfl _ _ _) rfl ?_
    exact ⟨⟨_,rfl⟩,.inr hJx3⟩
  ·obtain rfl:j=len:=by omega
   gi_wp2
   go_end0
   exact ⟨⟨_,rfl⟩,.inl hJs⟩
set_option maxRecDepth 100000 in
set_option maxHeartbeats 2000000 in
theorem back1_nil(N l Bs cap:Nat)(ao:Option Addr)(J:World→Prop)(W:World)(hBs:W.cell? ⟨Bs,0,none⟩=some (.slice ao 0 cap))(h0:J W) :
  CallsIn Fence.wide (N+1) Tryz.prog 262 #[.func (.yield l) #[] #[],.pointer (some ⟨Bs,0,none⟩)] W fun e W'=>(∃ v,e=.returned v)∧J W':=by
 refine callsIn_of_wp Tryz.func262 rfl trivial ?_ rfl
 simp only[Tryz.ntmps262,List.size_toArray,List.length_cons,List.length_nil,Nat.reduceAdd,Nat.reduceSub,Array.replicate_succ,Array.replicate_zero,List.push_toArray,List.append_toArray,List.nil_append,List.cons_append]
 gi_wp2
 gi_loopw [3] (fun i wr=>i=.int .i64 (-1)∧J wr) (fun _ _=>0)
 case atStart=>exact ⟨by simp,h0⟩
 case round=>
  obtain ⟨rfl,hJs⟩:=hrel
  gi_wp2
  go_end0
  exact ⟨⟨_,rfl⟩,hJs⟩
set_option maxHeartbeats 1000000 in
theorem back_in(a:Option Addr)(len cap:Nat)(w:World) :
  Calls Tryz.prog 249 #[.slice a len cap] w fun e w'=>e=.returned (.func (.func 262) #[] #[.pointer (some ⟨w.heap.size,0,none⟩)])∧w'=w.alloc (.cells #[.slice a len cap] 41):=by
 refine (callsIn_wide (n:=1)).1 (callsIn_of_wp Tryz.func249 rfl trivial ?_ rfl)
 simp only[Tryz.ntmps249,List.size_toArray,List.length_cons,List.length_nil,Nat.reduceAdd,Nat.reduceSub,Array.replicate_succ,Array.replicate_zero,List.push_toArray,List.append_toArray,List.nil_append,List.cons_append]
 gi_wp2
 go_ret
 exact ⟨rfl,rfl⟩
theorem backs:Go.Fid.Backs Tryz.prog 249 262 41:=⟨back_in,back1_nil,fun N l c b off len cap u qU J Jx hc hY W h0=>back1 N l c b off len cap u qU J Jx hc hY W h0,enters_of Tryz.func262 (by kernel_rfl) rfl⟩
open Go.Fid
theorem cb217:callB Tryz.prog 217=true:=by kernel_rfl
theorem cb218:callB Tryz.prog 218=true:=by kernel_rfl
theorem cb219:callB Tryz.prog 219=true:=by kernel_rfl
theorem cb220:callB Tryz.prog 220=true:=by kernel_rfl
theorem cb221:callB Tryz.prog 221=true:=by kernel_rfl
theorem cb248:callB Tryz.prog 248=true:=by kernel_rfl
theorem cb249:callB Tryz.prog 249=true:=by kernel_rfl
theorem cb250:callB Tryz.prog 250=true:=by kernel_rfl
theorem cb263:callB Tryz.prog 263=true:=by kernel_rfl
theorem pl43:dT Tryz.prog 43=some [(0,1),(1,1)]:=by kernel_rfl
theorem hP:qO Tryz.prog 3=some (false,1):=by kernel_rfl
theorem xZ:qO Tryz.prog 41=some (false,1):=by kernel_rfl
theorem jY:qO Tryz.prog 43=some (true,2):=by kernel_rfl
theorem sh170:qO Tryz.prog 170=some (false,1):=by kernel_rfl
theorem ze3:zJ Tryz.prog 3=some [.int .i64 0]:=by kernel_rfl
theorem yH:zJ Tryz.prog 43=some [.bool false,.slice none 0 0]:=by kernel_rfl
theorem ze170:zJ Tryz.prog 170=some [.int .u64 0]:=by kernel_rfl
theorem zo3:aJ [.int .i64 0] [.val (.int .i64 0)]:=by simp [aJ,Value.oneCell']
theorem yF:aJ [.bool false,.slice none 0 0] [.val (.bool false),.sl 140 1 []]:=by simp [aJ,Value.oneCell']
theorem zo170:aJ [.int .u64 0] [.val (.int .u64 0)]:=by simp [aJ,Value.oneCell']
theorem t_isnan_int(a:Int):jQ Tryz.prog 248 [(.val (.int .i64 (a)))] (.val (.bool (false))):=by
 refine jG Tryz.func248 rfl cb248 rfl ?_
 show qK _ _ _ _ ⟨[(0,(vi a))],[]⟩
 refine jB<|kx [] [] (zM<|zZ) ?_
 refine jB<|kx [(2,(vb (a != a)))] [] (zM<|zM<|zE cM<|zM<|zZ) ?_
 refine jE ⟨_,(.tmp (d:=(.val (.bool ((a != a))))) rfl .nil),?_⟩
 simp [retD]
theorem t_cmp_int(a b:Int):jQ Tryz.prog 217 [(.val (.int .i64 (a))),(.val (.int .i64 (b)))] (.val (.int .i64 ((uP a b)))):=by
 refine jG Tryz.func217 rfl cb217 rfl ?_
 show qK _ _ _ _ ⟨[(0,(vi a)),(1,(vi b))],[]⟩
 refine jB<|kx [] [] (zM<|zZ) ?_
 refine jB<|kx [(5,(vb false))] [] (zM<|zE (jZ (t_isnan_int a))<|zM<|zZ) ?_
 refine jB<|kx [(6,(vb false))] [] (zM<|zE (jZ (t_isnan_int b))<|zM<|zZ) ?_
 refine jB<|jB<|kx [(11,(vb false))] [] (zM<|zZ) ?_
 refine kY ?_
 refine jD<|jB<|jB<|kx [(13,(vb false))] [] (zM<|zZ) ?_
 refine kY ?_
 refine jD<|jB<|jB<|kx [(16,(vb (decide (a<b))))] [] (zM<|zM<|zE xT<|zZ) ?_
 refine jF (b:=decide (a<b)) rfl (fun h1=>?_) (fun h1=>?_)
 ·replace h1:=vI h1
  refine jB<|kx [(4,(vi (-1)))] [] (zM<|zZ) ?_
  refine jE ⟨_,(.tmp (d:=(.val (.int .i64 (-1)))) rfl .nil),?_⟩
  rw[show uP a b=-1 from if_pos h1];rfl
 ·replace h1:=vM h1
  refine jD<|jB<|jB<|kx [(19,(vb (decide (b<a))))] [] (zM<|zM<|zE mT<|zZ) ?_
  refine jF (b:=decide (b<a)) rfl (fun h2=>?_) (fun h2=>?_)
  ·replace h2:=vI h2
   refine jB<|kx [(4,(jV 1))] [] (zM<|zZ) ?_
   refine jE ⟨_,(.tmp (d:=(.val (.int .i64 (1)))) rfl .nil),?_⟩
   rw[fY h2];rfl
  ·replace h2:=vM h2
   refine jD<|jB<|kx [(4,(jV 0))] [] (zM<|zZ) ?_
   refine jE ⟨_,(.tmp (d:=(.val (.int .i64 (0)))) rfl .nil),?_⟩
   rw[cmpI_eq h1 h2];rfl
theorem t_isnan_uint32(a:Nat):jQ Tryz.prog 263 [(.val (.int .u32 (((a:Nat):Int))))] (.val (.bool (false))):=by
 refine jG Tryz.func263 rfl cb263 rfl ?_
 show qK _ _ _ _ ⟨[(0,(fN a))],[]⟩
 refine jB<|kx [] [] (zM<|zZ) ?_
 refine jB<|kx [(2,(vb (((a:Nat):Int) != ((a:Nat):Int))))] [] (zM<|zM<|zE cM<|zM<|zZ) ?_
 refine jE ⟨_,(.tmp (d:=(.val (.bool ((((a:Nat):Int) != ((a:Nat):Int)))))) rfl .nil),?_⟩
 simp [retD]
theorem t_cmp_uint32(a b:Nat):jQ Tryz.prog 250 [(.val (.int .u32 (((a:Nat):Int)))),(.val (.int .u32 (((b:Nat):Int))))] (.val (.int .i64 ((uP ((a:Nat):Int) ((b:Nat):Int))))):=by
 refine jG Tryz.func250 rfl cb250 rfl ?_
 show qK _ _ _ _ ⟨[(0,(fN a)),(1,(fN b))],[]⟩
 refine jB<|kx [] [] (zM<|zZ) ?_
 refine jB<|kx [(5,(vb false))] [] (zM<|zE (jZ (t_isnan_uint32 a))<|zM<|zZ) ?_
 refine jB<|kx [(6,(vb false))] [] (zM<|zE (jZ (t_isnan_uint32 b))<|zM<|zZ) ?_
 refine jB<|jB<|kx [(11,(vb false))] [] (zM<|zZ) ?_
 refine kY ?_
 refine jD<|jB<|jB<|kx [(13,(vb false))] [] (zM<|zZ) ?_
 refine kY ?_
 refine jD<|jB<|jB<|kx [(16,(vb (decide (((a:Nat):Int)<((b:Nat):Int)))))] [] (zM<|zM<|zE xT<|zZ) ?_
 refine jF rfl (fun h1=>?_) (fun h1=>?_)
 ·replace h1:=vI h1
  refine jB<|kx [(4,(vi (-1)))] [] (zM<|zZ) ?_
  refine jE ⟨_,(.tmp (d:=(.val (.int .i64 (-1)))) rfl .nil),?_⟩
  rw[show uP ((a:Nat):Int) ((b:Nat):Int)=-1 from if_pos h1];rfl
 ·replace h1:=vM h1
  refine jD<|jB<|jB<|kx [(19,(vb (decide (((b:Nat):Int)<((a:Nat):Int)))))] [] (zM<|zM<|zE mT<|zZ) ?_
  refine jF rfl (fun h2=>?_) (fun h2=>?_)
  ·replace h2:=vI h2
   refine jB<|kx [(4,(jV 1))] [] (zM<|zZ) ?_
   refine jE ⟨_,(.tmp (d:=(.val (.int .i64 (1)))) rfl .nil),?_⟩
   rw[fY h2];rfl
  ·replace h2:=vM h2
   refine jD<|jB<|kx [(4,(jV 0))] [] (zM<|zZ) ?_
   refine jE ⟨_,(.tmp (d:=(.val (.int .i64 (0)))) rfl .nil),?_⟩
   rw[cmpI_eq h1 h2];rfl
theorem mQ(neg:Bool)(l:List Nat)(hd:Dig l)(hb:l.length≤17592186044416):jQ Tryz.prog 220 [(.val (.bool (neg))),(.sl 140 1 (List.map jC l))] (jN (xB neg (val l))):=by
 refine jG Tryz.func220 rfl cb220 rfl ?_
 show qK _ _ _ _ ⟨[(0,(vb neg)),(1,(vl 140 1 jC l))],[]⟩
 refine jB<|kx [(4,(.ref 0 0))] [(0,some (bx (jN (kU.mk false []))))] (zN (uB 0 yH yF)<|zZ) ?_
 refine jB<|kx [(1,(vl 140 1 jC (ofNat (val l))))] [] (zM<|zE (jZ (t_trim l (by assumption) (by omega)))<|zM<|zZ) ?_
 refine jB<|jB<|kx [(9,(vb ((((ofNat (val l)).length:Nat):Int) == 0)))] [] (zM<|zE (vC kH (L:=(ofNat (val l))))<|zE yQ<|zZ) ?_
 refine jF rfl (fun h1=>?_) (fun h1=>?_)
 ·replace h1:=eq_of_beq h1
  refine jB<|kx [] [(0,some (bx (jN (kU.mk false []))))] (zE (bB pl43 yH yF)<|zT (qD jY)<|zZ) ?_
  refine jE ⟨_,(kP (cs:=(bx (jN (kU.mk false [])))) (d:=(jN (kU.mk false []))) rfl rfl jY rfl rfl .nil),?_⟩
  rw[mkI_zero h1];rfl
 ·replace h1:=ne_of_beq_false h1
  refine jD<|jB<|kx [] [(0,some (bx (jN (kU.mk neg (ofNat (val l))))))] (zM<|zM<|zE (bB pl43 yH yF)<|zT (qD jY)<|zZ) ?_
  refine jE ⟨_,(kP (cs:=(bx (jN (kU.mk neg (ofNat (val l)))))) (d:=(jN (kU.mk neg (ofNat (val l))))) rfl rfl jY rfl rfl .nil),?_⟩
  rw[mkI_pos h1];rfl
theorem t_word(l:List Nat)(hd:Dig l):jQ Tryz.prog 219 [(.sl 140 1 (List.map jC l))] (.tup [(.val (.int .u64 ((((yP l):Nat):Int)))),(.val (.bool ((mM l))))]):=by
 refine jG Tryz.func219 rfl cb219 rfl ?_
 show qK _ _ _ _ ⟨[(0,(vl 140 1 jC l))],[]⟩
 refine jB<|kx [(2,(gC 0)),(3,(vb false))] [] (zM<|zM<|zZ) ?_
 refine jB<|jB<|kx [(9,(vb (decide (2<((l.length:Nat):Int)))))] [] (zM<|zE (vC kH)<|zE mT<|zZ) ?_
 refine jF (b:=decide (2<((l.length:Nat):Int))) rfl (fun h1=>?_) (fun h1=>?_)
 ·replace h1:=vI h1
  refine jB<|kx [(2,(gC 0)),(3,(vb false))] [] (zM<|zM<|zZ) ?_
  refine jE ⟨_,(.tmp (d:=(.val (.int .u64 (0)))) rfl (.tmp (d:=(.val (.bool (false)))) rfl .nil)),?_⟩
  rw[show yP l=0 from if_neg (by omega),show mM l=false from decide_eq_false (by omega)];rfl
 ·replace h1:=vM h1
  have h2:l.length≤2:=by omega
  refine jD<|jB<|kx [(4,(.ref 0 0))] [(0,some (bx (.val (.int .u64 (0)))))] (zN (uB 0 ze170 zo170)<|zT (qD sh170)<|zZ) ?_
  refine jB<|pwp_backL backs cb249 rfl 5 jC l 0 (fun n=>⟨[(2,(gC 0)),(3,(vb false)),(4,(.ref 0 0))],[(0,some (bx (.val (.int .u64 (((n:Nat):Int))))))]⟩) (fun (j:Nat) n=>n=val (l.drop (l.length-j))) 0 rfl rfl rfl rfl rfl rfl rfl rfl rfl rfl rfl rfl (fun _=>rfl) (fun _=>rfl) wk (by simp [val]) (by omega) ?_ ?_
  ·rintro rl j n hj hn
   have hw:=word_bound hd hj h2
   rw[← hn] at hw
   have hg:=hd.getD (l.length-1-j)
   refine kx [(6,(fN (l.getD (l.length-1-j) 0)))] [] (zM<|zZ) ?_
   refine jH<|kx [] [(0,some (bx (.val (.int .u64 (((((n*1000000000)+(l.getD (l.length-1-j) 0)):Nat):Int))))))] (zR (qS sh170)<|zE (oMl (n*1000000000))<|zM<|zE (mU yM yN (l.getD (l.length-1-j) 0))<|zE (vY ((n*1000000000)+(l.getD (l.length-1-j) 0)))<|zT (qD sh170)<|zZ) ?_
   exact ⟨n*1000000000+l.getD (l.length-1-j) 0,wk,(by dsimp only;rw[aS l j hj,← hn];omega)⟩
  ·rintro n hn
   refine jB<|kx [(2,(gC n)),(3,(vb true))] [] (zR (qS sh170)<|zM<|zM<|zZ) ?_
   refine jE ⟨_,(.tmp (d:=(.val (.int .u64 (((n:Nat):Int))))) rfl (.tmp (d:=(.val (.bool (true)))) rfl .nil)),?_⟩
   rw[show yP l=n by rw[hn,Nat.sub_self,List.drop_zero];exact if_pos h2,show mM l=true from decide_eq_true h2];rfl
theorem t_compare(a b:List Nat)(ha:zW a)(hb:zW b)(hla:a.length≤17592186044416):jQ Tryz.prog 218 [(.sl 140 1 (List.map jC a)),(.sl 140 1 (List.map jC b))] (.val (.int .i64 ((uP ((val a:Nat):Int) ((val b:Nat):Int))))):=by
 refine jG Tryz.func218 rfl cb218 rfl ?_
 show qK _ _ _ _ ⟨[(0,(vl 140 1 jC a)),(1,(vl 140 1 jC b))],[]⟩
 refine jB<|kx [(3,(.ref 0 0)),(4,(.ref 1 0))] [(0,some (bx (.sl 140 1 (List.map jC b)))),(1,some (bx (.val (.int .i64 (0)))))] (zN (vN 0)<|zN (uB 1 ze3 zo3)<|zZ) ?_
 refine jB<|jB<|kx [(11,(vb (((a.length:Nat):Int) != ((b.length:Nat):Int))))] [] (zM<|zE (vC kH)<|zR (qS xZ)<|zE (vC kH)<|zE cM<|zZ) ?_
 refine jF rfl (fun h1=>?_) (fun h1=>?_)
 ·replace h1:=bne_iff_ne.1 h1
  refine jB<|kx [] [(1,some (bx (.val (.int .i64 ((uP ((a.length:Nat):Int) ((b.length:Nat):Int)))))))] (zM<|zE (vC kH)<|zR (qS xZ)<|zE (vC kH)<|zE (jZ (t_cmp_int ((a.length:Nat):Int) ((b.length:Nat):Int)))<|zT (qD hP)<|zZ) ?_
  refine jE ⟨_,(res_1 (cs:=(bx (.val (.int .i64 ((uP ((a.length:Nat):Int) ((b.length:Nat):Int))))))) (d:=(.val (.int .i64 ((uP ((a.length:Nat):Int) ((b.length:Nat):Int)))))) rfl rfl hP rfl rfl .nil),?_⟩
  rw[← cmpI_len ha hb h1];rfl
 ·replace h1:=bne_eq_false_iff_eq.1 h1
  have hl:a.length=b.length:=by omega
  refine jD<|jB<|pwp_backL backs cb249 rfl 5 jC a 0 (fun _=>⟨[(3,(.ref 0 0)),(4,(.ref 1 0))],[(0,some (bx (.sl 140 1 (List.map jC b)))),(1,some (bx (.val (.int .i64 (0)))))]⟩) (fun (j:Nat) _=>val (a.drop (a.length-j))=val (b.drop (a.length-j))) () rfl rfl rfl rfl rfl rfl rfl rfl rfl rfl rfl rfl (fun _=>rfl) (fun _=>rfl) wk (by rw[Nat.sub_zero,List.drop_length,hl,List.drop_length]) (by omega) ?_ ?_
  ·rintro rl j ⟨⟩ hj he
   refine jB<|kx [(5,(jV (a.length-1-j)))] [] (zM<|zZ) ?_
   refine kx [(6,(fN (a.getD (a.length-1-j) 0)))] [] (zM<|zZ) ?_
   refine jH<|jB<|kx [(26,(vb ((((a.getD (a.length-1-j) 0):Nat):Int) != (((b.getD (a.length-1-j) 0):Nat):Int))))] [] (zM<|zR (qS xZ)<|zM<|zE (yL kH (a.length-1-j) (0:Nat))<|zE (yR qP)<|zE cM<|zZ) ?_
   refine jF rfl (fun h2=>?_) (fun h2=>?_)
   ·replace h2:=bne_iff_ne.1 h2
    refine jB<|kx [] [(1,some (bx (.val (.int .i64 ((uP (((a.getD (a.length-1-j) 0):Nat):Int) (((b.getD (a.length-1-j) 0):Nat):Int)))))))] (zM<|zR (qS xZ)<|zM<|zE (yL kH (a.length-1-j) (0:Nat))<|zE (yR qP)<|zE (jZ (t_cmp_uint32 (a.getD (a.length-1-j) 0) (b.getD (a.length-1-j) 0)))<|zT (qD hP)<|zZ) ?_
    refine jE ⟨⟨[(4,(.ref 1 0))],[(1,some (bx (.val (.int .i64 ((uP (((a.getD (a.length-1-j) 0):Nat):Int) (((b.getD (a.length-1-j) 0):Nat):Int)))))))]⟩,wk,keys_of rfl,⟨_,(res_1 (cs:=(bx (.val (.int .i64 ((uP (((a.getD (a.length-1-j) 0):Nat):Int) (((b.getD (a.length-1-j) 0):Nat):Int))))))) (d:=(.val (.int .i64 ((uP (((a.getD (a.length-1-j) 0):Nat):Int) (((b.getD (a.length-1-j) 0):Nat):Int)))))) rfl rfl hP rfl rfl .nil),?_⟩⟩
    rw[← cmpI_top ha.1 hb.1 hl hj he h2];rfl
   ·replace h2:=bne_eq_false_iff_eq.1 h2
    refine jD ?_
    exact ⟨(),wk,(by dsimp only;have e1:=aS a j hj;have e2:=aS b j (by omega);rw[← hl] at e2;rw[e1,e2,he];omega)⟩
  ·rintro ⟨⟩ he
   refine jB<|kx [] [(1,some (bx (.val (.int .i64 (0)))))] (zT (qD hP)<|zZ) ?_
   refine jE ⟨_,(res_1 (cs:=(bx (.val (.int .i64 (0))))) (d:=(.val (.int .i64 (0)))) rfl rfl hP rfl rfl .nil),?_⟩
   rw[cmpI_same (by rw[Nat.sub_self,List.drop_zero,List.drop_zero] at he;exact he)];rfl
theorem t_split(n:Nat)(hn:n<18446744073709551616):jQ Tryz.prog 221 [(.val (.int .u64 (((n:Nat):Int))))] (.sl 140 1 (List.map jC (ofNat n))):=by
 refine jG Tryz.func221 rfl cb221 rfl ?_
 show qK _ _ _ _ ⟨[(0,(gC n))],[]⟩
 refine jB<|kx [] [] (zE (dZ 140 1)<|zZ) ?_
 refine jB<|kx [(3,(.own 0 140 1 0))] [(0,some (bm jC []))] (zO 0 140 1<|zZ) ?_
 refine jB<|jH<|kL (α:=Nat × List Nat) (fun (m,g)=>⟨[(0,(gC m)),(3,(.own 0 140 1 g.length))],[(0,some (bm jC g))]⟩) (fun (m,g)=>m≤n∧g++ofNat m=ofNat n) (fun (m,g)=>m) (n,[]) wk ⟨Nat.le_refl _,by rw[List.nil_append]⟩ ?_
 rintro ⟨m,g⟩ ⟨hm,hg⟩
 have hl:=split_len hg hn
 refine jB<|jB<|kx [(5,(vb (decide (0<((m:Nat):Int)))))] [] (zM<|zE mT<|zZ) ?_
 refine jF (b:=decide (0<((m:Nat):Int))) rfl (fun h1=>?_) (fun h1=>?_)
 ·replace h1:=vI h1
  refine jD<|jB<|jH<|kf [(3,(.own 0 140 1 ((g++[(m % 1000000000)]).length)))] [(0,some (bm jC (g++[(m % 1000000000)])))] (zM<|zM<|zE (oRe (m % 1000000000))<|zE (mU hZ gR (m % 1000000000))<|zE (dG kH vG yB)<|zA jC g [(m % 1000000000)] rfl kH vG nL<|zM<|zF) ?_
  refine kx [(0,(gC (m / 1000000000)))] [] (zM<|zE (oQu (m / 1000000000))<|zM<|zZ) ?_
  exact ⟨(m / 1000000000,g++[m % 1000000000]),wk,⟨by omega,split_step hg h1⟩,(by first|omega|(dsimp only;omega))⟩
 ·replace h1:=vM h1
  refine kJ<|jB<|kW (vX (t:=3) (k:=0) (es:=List.map jC g) rfl rfl (uS _ _ (fun _=>rfl)) (uT _ _ rfl) (vS _ _ (fun _=>rfl) rfl)) ?_
  refine kx [(2,(vl 140 1 jC g))] [] (zM<|zM<|zZ) ?_
  refine jE ⟨_,(.tmp (d:=(.sl 140 1 (List.map jC g))) rfl .nil),?_⟩
  rw[split_end hg h1];rfl
theorem cb135:callB Tryz.prog 135=true:=by kernel_rfl
theorem cb214:callB Tryz.prog 214=true:=by kernel_rfl
theorem cb215:callB Tryz.prog 215=true:=by kernel_rfl
theorem cb216:callB Tryz.prog 216=true:=by kernel_rfl
theorem cb223:callB Tryz.prog 223=true:=by kernel_rfl
theorem cb247:callB Tryz.prog 247=true:=by kernel_rfl
theorem vD:xR Tryz.prog 43 0=some 0:=by kernel_rfl
theorem vL:xR Tryz.prog 43 1=some 1:=by kernel_rfl
theorem aP:qO Tryz.prog 4=some (false,1):=by kernel_rfl
theorem t_big(a:Nat):jQ Tryz.prog 215 [(.val (.int .u32 (((a:Nat):Int))))] (.val (.bool ((decide (1000000000≤((a:Nat):Int)))))):=by
 refine jG Tryz.func215 rfl cb215 rfl ?_
 show qK _ _ _ _ ⟨[(0,(fN a))],[]⟩
 refine jB<|kx [] [] (zM<|zZ) ?_
 refine jB<|kx [(2,(vb (decide (1000000000≤((a:Nat):Int)))))] [] (zM<|zE oGe<|zM<|zZ) ?_
 refine jE ⟨_,(.tmp (d:=(.val (.bool (decide (1000000000≤((a:Nat):Int)))))) rfl .nil),?_⟩
 rfl
theorem t_index(l:List Nat)(hb:l.length≤17592186044416):jQ Tryz.prog 247 [(.sl 140 1 (List.map jC l)),(.val (.func (.func 215) #[] #[]))] (.val (.int .i64 ((xN l)))):=by
 refine jG Tryz.func247 rfl cb247 rfl ?_
 show qK _ _ _ _ ⟨[(0,(vl 140 1 jC l)),(1,(.d (.val (.func (.func 215) #[] #[]))))],[]⟩
 refine jB<|kx [] [] (zM<|zZ) ?_
 refine jB<|jB<|kx [(7,(jV l.length)),(8,(jV 0))] [] (zM<|zE (vC kH)<|zM<|zZ) ?_
 refine jH<|kL (α:=Nat) (fun i=>⟨[(0,(vl 140 1 jC l)),(1,(.d (.val (.func (.func 215) #[] #[])))),(7,(jV l.length)),(8,(jV i))],[]⟩) (fun i=>i≤l.length∧Dig (l.take i)) (fun i=>l.length-i) 0 wk ⟨Nat.zero_le _,gS⟩ ?_
 rintro i ⟨hi,hd⟩
 refine jB<|kx [(9,(vb (decide (((i:Nat):Int)<((l.length:Nat):Int)))))] [] (zE xT<|zZ) ?_
 refine jB<|jF rfl (fun h1=>?_) (fun h1=>?_)
 ·replace h1:=vI h1
  refine jD<|jB<|jH<|jB<|kx [(5,(jV i))] [] (zM<|zM<|zZ) ?_
  refine jB<|kx [(16,(vb (decide (1000000000≤(((l.getD i 0):Nat):Int)))))] [] (zM<|zM<|zM<|zE (yL kH i (0:Nat))<|zE (yR qP)<|zE (jZ (t_big (l.getD i 0)))<|zZ) ?_
  refine jF rfl (fun h2=>?_) (fun h2=>?_)
  ·replace h2:=vI h2
   refine jB<|kx [(4,(jV i))] [] (zM<|zM<|zZ) ?_
   refine jE ⟨_,(.tmp (d:=(.val (.int .i64 (((i:Nat):Int))))) rfl .nil),?_⟩
   rw[firstBig_at (by omega) hd (by omega)];rfl
  ·replace h2:=vM h2
   refine jD<|kx [(8,(jV (i+1)))] [] (zE (vY (i+1))<|zM<|zZ) ?_
   exact ⟨(i+1),wk,⟨by omega,dig_take_succ (by omega) hd (by omega)⟩,(by omega)⟩
 ·replace h1:=vM h1
  refine kJ<|jB<|kx [(4,(vi (-1)))] [] (zM<|zZ) ?_
  refine jE ⟨_,(.tmp (d:=(.val (.int .i64 (-1)))) rfl .nil),?_⟩
  rw[bU (by rw[List.take_of_length_le (by omega)] at hd;exact hd)];rfl
theorem t_contains(l:List Nat)(hb:l.length≤17592186044416):jQ Tryz.prog 214 [(.sl 140 1 (List.map jC l)),(.val (.func (.func 215) #[] #[]))] (.val (.bool ((decide (0≤xN l))))):=by
 refine jG Tryz.func214 rfl cb214 rfl ?_
 show qK _ _ _ _ ⟨[(0,(vl 140 1 jC l)),(1,(.d (.val (.func (.func 215) #[] #[]))))],[]⟩
 refine jB<|kx [] [] (zM<|zZ) ?_
 refine jB<|kx [(4,(vb (decide (0≤(xN l)))))] [] (zM<|zM<|zE (jZ (t_index l (by omega)))<|zE oGe<|zM<|zZ) ?_
 refine jE ⟨_,(.tmp (d:=(.val (.bool (decide (0≤(xN l)))))) rfl .nil),?_⟩
 rfl
theorem t_valid(x:kU)(hb:x.gs.length≤17592186044416):jQ Tryz.prog 135 [(jN x)] (.val (.bool ((uF x)))):=by
 refine jG Tryz.func135 rfl cb135 rfl ?_
 show qK _ _ _ _ ⟨[(0,(.d (jN x)))],[]⟩
 refine jB<|kx [(1,(.ref 0 0))] [(0,some (bx (jN x)))] (zN (vN 0)<|zM<|zZ) ?_
 refine jB<|kx [(3,(jV x.gs.length))] [] (zE (kZ vL)<|zR (qS xZ)<|zE (vC kH)<|zM<|zZ) ?_
 refine jB<|jB<|kx [(8,(vb (((x.gs.length:Nat):Int) == 0)))] [] (zM<|zE yQ<|zZ) ?_
 refine jF (b:=(((x.gs.length:Nat):Int) == 0)) rfl (fun h1=>?_) (fun h1=>?_)
 ·replace h1:=eq_of_beq h1
  refine jB<|kx [(2,(vb (!x.neg)))] [] (zE (kZ vD)<|zR (qS aP)<|zE nF<|zM<|zZ) ?_
  refine jE ⟨_,(.tmp (d:=(.val (.bool (!x.neg)))) rfl .nil),?_⟩
  rw[show uF x=!x.neg from if_pos h1];rfl
 ·replace h1:=ne_of_beq_false h1
  refine jD<|jB<|kx [(2,(vb (((((x.gs.getD (x.gs.length-1) 0):Nat):Int) != 0)&&!(decide (0≤xN x.gs)))))] [] ?_ ?_
  ·refine zE (kZ vL)<|zR (qS xZ)<|zM<|zE (oSb (x.gs.length-1))<|zE (yL kH (x.gs.length-1) (0:Nat))<|zE (yR qP)<|zE cM<|zE (oV (vb ((((x.gs.getD (x.gs.length-1) 0):Nat):Int) != 0)) (kV (by kernel_rfl)))<|?_
   rcases hb2:((((x.gs.getD (x.gs.length-1) 0):Nat):Int) != 0) with _ | _
   ·replace hb2:=bne_eq_false_iff_eq.1 hb2
    exact zK<|zK<|zK<|zK<|zE zG<|zM<|zZ
   ·replace hb2:=bne_iff_ne.1 hb2
    exact zE (kZ vL)<|zR (qS xZ)<|zE (jZ (t_contains x.gs (by omega)))<|zE nF<|zE fM<|zM<|zZ
  refine jE ⟨_,(.tmp (d:=(.val (.bool ((((((x.gs.getD (x.gs.length-1) 0):Nat):Int) != 0)&&!(decide (0≤xN x.gs))))))) rfl .nil),?_⟩
  rw[show uF x=_ from if_neg h1];rfl
theorem gK(x:kU)(hb:x.gs.length≤17592186044416):jQ Tryz.prog 216 [(jN x)] (.sl 140 1 (List.map jC (kR x))):=by
 refine jG Tryz.func216 rfl cb216 rfl ?_
 show qK _ _ _ _ ⟨[(0,(.d (jN x)))],[]⟩
 refine jB<|kx [(1,(.ref 0 0))] [(0,some (bx (jN x)))] (zN (vN 0)<|zE (dZ 140 1)<|zZ) ?_
 refine jB<|jB<|kx [(5,(vb (!(uF x))))] [] (zR (kO jY)<|zE (jZ (t_valid x (by omega)))<|zE nF<|zZ) ?_
 refine jF (b:=!(uF x)) rfl (fun h1=>?_) (fun h1=>?_)
 ·refine jB<|kx [(2,(vl 140 1 jC []))] [] (zE (dZ 140 1)<|zZ) ?_
  refine jE ⟨_,(.tmp (d:=(.sl 140 1 (List.map jC []))) rfl .nil),?_⟩
  rw[show kR x=[] from if_neg (by simpa using h1)];rfl
 ·refine jD<|jB<|kx [(2,(vl 140 1 jC x.gs))] [] (zE (kZ vL)<|zR (qS xZ)<|zM<|zZ) ?_
  refine jE ⟨_,(.tmp (d:=(.sl 140 1 (List.map jC x.gs))) rfl .nil),?_⟩
  rw[show kR x=x.gs from if_pos (by simpa using h1)];rfl
theorem t_clone(l:List Nat)(hb:l.length≤17592186044416):jQ Tryz.prog 223 [(.sl 140 1 (List.map jC l))] (.sl 140 1 (List.map jC l)):=by
 refine jG Tryz.func223 rfl cb223 rfl ?_
 show qK _ _ _ _ ⟨[(0,(vl 140 1 jC l))],[]⟩
 refine jB<|kx [] [] (zE (dZ 140 1)<|zZ) ?_
 refine jB<|jB<|pwp_nilq rfl rfl rfl rfl rfl rfl kH rfl rfl rfl (fun nb hnb=>?_)
 refine jF (b:=nb) rfl (fun h1=>?_) (fun h1=>?_)
 ·refine jB<|kx [(2,(vl 140 1 jC []))] [] (zE (dZ 140 1)<|zZ) ?_
  refine jE ⟨_,(.tmp (d:=(.sl 140 1 (List.map jC []))) rfl .nil),?_⟩
  rw[List.map_eq_nil_iff.1 (hnb h1)];rfl
 ·refine jD<|jB<|kf [(2,(.own 0 140 1 (([]++l).length)))] [(0,some (bm jC ([]++l)))] (zN (oBo 0 kH vG yB)<|zM<|zA jC [] l rfl kH vG nL<|zM<|zF) ?_
  refine kW (vX (t:=2) (k:=0) (es:=List.map jC ([]++l)) rfl rfl (uS _ _ (fun _=>rfl)) (uT _ _ rfl) (vS _ _ (fun _=>rfl) rfl)) ?_
  refine jE ⟨_,(.tmp (d:=(.sl 140 1 (List.map jC ([]++l)))) rfl .nil),?_⟩
  rfl
theorem bo4:boolB Tryz.prog 4=true:=by kernel_rfl
theorem cb136:callB Tryz.prog 136=true:=by kernel_rfl
theorem cb137:callB Tryz.prog 137=true:=by kernel_rfl
theorem cb139:callB Tryz.prog 139=true:=by kernel_rfl
theorem cb142:callB Tryz.prog 142=true:=by kernel_rfl
theorem cb150:callB Tryz.prog 150=true:=by kernel_rfl
theorem cb225:callB Tryz.prog 225=true:=by kernel_rfl
theorem cb229:callB Tryz.prog 229=true:=by kernel_rfl
theorem un3:(Tryz.prog.underlying 3).isSome=true:=by kernel_rfl
theorem t_sign(x:kU)(hx:x.gs.length≤1099511627776):jQ Tryz.prog 136 [(jN x)] (.val (.int .i64 ((qY (jX x))))):=by
 refine jG Tryz.func136 rfl cb136 rfl ?_
 show qK _ _ _ _ ⟨[(0,(.d (jN x)))],[]⟩
 refine jB<|kx [(1,(.ref 0 0))] [(0,some (bx (jN x)))] (zN (vN 0)<|zM<|zZ) ?_
 refine jB<|jH<|jB<|kx [(3,(vb ((((kR x).length:Nat):Int) == 0)))] [] (zR (kO jY)<|zE (jZ (gK x (by omega)))<|zE (vC kH (L:=(kR x)))<|zE yQ<|zM<|zZ) ?_
 refine jF (b:=((((kR x).length:Nat):Int) == 0)) rfl (fun h1=>?_) (fun h1=>?_)
 ·replace h1:=eq_of_beq h1
  refine jB<|kx [(2,(jV 0))] [] (zM<|zZ) ?_
  refine jE ⟨_,(.tmp (d:=(.val (.int .i64 (0)))) rfl .nil),?_⟩
  rw[toZ_nil h1];rfl
 ·replace h1:=ne_of_beq_false h1
  refine jB<|kx [(8,(vb x.neg))] [] (zE (kZ vD)<|zR (qS aP)<|zM<|zZ) ?_
  refine jF (b:=x.neg) rfl (fun h2=>?_) (fun h2=>?_)
  ·refine jB<|kx [(2,(vi (-1)))] [] (zM<|zZ) ?_
   refine jE ⟨_,(.tmp (d:=(.val (.int .i64 (-1)))) rfl .nil),?_⟩
   rw[sign_neg h1 h2];rfl
  ·refine jD<|jB<|kx [(2,(jV 1))] [] (zM<|zZ) ?_
   refine jE ⟨_,(.tmp (d:=(.val (.int .i64 (1)))) rfl .nil),?_⟩
   rw[sign_pos h1 h2];rfl
theorem t_neg(x:kU)(hx:x.gs.length≤1099511627776):jQ Tryz.prog 225 [(jN x)] (jN (kD (-jX x))):=by
 refine jG Tryz.func225 rfl cb225 rfl ?_
 show qK _ _ _ _ ⟨[(0,(.d (jN x)))],[]⟩
 refine jB<|kx [(1,(.ref 0 0)),(2,(.ref 1 0))] [(0,some (bx (jN x))),(1,some (bx (jN (kU.mk false []))))] (zN (vN 0)<|zN (uB 1 yH yF)<|zZ) ?_
 refine jB<|kd [] [(1,some (bx (jN (xB (!x.neg) (val (kR x))))))] mo (wE (kZ vD)<|wR (qS aP)<|wE nF<|wR (kO jY)<|wE (jZ (gK x (by omega)))<|wE (jZ (t_clone (kR x) (Nat.le_trans (gI _) (by omega))))<|wE (jZ (mQ (!x.neg) (kR x) (qI _).1 (Nat.le_trans (gI _) (by omega))))<|wT (qD jY)<|wZ) ?_
 refine jE ⟨_,(kP (cs:=(bx (jN (xB (!x.neg) (val (kR x)))))) (d:=(jN (xB (!x.neg) (val (kR x))))) rfl rfl jY rfl rfl .nil),?_⟩
 rw[← neg_eq];rfl
theorem t_sum(b:Bool)(l:List Nat)(c:Bool)(m:List Nat)(hl:zW l)(hm:zW m)(hll:l.length≤1099511627776)(hlm:m.length≤1099511627776):jQ Tryz.prog 229 [(.val (.bool (b))),(.sl 140 1 (List.map jC l)),(.val (.bool (c))),(.sl 140 1 (List.map jC m))] (jN (kD (cV b (val l)+cV c (val m)))):=by
 refine jG Tryz.func229 rfl cb229 rfl ?_
 show qK _ _ _ _ ⟨[(0,(vb b)),(1,(vl 140 1 jC l)),(2,(vb c)),(3,(vl 140 1 jC m))],[]⟩
 refine jB<|kx [(8,(.ref 0 0))] [(0,some (bx (jN (kU.mk false []))))] (zN (uB 0 yH yF)<|zZ) ?_
 refine jB<|jH<|jB<|kx [(9,(vb (b == c)))] [] (zM<|zM<|zE (oEb bo4)<|zM<|zZ) ?_
 refine jF (b:=(b == c)) rfl (fun h1=>?_) (fun h1=>?_)
 ·replace h1:=eq_of_beq h1
  refine jB<|kx [] [(0,some (bx (jN (xB b (val (ofNat (val l+val m)))))))] (zM<|zM<|zM<|zE (jZ (t_plus l m hl.1 hm.1 (by omega) (by omega)))<|zE (jZ (mQ b (ofNat (val l+val m)) (kG _) (Nat.le_trans (add_len hl.1 hm.1) (by omega))))<|zT (qD jY)<|zZ) ?_
  refine jE ⟨_,(kP (cs:=(bx (jN (xB b (val (ofNat (val l+val m))))))) (d:=(jN (xB b (val (ofNat (val l+val m)))))) rfl rfl jY rfl rfl .nil),?_⟩
  rw[← sum_same h1];rfl
 ·replace h1:=ne_of_beq_false h1
  refine jB<|kx [(18,(vb (decide (0≤(uP ((val l:Nat):Int) ((val m:Nat):Int))))))] [] (zM<|zM<|zE (jZ (t_compare l m (by assumption) (by assumption) (by omega)))<|zE oGe<|zM<|zZ) ?_
  refine jF rfl (fun h2=>?_) (fun h2=>?_)
  ·replace h2:=vI h2
   refine jB<|kx [] [(0,some (bx (jN (xB b (val (ofNat (val l-val m)))))))] (zM<|zM<|zM<|zE (jZ (t_minus l m hl.1 hm.1 (by have:=bX h2;omega) (by omega)))<|zE (jZ (mQ b (ofNat (val l-val m)) (kG _) (Nat.le_trans (sub_len hl.1) (by omega))))<|zT (qD jY)<|zZ) ?_
   refine jE ⟨_,(kP (cs:=(bx (jN (xB b (val (ofNat (val l-val m))))))) (d:=(jN (xB b (val (ofNat (val l-val m)))))) rfl rfl jY rfl rfl .nil),?_⟩
   rw[← sum_first h1 (by have:=bX h2;omega)];rfl
  ·replace h2:=vM h2
   refine jD<|jB<|kx [] [(0,some (bx (jN (xB c (val (ofNat (val m-val l)))))))] (zM<|zM<|zM<|zE (jZ (t_minus m l hm.1 hl.1 (by have:=cmpI_lt h2;omega) (by omega)))<|zE (jZ (mQ c (ofNat (val m-val l)) (kG _) (Nat.le_trans (sub_len hm.1) (by omega))))<|zT (qD jY)<|zZ) ?_
   refine jE ⟨_,(kP (cs:=(bx (jN (xB c (val (ofNat (val m-val l))))))) (d:=(jN (xB c (val (ofNat (val m-val l)))))) rfl rfl jY rfl rfl .nil),?_⟩
   rw[← sum_second h1 (by have:=cmpI_lt h2;omega)];rfl
theorem t_add(x:kU)(y:kU)(hx:x.gs.length≤1099511627776)(hy:y.gs.length≤1099511627776):jQ Tryz.prog 150 [(jN x),(jN y)] (jN (kD (jX x+jX y))):=by
 refine jG Tryz.func150 rfl cb150 rfl ?_
 show qK _ _ _ _ ⟨[(0,(.d (jN x))),(1,(.d (jN y)))],[]⟩
 refine jB<|kx [(2,(.ref 0 0)),(3,(.ref 1 0)),(4,(.ref 2 0))] [(0,some (bx (jN x))),(1,some (bx (jN y))),(2,some (bx (jN (kU.mk false []))))] (zN (vN 0)<|zN (vN 1)<|zN (uB 2 yH yF)<|zZ) ?_
 refine jB<|kd [] [(2,some (bx (jN (kD (cV x.neg (val (kR x))+cV y.neg (val (kR y)))))))] mo (wE (kZ vD)<|wR (qS aP)<|wR (kO jY)<|wE (jZ (gK x (by omega)))<|wE (kZ vD)<|wR (qS aP)<|wR (kO jY)<|wE (jZ (gK y (by omega)))<|wE (jZ (t_sum x.neg (kR x) y.neg (kR y) (qI _) (qI _) (Nat.le_trans (gI _) (by omega)) (Nat.le_trans (gI _) (by omega))))<|wT (qD jY)<|wZ) ?_
 refine jE ⟨_,(kP (cs:=(bx (jN (kD (cV x.neg (val (kR x))+cV y.neg (val (kR y))))))) (d:=(jN (kD (cV x.neg (val (kR x))+cV y.neg (val (kR y)))))) rfl rfl jY rfl rfl .nil),?_⟩
 rfl
theorem t_mul(x:kU)(y:kU)(hx:x.gs.length≤1099511627776)(hy:y.gs.length≤1099511627776):jQ Tryz.prog 142 [(jN x),(jN y)] (jN (kD (jX x*jX y))):=by
 refine jG Tryz.func142 rfl cb142 rfl ?_
 show qK _ _ _ _ ⟨[(0,(.d (jN x))),(1,(.d (jN y)))],[]⟩
 refine jB<|kx [(2,(.ref 0 0)),(3,(.ref 1 0)),(4,(.ref 2 0))] [(0,some (bx (jN x))),(1,some (bx (jN y))),(2,some (bx (jN (kU.mk false []))))] (zN (vN 0)<|zN (vN 1)<|zN (uB 2 yH yF)<|zZ) ?_
 refine jB<|kd [] [(2,some (bx (jN (xB (!(x.neg == y.neg)) (val (ofNat (val (kR x)*val (kR y))))))))] mo (wE (kZ vD)<|wR (qS aP)<|wE (kZ vD)<|wR (qS aP)<|wE (oNb bo4)<|wR (kO jY)<|wE (jZ (gK x (by omega)))<|wR (kO jY)<|wE (jZ (gK y (by omega)))<|wE (jZ (t_times (kR x) (kR y) (qI _).1 (qI _).1 (Nat.le_trans (gI _) (by omega)) (Nat.le_trans (gI _) (by omega))))<|wE (jZ (mQ (!(x.neg == y.neg)) (ofNat (val (kR x)*val (kR y))) (kG _) (Nat.le_trans (mul_len (qI _).1 (qI _).1) (by have:=gI x;have:=gI y;omega))))<|wT (qD jY)<|wZ) ?_
 refine jE ⟨_,(kP (cs:=(bx (jN (xB (!(x.neg == y.neg)) (val (ofNat (val (kR x)*val (kR y)))))))) (d:=(jN (xB (!(x.neg == y.neg)) (val (ofNat (val (kR x)*val (kR y))))))) rfl rfl jY rfl rfl .nil),?_⟩
 rw[show jX x*jX y=_ from rfl,jX,jX,← mul_eq];rfl
theorem t_of(n:Int)(hlo:-9223372036854775808≤n)(hhi:n≤9223372036854775807):jQ Tryz.prog 139 [(.val (.int .i64 (n)))] (jN (kD n)):=by
 refine jG Tryz.func139 rfl cb139 rfl ?_
 show qK _ _ _ _ ⟨[(0,(vi n))],[]⟩
 refine jB<|kx [(2,(.ref 0 0))] [(0,some (bx (jN (kU.mk false []))))] (zN (uB 0 yH yF)<|zZ) ?_
 refine jB<|kx [(3,(gC ((n % 18446744073709551616).toNat)))] [] (zM<|zE (mU un3 yN ((n % 18446744073709551616).toNat) (hr:=by exact (conv_u64 _)))<|zM<|zZ) ?_
 refine jB<|jB<|kx [(7,(vb (decide (n<0))))] [] (zM<|zE xT<|zZ) ?_
 refine jF (b:=decide (n<0)) rfl (fun h1=>?_) (fun h1=>?_)
 ·replace h1:=vI h1
  refine kx [(3,(gC ((-n).toNat)))] [] (zM<|zE (oNg (((-n).toNat:Nat):Int) (hr:=by exact (neg_u64 (by assumption) hlo)))<|zM<|zZ) ?_
  refine jB<|kx [] [(0,some (bx (jN (xB (decide (n<0)) (val (ofNat ((-n).toNat)))))))] (zM<|zE xT<|zM<|zE (jZ (t_split ((-n).toNat) (by omega)))<|zE (jZ (mQ (decide (n<0)) (ofNat ((-n).toNat)) (kG _) (Nat.le_trans (fD (by omega)) (by decide))))<|zT (qD jY)<|zZ) ?_
  refine jE ⟨_,(kP (cs:=(bx (jN (xB (decide (n<0)) (val (ofNat ((-n).toNat))))))) (d:=(jN (xB (decide (n<0)) (val (ofNat ((-n).toNat)))))) rfl rfl jY rfl rfl .nil),?_⟩
  rw[of_neg h1];rfl
 ·replace h1:=vM h1
  refine jD<|jB<|kx [] [(0,some (bx (jN (xB (decide (n<0)) (val (ofNat ((n % 18446744073709551616).toNat)))))))] (zM<|zE xT<|zM<|zE (jZ (t_split ((n % 18446744073709551616).toNat) (by omega)))<|zE (jZ (mQ (decide (n<0)) (ofNat ((n % 18446744073709551616).toNat)) (kG _) (Nat.le_trans (fD (by omega)) (by decide))))<|zT (qD jY)<|zZ) ?_
  refine jE ⟨_,(kP (cs:=(bx (jN (xB (decide (n<0)) (val (ofNat ((n % 18446744073709551616).toNat))))))) (d:=(jN (xB (decide (n<0)) (val (ofNat ((n % 18446744073709551616).toNat)))))) rfl rfl jY rfl rfl .nil),?_⟩
  rw[of_pos h1 hhi];rfl
theorem t_compareI(x:kU)(y:kU)(hx:x.gs.length≤1099511627776)(hy:y.gs.length≤1099511627776):jQ Tryz.prog 137 [(jN x),(jN y)] (.val (.int .i64 ((uP (jX x) (jX y))))):=by
 refine jG Tryz.func137 rfl cb137 rfl ?_
 show qK _ _ _ _ ⟨[(0,(.d (jN x))),(1,(.d (jN y)))],[]⟩
 refine jB<|kx [(2,(.ref 0 0)),(3,(.ref 1 0))] [(0,some (bx (jN x))),(1,some (bx (jN y)))] (zN (vN 0)<|zN (vN 1)<|zM<|zZ) ?_
 refine jB<|jB<|kd [(5,(vi (qY (jX x)))),(6,(vi (qY (jX y))))] [] mo (wR (kO jY)<|wE (jZ (t_sign x (by omega)))<|wR (kO jY)<|wE (jZ (t_sign y (by omega)))<|wM<|wM<|wZ) ?_
 refine jB<|kx [(14,(vb ((qY (jX x)) != (qY (jX y)))))] [] (zM<|zM<|zE cM<|zZ) ?_
 refine jF (b:=((qY (jX x)) != (qY (jX y)))) rfl (fun h1=>?_) (fun h1=>?_)
 ·replace h1:=bne_iff_ne.1 h1
  refine jB<|kx [(4,(vi (uP (qY (jX x)) (qY (jX y)))))] [] (zM<|zM<|zE (jZ (t_cmp_int (qY (jX x)) (qY (jX y))))<|zM<|zZ) ?_
  refine jE ⟨_,(.tmp (d:=(.val (.int .i64 ((uP (qY (jX x)) (qY (jX y))))))) rfl .nil),?_⟩
  rw[← cmp_sign h1];rfl
 ·replace h1:=bne_eq_false_iff_eq.1 h1
  refine jD<|jB<|kd [(7,(vi (uP ((val (kR x):Nat):Int) ((val (kR y):Nat):Int))))] [] mo (wR (kO jY)<|wE (jZ (gK x (by omega)))<|wR (kO jY)<|wE (jZ (gK y (by omega)))<|wE (jZ (t_compare (kR x) (kR y) (qI _) (qI _) (Nat.le_trans (gI _) (by omega))))<|wM<|wZ) ?_
  refine jB<|jB<|kx [(24,(vb x.neg))] [] (zE (kZ vD)<|zR (qS aP)<|zZ) ?_
  refine jF (b:=x.neg) rfl (fun h2=>?_) (fun h2=>?_)
  ·refine jB<|kx [(4,(vi (-(uP ((val (kR x):Nat):Int) ((val (kR y):Nat):Int)))))] [] (zM<|zE (oNg (-(uP ((val (kR x):Nat):Int) ((val (kR y):Nat):Int))) (hr:=by exact (wi64 (by omega) (by have:=cmpI_range ((val (kR x):Nat):Int) ((val (kR y):Nat):Int);omega) (by have:=cmpI_range ((val (kR x):Nat):Int) ((val (kR y):Nat):Int);omega))))<|zM<|zZ) ?_
   refine jE ⟨_,(.tmp (d:=(.val (.int .i64 (-(uP ((val (kR x):Nat):Int) ((val (kR y):Nat):Int)))))) rfl .nil),?_⟩
   rw[← cmp_neg h1 h2];rfl
  ·refine jD<|jB<|kx [(4,(vi (uP ((val (kR x):Nat):Int) ((val (kR y):Nat):Int))))] [] (zM<|zM<|zZ) ?_
   refine jE ⟨_,(.tmp (d:=(.val (.int .i64 ((uP ((val (kR x):Nat):Int) ((val (kR y):Nat):Int)))))) rfl .nil),?_⟩
   rw[← cmp_pos h1 h2];rfl
attribute [local go_sem] Oper.semAt_some
set_option maxRecDepth 100000 in
set_option maxHeartbeats 2000000 in
theorem trimV(b cap:Nat)(l:List Nat)(hd:Go.Fid.Dig l)(h0:Go.Fid.val l≠0)(w:World)(hc:∀ i,i<l.length→w.cell? ⟨b,i,none⟩=some (.int .u32 ((l.getD i 0:Nat):Int)))(h1:l.length≤cap)(h2:cap≤maxLen) :
  CallsIn Fence.wide 1 Tryz.prog 251 #[.slice (some ⟨b,0,none⟩) l.length cap] w fun e w'=>e=.returned (.slice (some ⟨b,0,none⟩) (Go.Fid.ofNat (Go.Fid.val l)).length cap)∧w'=w:=by
 refine callsIn_of_wp Tryz.func251 rfl trivial ?_ rfl
 simp only[Tryz.ntmps251,List.size_toArray,List.length_cons,List.length_nil,Nat.reduceAdd,Nat.reduceSub,Array.replicate_succ,Array.replicate_zero,List.push_toArray,List.append_toArray,List.nil_append,List.cons_append]
 gi_wp2
 gi_loopw [0] (fun i wr=>∃ j:Nat,j≤l.length∧0<j∧i=.slice (some ⟨b,0,none⟩) j cap∧Go.Fid.val (l.take j)=Go.Fid.val l∧wr=w)
  (fun i _=>match i with | .slice _ n _=>n | _=>0)
 case atStart=>
  have hl:0<l.length:=by
   rcases l with _ | ⟨d,l⟩
   ·exact absurd rfl h0
   ·simp
  exact ⟨l.length,Nat.le_refl _,hl,rfl,by rw[List.take_length],rfl⟩
 case round=>
  obtain ⟨j,hj,hj0,rfl,hv,rfl⟩:=hrel
  have hcj:=hc (j-1) (by omega)
  have hj63:(j:Int)≤9223372036854775807:=by unfold maxLen at h2;omega
  have hv2:=Go.Fid.val_take_succ l (j-1)
  rw[show j-1+1=j by omega] at hv2
  by_cases hz:l.getD (j-1) 0=0
  ·rw[hz] at hcj hv2
   have h1j:0<j-1:=by
    rcases Nat.eq_zero_or_pos (j-1) with e | e
    ·rw[e,List.take_zero,Go.Fid.val_nil,Nat.mul_zero] at hv2
     omega
    ·exact e
   gi_wp2
   go_roundw
   case rel=>exact ⟨j-1,by omega,h1j,by simp,by rw[← hv,hv2];simp,trivial⟩
   case measure=>simp;omega
  ·gi_wp2
   ·rename_i hq
    exfalso
    simp [List.getD] at hz hq
    omega
   ·refine ⟨rfl,.slice (some ⟨b,0,none⟩) j cap,by simp [results,Tryz.results251,go_sem],?_⟩
    have e:Go.Fid.ofNat (Go.Fid.val l)=l.take j:=by
     rw[← hv]
     refine (Go.Fid.can_eq ⟨hd.take j,?_⟩).symm
     unfold Go.Fid.Top
     have h5:(l.take j).length-1=j-1:=by rw[List.length_take];omega
     rw[h5]
     have h6:j-1<l.length:=by omega
     simp [List.getD,List.getElem?_eq_getElem h6,List.getElem?_take_of_lt (show j-1<j by omega)] at hz ⊢
     exact hz
    rw[e,List.length_take,Nat.min_eq_left hj]
    exact ⟨rfl,rfl⟩
theorem trim_cb:Go.Fid.callB Tryz.prog 251=true:=by kernel_rfl
open Go.Fid in
theorem e_trimO{o:Oper}{S:Nat→SV}{x:Operand}{ats:Array TypeId}{k T m:Nat}(l:List Nat)(ho:o.op=.call { callee:=.value (.func 251),args:=#[x],argTypes:=ats })(hx:ev S x=.own k T 1 m)(hl:l.length=m)(hd:Dig l)(h0:val l≠0) :
  uN Tryz.prog o S [(k,l.map (fun g=>SV.d (jC g)))] (.own k T 1 (ofNat (val l)).length) :=
 fun a w D β Q hop hrd hD=>by
  have hxv:=hop x (by simp [ho,Op.operands,Call.operands])
  rw[hx] at hxv
  have hm:0<m:=by
   rcases Nat.eq_zero_or_pos m with e | e
   ·rw[e] at hl
    have:=List.eq_nil_of_length_eq_zero hl
    subst this
    exact absurd rfl h0
   ·exact e
  have hle:(ofNat (val l)).length≤l.length:=qV (vQ hd)
  rcases hxv with ⟨_,e,_⟩ | ⟨b,cap,vs,h1,h2,h3,h4,h5,h6⟩
  ·omega
  ·have hblk:=hrd (k,l.map (fun g=>SV.d (jC g))) (by simp)
   rcases hblk with ⟨g1,_⟩ | ⟨b',vs',T',g1,g2,g3,g4,g5⟩
   ·rw[h1] at g1;cases g1
   ·obtain rfl:b=b':=by rw[h1] at g1;injection g1
    rw[h3] at g2
    injection g2 with g2
    injection g2 with g2 gT
    subst g2;subst gT
    have hcell:∀ i,w.cell? ⟨b,i,none⟩=vs[i]?:=fun i=>cell_of_row w b i vs T (0,0) h3
    have hrun:(execOp a.eval o).run Tryz.prog w=.ok (.enter 251 #[.slice (some ⟨b,0,none⟩) l.length cap]) w:=by
     simp only[execOp,ho,resolve,Deferred.ofValue,Act.eval,Sem.run_bind,Sem.run_pure,Result.andThen_ok,invoke,Array.empty_append,Array.append_empty]
     rw[vF trim_cb]
     simp [h2,hl]
    refine nO hrun (((callsIn_wide (n:=1)).1 (trimV b cap l hd h0 w (fun i hi=>?_) (by omega) h6)).mono fun e w' h=>?_)
    ·rw[hcell]
     obtain ⟨u,e1,_,e3⟩:=g4 i (.d (jC (l.getD i 0))) (by rw[List.getElem?_map,List.getElem?_eq_getElem hi];simp [List.getD,List.getElem?_eq_getElem hi])
     rw[e1,vE e3]
    ·obtain ⟨he,rfl⟩:=h
     exact ⟨_,he,_,D,rfl,Below.refl _ _,⟨fun _ _ _ h=>h,fun _ _ _ h=>.inl h⟩,.inr ⟨b,cap,vs,h1,rfl,h3,h4,by omega,h6⟩⟩
open Go.Fid in
theorem trim_take{l:List Nat}(hd:Dig l):ofNat (val l)=l.take (ofNat (val l)).length:=by
 have h1:∀ (n:Nat) (l:List Nat),l.length=n→Dig l→ofNat (val l)=l.take (ofNat (val l)).length:=by
  intro n
  induction n with
  |zero=>intro l hl _;rw[List.eq_nil_of_length_eq_zero hl];rw[val_nil,uA];rfl
  |succ n ih=>
   intro l hl hd
   have h2:=val_take_succ l n
   rw[← hl,List.take_length] at h2
   by_cases hz:l.getD n 0=0
   ·rw[hz,Nat.mul_zero,Nat.add_zero] at h2
    have h3:=ih (l.take n) (by rw[List.length_take];omega) (hd.take n)
    rw[← h2,List.take_take] at h3
    have h4:(ofNat (val l)).length≤n:=by
     rw[h2];exact qV (by have:=vQ (hd.take n);rwa [List.length_take,Nat.min_eq_left (by omega)] at this)
    rw[Nat.min_eq_left h4] at h3
    exact h3
   ·have h3:zW l:=⟨hd,by
     unfold Top
     rw[show l.length-1=n by omega]
     have h6:n<l.length:=by omega
     simp [List.getD,List.getElem?_eq_getElem h6] at hz ⊢
     exact hz⟩
    rw[← can_eq h3,List.take_length]
 exact h1 _ l rfl hd
end Go.Proofs.YtnajallgoaiahaaGreatDoor
