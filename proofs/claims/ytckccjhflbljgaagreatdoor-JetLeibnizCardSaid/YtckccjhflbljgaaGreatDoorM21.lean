/- Part 21 of a proof: rules, plain facts, and functions walked. -/
import Derived.Test.YtckccjhflbljgaaGreatDoorM1
import Derived.Test.YtckccjhflbljgaaGreatDoorM8
import Derived.Test.YtckccjhflbljgaaGreatDoorM14
import Derived.Test.YtckccjhflbljgaaGreatDoorM20
import Derived.RangeFuncFrom
import Derived.RangeFuncLeaves
import Derived.RangeFuncBound
import Derived.OwnWalkIn
import Derived.TacticsInMore
import Derived.LoopNIn
import Derived.LoopIn
import Derived.Shelf.RegionOpen
import Derived.Lib.BufferKept
import Derived.Lib.BufferOld
import Derived.Test.YtckccjhflbljgaaGreatDoorM11
import Derived.Test.YtckccjhflbljgaaGreatDoorM10
import Derived.Test.YtckccjhflbljgaaGreatDoorChecked
import Derived.RangeFuncBox
import Derived.Shelf.Abstract
set_option linter.all false
set_option maxRecDepth 4000
namespace Go.Proofs.YtckccjhflbljgaaGreatDoor
open Go.Fid Go.RowKit Go.Shelf
attribute [local go_sem] Oper.semAt_some
theorem seq_back(N c g off len cap:Nat)(f:Nat->Nat)(qK:(len:Int)<=9223372036854775807)(w:World)(Kp:World->World->Prop)(Cs:World->Prop)
  (hC:∀ W,Cs W->W.cell? ⟨c,0,none⟩=some (.slice (some ⟨g,off,none⟩) len cap)/\∀ i,i<len->W.cell? ⟨g,off+i,none⟩=some (.int .u32 ((f i:Nat):Int))) (hK:∀ W W',Kp W W'->Cs W->Cs W') (hC0:∀ W,Below w.heap.size w W->Cs W) :
  SeqStopsK Fence.wide (N+1) Tryz.prog 203 #[.pointer (some ⟨c,0,none⟩)] (fun x:Nat=>#[.int .i64 (x:Int),.int .u32 ((f x:Nat):Int)]) Kp (fun xs=>xs=(List.range len).reverse) (fun _=>True) len w:=by
 intro l J Jx W hW hJ hJx hY hj0
 have hlr:(List.range len).reverse.length=len:=by simp
 refine (back1 N l c g off len cap (fun i=>.int .u32 ((f i:Nat):Int)) qK (fun j W1=>J ((List.range len).reverse.take j) W1/\Cs W1) (fun W1=>∃ pre,Jx pre W1) (fun j W1 h=>hC W1 h.2) (fun j W1 h hlt=>?_) W ⟨hj0,hC0 W hW⟩).mono ?_
 ·have hx:(List.range len).reverse[j]?=some (len-1-j):=by
   rw[List.getElem?_reverse (by simpa using hlt),List.length_range,List.getElem?_range (by omega)]
  have ht:(List.range len).reverse.take j++[len-1-j]=(List.range len).reverse.take (j+1):=by
   rw[List.take_add_one,hx];rfl
  have e:((len:Int)-1-(j:Int))=((len-1-j:Nat):Int):=by omega
  have hy:=hY ((List.range len).reverse.take j) (len-1-j) W1 h.1 (by rw[List.length_take,hlr];omega)
  rw[e]
  refine YieldAt.mono hy ?_
  rintro e W' (⟨rfl,h1,h2⟩ | ⟨rfl,h1⟩)
  ·exact .inl ⟨rfl,by rw[<- ht];exact h1,hK _ _ h2 h.2⟩
  ·exact .inr ⟨rfl,_,h1⟩
 ·rintro e W' ⟨h1,h2⟩
  refine ⟨h1,?_⟩
  rcases h2 with h2 | ⟨pre,h2⟩
  ·exact .inl ⟨_,by rw[List.take_of_length_le (by rw[hlr];exact Nat.le_refl _)],h2.1⟩
  ·exact .inr ⟨pre,trivial,h2⟩
def KK(b n:Nat)(W W':World):Prop:=Below b W W'/\∀ (k:Nat) (o:Obj),k<n->W.heap[k]?=some o->k≠b->(∀ c fz,o≠.cells c 5 fz)->W'.heap[k]?=some o
theorem KK.trans{b n:Nat}{A B C:World}(h:KK b n A B)(k:KK b n B C):KK b n A C:=⟨h.1.trans k.1,fun i o hi h1 h2 h3=>k.2 i o hi (h.2 i o hi h1 h2 h3) h2 h3⟩
theorem KK.of{b n:Nat}{A B:World}(h:Below b A B)(k:Lib.OthersKept 5 (some b) A B):KK b n A B:=⟨h,fun i o _ h1 h2 h3=>k i o h1 (fun e=>h2 (Option.some.inj e)) h3⟩
theorem KK.put{b n:Nat}(hb:b<=n)(W:World)(l:Nat)(o o':Obj)(hl:n<=l)(h:W.heap[l]?=some o):KK b n W (W.putObj l o'):=by
 refine ⟨⟨rfl,rfl,rfl,by simp [World.putObj],fun k hk=>World.putObj_heap_other (by omega)⟩,fun k x hk h1 _ _=>?_⟩
 rw[World.putObj_heap_other (by omega)];exact h1
theorem keepsO_of{b:Nat}{A B:World}{bs:List Value}(hI:Lib.IsBuffer 178 5 b b bs A)(h:Below b A B)(k:Lib.OthersKept 5 (some b) A B):KeepsOthers A B :=
 ⟨h.size,fun i o hi ho=>k i o hi (fun e=>by
  obtain rfl:=Option.some.inj e
  obtain ⟨_,v,lr,hb,_⟩:=hI
  rw[hi] at hb
  have:=Option.some.inj hb
  subst this
  cases ho) (fun c fz e=>by subst e;cases ho)⟩
theorem isBuf_own{β:Type}{b B:Nat}{bs:β->List Value}:OwnFrom B (fun s W=>Lib.IsBuffer 178 5 b b (bs s) W):=fun s W W' row hs hg hr=>by
 have hne:∀ (k:Nat) (c:Array Value) (T:TypeId) (fz:Nat × Nat),W.heap[k]?=some (Obj.cells c T fz)->W'.heap[k]?=some (Obj.cells c T fz):=fun k c T fz hk=>by
  rw[hg.block k (qV hk) (fun e=>by
   obtain ⟨_,o,ho,hc⟩:=hr k e.symm
   rw[hk] at ho
   have:=Option.some.inj ho
   subst this
   cases hc)]
  exact hk
 obtain ⟨h1,v,lr,h2,h3,h4⟩:=hs
 refine ⟨h1,v,lr,hne _ _ _ _ h2,⟨h3.1,?_⟩,h4⟩
 rcases h3.2 with h | ⟨g,cap,cur,e1,e2,e3,e4⟩
 ·exact .inl h
 ·exact .inr ⟨g,cap,cur,e1,e2,hne _ _ _ _ e3,e4⟩
theorem inRnd{F:Fence}{n:Nat}{P:Program}{f:FuncId}{args:Array Value}{w:World}{R:Ending->World->Prop}(l:Nat)(h:CallsIn F n P f args w R):CallsIn (F.inRound l) n P f args w R:=h
def elT(gs:List Nat)(x:Nat):List UInt8:=if x+1<gs.length then iU (gs.getD x 0) else itN (gs.getD x 0)
theorem dgs_len:∀ (f n:Nat),(dgs f n).length<=f
 |0,_=>by simp [dgs]
 |f+1,n=>by
  unfold dgs
  by_cases h:n<10
  ·rw[if_pos h];simp
  ·rw[if_neg h];have:=dgs_len f (n / 10);simp;omega
theorem padN_len(n:Nat):(iU n).length<=20:=by
 have:(itN n).length<=20:=dgs_len 20 n
 unfold iU;rw[List.length_append,List.length_replicate];omega
theorem elT_len(gs:List Nat)(x:Nat):(elT gs x).length<=20:=by
 unfold elT
 by_cases h:x+1<gs.length
 ·rw[if_pos h];exact padN_len _
 ·rw[if_neg h];exact dgs_len 20 _
theorem flt_len(gs:List Nat):∀ pre:List Nat,((pre.map (elT gs)).flatten).length<=20*pre.length
 |[]=>by simp
 |x::pre=>by
  rw[List.map_cons,List.flatten_cons,List.length_append,List.length_cons]
  have:=flt_len gs pre;have:=elT_len gs x;omega
theorem el_map(l:List Nat)(d:Nat):(List.range (l++[d]).length).map (elT (l++[d]))=l.map iU++[itN d]:=by
 rw[List.length_append,List.length_singleton,List.range_succ,List.map_append]
 congr 1
 ·refine List.ext_getElem (by simp) fun i h1 h2=>?_
  have hi:i<l.length:=by simpa using h2
  rw[List.getElem_map,List.getElem_map,List.getElem_range]
  unfold elT
  rw[if_pos (by simp;omega),List.getD_eq_getElem?_getD,List.getElem?_append_left hi,List.getElem?_eq_getElem hi]
  rfl
 ·simp [elT]
theorem el_txG(gs:List Nat)(hg:gs≠[]):((List.range gs.length).reverse.map (elT gs)).flatten=txG gs.reverse:=by
 obtain ⟨l,d,rfl⟩:∃ l d,gs=l++[d]:=⟨gs.dropLast,gs.getLast hg,(List.dropLast_concat_getLast hg).symm⟩
 rw[List.map_reverse,el_map,List.reverse_append,List.reverse_append]
 show itN d++((l.map iU).reverse).flatten=itN d++(l.reverse.map iU).flatten
 rw[List.map_reverse]
theorem flat_u32:∀ l:List Nat,qA (List.map jC l)=List.map jC l
 |[]=>rfl
 |x::l=>by rw[List.map_cons,mH,flat_u32 l];rfl
def ItA(n:Nat):Prop:=∀ (w:World) (D:kQ),iI D w->Calls Tryz.prog 194 #[.int .i64 (n:Int)] w fun e w'=>e=.returned (.string ⟨(itN n).toArray⟩)/\Below w.heap.size w w'/\KeepsOthers w w'
set_option maxRecDepth 100000 in
set_option maxHeartbeats 4000000 in
theorem t_textW(z:Int)(hl:(ofNat z.natAbs).length<=1000000)(hI:∀ d,d∈ofNat z.natAbs\/d=0->ItA d)(w:World)(D:kQ)(hD:iI D w)(neg:Bool)(u1:Value)(h1:neg=decide (z<0))(hv:uS w D (.agg #[.bool neg,u1]) (jR (kH z))) :
  Calls Tryz.prog 168 #[.agg #[.bool neg,u1]] w (FPost w D (.val (.string ⟨(aF z).toArray⟩))):=by
 refine (callsIn_wide (n:=3)).1 (callsIn_of_wp_marks Tryz.func168 rfl trivial ?_ rfl)
 simp only[Tryz.ntmps168,List.size_toArray,List.length_cons,List.length_nil,Nat.reduceAdd,Nat.reduceSub,Array.replicate_succ,Array.replicate_zero,List.push_toArray,List.append_toArray,List.nil_append,List.cons_append]
 have hgr:=gQ (kH z) (by show (ofNat z.natAbs).length<=_;omega)
 rw[grpI_ofZ] at hgr
 have H1:=Lib.hid h1
 clear h1
 obtain ⟨W0,hW0⟩:∃ W0,w.alloc (.cells #[.bool neg,u1] 30)=W0:=⟨_,rfl⟩
 have hb0:Below w.heap.size w W0:=by rw[<- hW0];exact (Below.refl _ w).alloc (Nat.le_refl _) _
 have hu0:aE D D w W0:=aE.of_same D
 have hD0:iI D W0:=hu0.ok hD hb0
 have hv0:=hv.up hb0 hu0 hD
 have hc0:W0.heap[w.heap.size]?=some (.cells #[.bool neg,u1] 30 (0,0)):=by rw[<- hW0];exact heap_alloc_new w _
 have hk:Calls Tryz.prog 151 #[.agg #[.bool neg,u1]] W0 (FPost W0 D (.sl 107 1 (List.map jC (ofNat z.natAbs)))):=hgr.run W0 D [.agg #[.bool neg,u1]] hD0 ⟨rfl,fun i v d h1 h2=>by
  match i with
  |0=>simp only[List.getElem?_cons_zero,Option.some.injEq] at h1 h2;subst h1;subst h2;exact hv0
  |i+1=>simp at h1⟩
 have c00:W0.cell? ⟨w.heap.size,0,none⟩=some (.bool neg):=by rw[cell_of_row _ _ 0 _ _ _ hc0];rfl
 have c01:W0.cell? ⟨w.heap.size,1,none⟩=some u1:=by rw[cell_of_row _ _ 1 _ _ _ hc0];rfl
 gi_wp2_with (refine ⟨trivial,?_⟩;gi_at_call 151;refine (callsIn_wide.2 hk).mono ?_;rintro e W1 ⟨v1,D1,rfl,hb1,hu1,hr1⟩;refine Hid.out ?_)
 refine Lib.hid ?_
 clear hk hgr c00 c01
 have hD1:=hu1.ok hD0 hb1
 have hb01:=hb0.trans (hb1.mono hb0.size)
 cases hr1 with
 |sl g off u hn hcc hmm hs ha hDs hus h1s hrs=>
 rename_i ao len cap
 have hlm:len=(ofNat z.natAbs).length:=by rw[hn,List.length_map]
 clear hn
 obtain ⟨Bz,hBz⟩:∃ Bz,Bz=W1.heap.size:=⟨_,rfl⟩
 have HB:=Lib.hid hBz
 have HL:=Lib.hid hlm
 have hcW:W1.cell? ⟨w.heap.size,0,none⟩=some (.bool neg):=by
  rw[xL hb1 (by rw[<- hW0];simp),cell_of_row _ _ 0 _ _ _ hc0];rfl
 have hcl:w.heap.size<W1.heap.size:=by have:=hb1.size;rw[<- hW0] at this;simp at this;omega
 clear hW0 hc0 hv0
 by_cases hz:len=0
 ·have hz2:z.natAbs=0:=by
   have h9:(ofNat z.natAbs).length=0:=by omega
   have:=kD z.natAbs
   rw[List.eq_nil_of_length_eq_zero h9] at this
   exact this.symm
  have hz3:=Lib.hid hz2
  clear hz2
  subst hz
  clear hlm
  gi_wp2
  refine ⟨_,results_tmp rfl _ _ _,_,D,rfl,?_,aE.of_same D,?_⟩
  ·exact hb01.trans (((Below.refl _ W1).alloc (Nat.le_refl _) _).mono (Nat.le_of_lt hcl))
  ·have e0:z=0:=by have:=hz3.out;omega
   subst e0
   rw[show (⟨(aF 0).toArray⟩:ByteArray)=⟨#[48]⟩ by decide +kernel]
   exact .val _
 ·obtain rfl:=ha (by omega)
  have hn0:0<len:=by omega
  have h00:((len:Int) == 0)=false:=beq_eq_false_iff_ne.2 (by omega)
  clear hlm hz
  obtain ⟨Wc,hWc⟩:∃ Wc,W1.alloc (.cells #[.slice (some ⟨g,off,none⟩) len cap] 28)=Wc:=⟨_,rfl⟩
  have hWs:Wc.heap.size=W1.heap.size+1:=by rw[<- hWc];simp
  have hbc:Below W1.heap.size W1 Wc:=by rw[<- hWc];exact (Below.refl _ W1).alloc (Nat.le_refl _) _
  have hg3:Wc.heap[W1.heap.size]?=some (.cells #[.slice (some ⟨g,off,none⟩) len cap] 28 (0,0)):=by rw[<- hWc];exact heap_alloc_new W1 _
  obtain ⟨WB,hWB⟩:∃ WB,Wc.alloc (.cells #[.slice none 0 0,.int .i64 0,.int .i8 0] 178)=WB:=⟨_,rfl⟩
  have hbB:Below Wc.heap.size Wc WB:=by rw[<- hWB];exact (Below.refl _ Wc).alloc (Nat.le_refl _) _
  have hI0:Lib.IsBuffer 178 5 Wc.heap.size Wc.heap.size [] WB:=by rw[<- hWB];exact Lib.fresh_isBuffer 178 5 Wc
  have hWBs:WB.heap.size=Wc.heap.size+1:=by rw[<- hWB];simp
  have hcB:WB.cell? ⟨w.heap.size,0,none⟩=some (.bool neg):=(xL hbB (by omega)).trans ((xL hbc hcl).trans hcW)
  have hgB:WB.heap[W1.heap.size]?=some (.cells #[.slice (some ⟨g,off,none⟩) len cap] 28 (0,0)):=(hbB.block _ (by omega)).trans hg3
  have c3c:Wc.cell? ⟨W1.heap.size,0,none⟩=some (.slice (some ⟨g,off,none⟩) len cap):=by rw[cell_of_row _ _ 0 _ _ _ hg3];rfl
  have c3b:WB.cell? ⟨W1.heap.size,0,none⟩=some (.slice (some ⟨g,off,none⟩) len cap):=by rw[cell_of_row _ _ 0 _ _ _ hgB];rfl
  have gW:∀ W,Below (W1.heap.size+1) WB W->Below w.heap.size w W:=fun W h=>hb01.trans (((hbc.mono (Nat.le_of_lt hcl)).trans (hbB.mono (by omega))).trans (h.mono (by omega)))
  have hgr:∀ i,i<len->WB.cell? ⟨g,off+i,none⟩=some (.int .u32 (((ofNat z.natAbs).getD i 0:Nat):Int)):=by
   intro i hi
   rw[HL.out] at hi
   rw[flat_u32] at hus hrs hDs
   have hi2:i<(List.map jC (ofNat z.natAbs)).length:=by rw[List.length_map];exact hi
   have h1:=hus i hi2
   have h2:=hrs i _ (List.getElem?_eq_getElem hi2)
   have h3:=hD1.lt _ _ _ (hDs i hi2)
   rw[List.getElem_map] at h2
   rw[xL hbB (by show g<_;omega),xL hbc h3,h1,List.getD_eq_getElem?_getD,List.getElem?_eq_getElem hi]
   have h2:uS W1 D1 (u i) (.val (.int .u32 (((ofNat z.natAbs)[i]:Nat):Int))):=h2
   generalize u i=uu at h2
   cases h2
   rfl
  have hgl:g<W1.heap.size:=by
   rw[flat_u32] at hDs
   exact hD1.lt _ _ _ (hDs 0 (by rw[List.length_map,<- HL.out];exact hn0))
  clear hus h1s hrs hDs hs
  obtain ⟨gs,hgs⟩:∃ gs,gs=ofNat z.natAbs:=⟨_,rfl⟩
  have HG:=Lib.hid hgs
  rw[<- hgs] at hgr hI
  clear hgs
  have hcells:∀ W,Below (W1.heap.size+1) WB W->W.cell? ⟨W1.heap.size,0,none⟩=some (.slice (some ⟨g,off,none⟩) len cap):=fun W h=>(xL h (by omega)).trans c3b
  have hgrs:∀ W,Below (W1.heap.size+1) WB W->∀ i,i<len->W.cell? ⟨g,off+i,none⟩=some (.int .u32 ((gs.getD i 0:Nat):Int)):=fun W h i hi=>(xL h (by show g<_;omega)).trans (hgr i hi)
  rw[hWs] at hI0 hWBs
  have hsB:W1.heap.size+1<WB.heap.size:=by omega
  gi_wp2_with (refine ⟨trivial,?_⟩;gi_at_call 193;refine (callsIn_wide.2 (Tryz.Buffer_WriteByte_kept (W1.heap.size+1) (W1.heap.size+1) [] 45 WB hI0 (by omega) (by simp) (by simp))).mono ?_;rintro e W2 ⟨rfl,hI2,hb2,-⟩;refine Hid.out ?_)
  all_goals first
   |(refine Lib.hid ?_
     have h1n:=Lib.hid (show neg=true by assumption)
     have c2:=hcells W2 hb2
     have hbel2:∀ W,Below (W1.heap.size+1) W2 W->Below w.heap.size w W:=fun W h=>gW W (hb2.trans h)
     have hcells2:∀ W,Below (W1.heap.size+1) W2 W->W.cell? ⟨W1.heap.size,0,none⟩=some (.slice (some ⟨g,off,none⟩) len cap):=fun W h=>hcells W (hb2.trans h)
     have hgr2:∀ W,Below (W1.heap.size+1) W2 W->∀ i,i<len->W.cell? ⟨g,off+i,none⟩=some (.int .u32 ((gs.getD i 0:Nat):Int)):=fun W h=>hgrs W (hb2.trans h)
     have hs2:W1.heap.size+1<W2.heap.size:=Nat.lt_of_lt_of_le hsB hb2.size
     clear hb2 gW hcells hgrs hI0 hgr
     obtain ⟨p0,hp0,hI2⟩:∃ p0:List UInt8,Hid (p0=if neg=true then [45] else [])/\Lib.IsBuffer 178 5 (W1.heap.size+1) (W1.heap.size+1) (Lib.byteCells p0) W2:=⟨[45],Lib.hid (by rw[if_pos h1n.out]),hI2⟩
     obtain ⟨a1,ha1⟩:∃ a1:Nat->Nat->Act,a1=fun x d=>{ tmps:=#[.agg #[.bool true,u1],.pointer (some ⟨w.heap.size,0,none⟩),.string ⟨#[]⟩,.pointer (some ⟨W1.heap.size,0,none⟩),.pointer (some ⟨W1.heap.size+1,0,none⟩),.int .i64 (x:Int),.int .u32 (d:Int),undef,undef,.agg #[.bool true,u1],.slice (some ⟨g,off,none⟩) len cap,.slice (some ⟨g,off,none⟩) len cap,.int .i64 len,.bool false,.pointer (some ⟨w.heap.size,0,none⟩),.bool true,.nilIface,.slice (some ⟨g,off,none⟩) len cap,.func (.func 203) #[] #[.pointer (some ⟨W2.heap.size,0,none⟩)],.int .i64 (x:Int),.int .u32 (d:Int),undef,undef,undef,undef,undef,undef,undef,undef,undef,undef,undef,undef,undef,undef,undef,undef,undef,undef,undef,undef],defers:=[] }:=⟨_,rfl⟩)
   |(have h1n:=Lib.hid (show neg=false by assumption)
     have hbel2:=gW
     have hcells2:=hcells
     have hgr2:=hgrs
     have hs2:=hsB
     clear gW hcells hgrs hgr
     obtain ⟨p0,hp0,hI2⟩:∃ p0:List UInt8,Hid (p0=if neg=true then [45] else [])/\Lib.IsBuffer 178 5 (W1.heap.size+1) (W1.heap.size+1) (Lib.byteCells p0) WB:=⟨[],Lib.hid (by rw[if_neg (by rw[h1n.out];simp)]),hI0⟩
     have c2:=hcells2 WB (Below.refl _ _)
     clear c3c c3b hI0 hbB hgB hcB hWBs hWB hsB
     obtain ⟨W2,rfl⟩:∃ W2,W2=WB:=⟨_,rfl⟩
     obtain ⟨a1,ha1⟩:∃ a1:Nat->Nat->Act,a1=fun x d=>{ tmps:=#[.agg #[.bool false,u1],.pointer (some ⟨w.heap.size,0,none⟩),.string ⟨#[]⟩,.pointer (some ⟨W1.heap.size,0,none⟩),.pointer (some ⟨W1.heap.size+1,0,none⟩),.int .i64 (x:Int),.int .u32 (d:Int),undef,undef,.agg #[.bool false,u1],.slice (some ⟨g,off,none⟩) len cap,.slice (some ⟨g,off,none⟩) len cap,.int .i64 len,.bool false,.pointer (some ⟨w.heap.size,0,none⟩),.bool false,undef,.slice (some ⟨g,off,none⟩) len cap,.func (.func 203) #[] #[.pointer (some ⟨W2.heap.size,0,none⟩)],.int .i64 (x:Int),.int .u32 (d:Int),undef,undef,undef,undef,undef,undef,undef,undef,undef,undef,undef,undef,undef,undef,undef,undef,undef,undef,undef,undef],defers:=[] }:=⟨_,rfl⟩)
  all_goals
   gi_wp2_with (refine ⟨trivial,?_⟩;gi_at_call 178;refine (callsIn_wide.2 (back_in _ _ _ W2)).mono ?_;rintro e W3 ⟨rfl,rfl⟩;refine Hid.out ?_)
   refine Lib.hid ?_
   have qK:len<=1000000:=by rw[HL.out];exact hl
   obtain ⟨W3,hW3⟩:∃ W3,W3=W2.alloc (.cells #[.slice (some ⟨g,off,none⟩) len cap] 28):=⟨_,rfl⟩
   rw[<- hW3]
   have hb23:Below W2.heap.size W2 W3:=by rw[hW3];exact (Below.refl _ W2).alloc (Nat.le_refl _) _
   have hs3:W3.heap.size=W2.heap.size+1:=by rw[hW3];simp
   have hc3:W3.heap[W2.heap.size]?=some (.cells #[.slice (some ⟨g,off,none⟩) len cap] 28 (0,0)):=by rw[hW3];exact heap_alloc_new W2 _
   have hI3:Lib.IsBuffer 178 5 (W1.heap.size+1) (W1.heap.size+1) (Lib.byteCells p0) W3:=by rw[hW3];exact hI2.alloc _
   have hb3:Below (W1.heap.size+1) W2 W3:=hb23.mono (by omega)
   clear hW3
   gi_wp2
   refine wpIn_rangeFunc_ownF rfl (by decide) (gf:=203) (lb:=#[.pointer (some ⟨W2.heap.size,0,none⟩)]) rfl trivial (enters_of Tryz.func203 (by kernel_rfl) rfl)
    (seq_back 1 W2.heap.size g off len cap (fun i=>gs.getD i 0) (by omega) W3 (KK (W1.heap.size+1) W3.heap.size) (fun W=>W.heap[W2.heap.size]?=some (.cells #[.slice (some ⟨g,off,none⟩) len cap] 28 (0,0))/\Below (W1.heap.size+1) W2 W)
     (fun W h=>⟨by rw[cell_of_row _ _ 0 _ _ _ h.1];rfl,hgr2 W h.2⟩) (fun W W' k h=>⟨k.2 _ _ (by omega) h.1 (by omega) (fun c fz e=>by cases e),h.2.trans k.1⟩) (fun W h=>⟨(h.block _ (by omega)).trans hc3,hb3.trans (h.mono (by omega))⟩))
    KK.trans (fun W l o o' hl h _ _=>KK.put (by omega) W l o o' hl h) (Below.refl _ _) (fun _=>rfl)
    (fun pre W=>Lib.IsBuffer 178 5 (W1.heap.size+1) (W1.heap.size+1) (Lib.byteCells (p0++(pre.map (elT gs)).flatten)) W/\Below (W1.heap.size+1) W2 W)
    (fun _ _ _=>False)
    (OwnFrom.and isBuf_own (ownFrom_below (by omega) (by omega)))
    (fun _ _ _ _ _ hs _ _=>hs)
    ⟨by simpa using hI3,hb3⟩
    (fun x=>a1 x (gs.getD x 0)) ?assign ?body ?done ?stop
   case assign=>
    intro l x W K hK
    rw[ha1] at hK
    gi_wp2
    exact hK
   case stop=>
    rintro D c pre W _ _ h _
    exact h.elim
   case body=>
    rintro l pre x W ⟨hJ,hB⟩ hlt
    have hDW:iI D W:=(aE.of_same D).ok hD (hbel2 W hB)
    have hmem:gs[x]?.getD 0∈gs\/gs[x]?.getD 0=0:=by
     cases h9:gs[x]? with
     |none=>exact .inr rfl
     |some v=>exact .inl (List.mem_of_getElem? h9)
    have hd:gs[x]?.getD 0<1000000000:=by
     rcases hmem with h9 | h9
     ·rw[HG.out] at h9 ⊢;exact kE _ _ h9
     ·omega
    have hmem:=Lib.hid hmem
    have hw:=Lib.hid (show wrap64 (((gs[x]?.getD 0:Nat)):Int)=((gs[x]?.getD 0:Nat):Int) by unfold wrap64;omega)
    have hit:=Lib.hid (hI (gs[x]?.getD 0) hmem.out W D hDW)
    have cW:=hcells2 W hB
    have hE:elT gs x=if x+1<len then iU (gs[x]?.getD 0) else itN (gs[x]?.getD 0):=by
     unfold elT;rw[List.getD_eq_getElem?_getD,HL.out,HG.out]
    have hE:=Lib.hid hE
    have hd:=Lib.hid hd
    have qK:=Lib.hid qK
    show Code.wpIn _ _ _ _ _ (a1 x (gs.getD x 0)) W
    rw[ha1]
    clear ha1 hI hI2 hI3 hc3 c2
    gi_wp2
    refine ⟨trivial,?_⟩
    gi_at_call 194
    try rw[hw.out]
    refine (inRnd l (callsIn_wide.2 hit.out)).mono ?_
    rintro e W5 ⟨rfl,hb5,hk5⟩
    obtain ⟨tx,htx⟩:∃ tx,itN (gs[x]?.getD 0)=tx:=⟨_,rfl⟩
    rw[htx]
    obtain ⟨ts,hts⟩:∃ ts:ByteArray,⟨tx.toArray⟩=ts:=⟨_,rfl⟩
    rw[hts]
    have hsz:ts.size=tx.length:=by rw[<- hts];rfl
    have hB5:=hB.trans (hb5.mono (by have:=hJ.lt;omega))
    have hJ5:=Lib.IsBuffer.old hJ hb5
    have c5:=hcells2 W5 hB5
    have hdat:ts.data.toList=tx:=by rw[<- hts]
    have hdat:=Lib.hid hdat
    have htx:=Lib.hid htx
    have hsz:=Lib.hid hsz
    clear hts
    gi_wp2
    have hp48:∀ q:List UInt8,Lib.byteCells q++[.int .u8 48]=Lib.byteCells (q++[48]):=fun q=>by simp [Lib.byteCells]
    obtain ⟨q,hq⟩:∃ q,q=p0++(pre.map (elT gs)).flatten:=⟨_,rfl⟩
    rw[<- hq] at hJ5
    have hlq:q.length<=20000001:=by
     rw[hq,List.length_append]
     have h1:=flt_len gs pre
     have h2:p0.length<=1:=by rw[hp0.out];split<;>simp
     have:=qK.out;have:=hlt
     omega
    have hltx:tx.length<=20:=by rw[<- htx.out];exact dgs_len 20 _
    have hKK5:KK (W1.heap.size+1) W3.heap.size W W5:=⟨hb5.mono (by have:=hJ.lt;omega),fun k o _ ho _ _=>(hb5.block k (qV ho)).trans ho⟩
    have hlq:=Lib.hid hlq
    have hltx:=Lib.hid hltx
    have hq:=Lib.hid hq
    clear hB hJ hb5 hit hw
    gi_loopw [8] (fun k wr=>∃ j:Nat,k=.int .i64 ((tx.length:Int)+(j:Int))/\j<=9/\(Hid (len<=x+1->j=0)/\(j=0\/tx.length+j<=9))/\Lib.IsBuffer 178 5 (W1.heap.size+1) (W1.heap.size+1) (Lib.byteCells (q++List.replicate j 48)) wr/\Below (W1.heap.size+1) W2 wr/\KeepsOthers W wr/\KK (W1.heap.size+1) W3.heap.size W wr) (fun k _=>(9-intOf k).toNat)
    case atStart=>exact ⟨0,by simp,by omega,⟨Lib.hid (fun _=>rfl),.inl rfl⟩,by simpa using hJ5,hB5,hk5,hKK5⟩
    case round=>
     obtain ⟨j,rfl,hj9,hj0,hJr,hBr,hkr,hKr⟩:=hrel
     have cr:=hcells2 wr hBr
     have hsr:W1.heap.size+1<=wr.heap.size:=Nat.le_of_lt hJr.lt
     have eC:∀ v∈Lib.byteCells (q++List.replicate j 48),v.oneCell'=true:=fun v hv=>by
      unfold Lib.byteCells at hv
      obtain ⟨b,_,rfl⟩:=List.mem_map.1 hv
      rfl
     have hln:(Lib.byteCells (q++List.replicate j 48)).length<=20000010:=by
      rw[Lib.byteCells_length,List.length_append,List.length_replicate];have:=hlq.out;omega
     have hln:=Lib.hid hln
     have eC:=Lib.hid eC
     have hJr:=Lib.hid hJr
     have hkr:=Lib.hid hkr
     have hcase:(tx.length+j<9/\x+1<len)\/(tx.length+j<9/\¬ x+1<len)\/(¬ tx.length+j<9):=by omega
     rcases hcase with ⟨hk,hx⟩ | ⟨hk,hx⟩ | hk
     ·gi_wp2
      refine ⟨trivial,?_⟩
      gi_at_call 193
      refine (inRnd l (callsIn_wide.2 (Tryz.Buffer_WriteByte_kept (W1.heap.size+1) (W1.heap.size+1) _ 48 wr hJr.out hsr eC.out (by have:=hln.out;omega)))).mono ?_
      rintro e W6 ⟨rfl,hJ6,hb6,hk6⟩
      rw[hp48] at hJ6
      gi_wp2
      go_roundw
      case rel=>
       refine ⟨j+1,by simp;omega,by omega,⟨Lib.hid (fun h=>by omega),.inr (by omega)⟩,?_,hBr.trans hb6,hkr.out.trans (keepsO_of hJr.out hb6 hk6),hKr.trans (KK.of hb6 hk6)⟩
       rw[List.replicate_succ',<- List.append_assoc];exact hJ6
      case measure=>simp [intOf];omega
     all_goals
      gi_wp2
      refine ⟨trivial,?_⟩
      gi_at_call 195
      refine (inRnd l (callsIn_wide.2 (Tryz.Buffer_WriteString_kept (W1.heap.size+1) (W1.heap.size+1) _ ts wr hJr.out hsr eC.out (by have:=hln.out;have:=hltx.out;have:=hsz.out;omega)))).mono ?_
      rintro e W6 ⟨rfl,hJ6,hb6,hk6⟩
      have hJ6:=Lib.hid hJ6
      gi_wp2
      refine ⟨hkr.out.trans (keepsO_of hJr.out hb6 hk6),hKr.trans (KK.of hb6 hk6),?_,hBr.trans hb6⟩
      have e1:Lib.byteCells (q++List.replicate j 48)++Lib.byteCells ts.data.toList=Lib.byteCells (p0++((pre++[x]).map (elT gs)).flatten):=by
       rw[hdat.out]
       unfold Lib.byteCells
       rw[<- List.map_append]
       congr 1
       rw[List.map_append,List.flatten_append,<- List.append_assoc,<- hq.out,List.append_assoc]
       congr 1
       simp only[List.map_cons,List.map_nil,List.flatten_cons,List.flatten_nil,List.append_nil]
       rw[hE.out]
       unfold iU
       rw[htx.out]
       by_cases hx9:x+1<len
       ·rw[if_pos hx9]
        congr 2
        omega
       ·rw[if_neg hx9,hj0.1.out (by omega)]
        rfl
      rw[<- e1]
      exact hJ6.out
   case done=>
    rintro Dd xs W hD9 rfl ⟨hJ,hB⟩ hK
    have hne:gs≠[]:=fun e=>by
     have h8:=HL.out;rw[<- HG.out,e] at h8;simp at h8;omega
    have hfin:p0++(((List.range len).reverse.map (elT gs))).flatten=aF z:=by
     have h8:len=gs.length:=by rw[HG.out];exact HL.out
     rw[h8,el_txG gs hne,hp0.out]
     unfold aF txN
     rw[<- HG.out,if_neg (show ¬ gs.length=0 by rw[<- h8];omega)]
     by_cases hz:z<0
     ·rw[if_pos (H1.out.trans (decide_eq_true hz)),if_pos hz];rfl
     ·rw[if_neg (by rw[H1.out,decide_eq_false hz];simp),if_neg hz];rfl
    rw[hfin] at hJ
    have hJ:=Lib.hid hJ
    have hfin:=Lib.hid hfin
    gi_wp2
    refine ⟨trivial,?_⟩
    gi_at_call 196
    refine (callsIn_wide.2 (Tryz.Buffer_String _ _ (aF z) W hJ.out)).mono ?_
    rintro e W6 ⟨rfl,n9,rfl⟩
    gi_wp2
    have hK':(W.drewN n9).heap[Dd]?=some (Obj.deferred (some [])):=hK
    refine ⟨by simp,.inl ⟨_,_,rfl,run_takeDeferred hK',?_⟩⟩
    have hbf:Below w.heap.size w (W.drewN n9):=hbel2 _ (hB.trans ⟨rfl,rfl,rfl,Nat.le_refl _,fun _ _=>rfl⟩)
    refine ⟨_,results_tmp rfl _ _ _,_,D,rfl,hbf.trans (belowK_b (w:=w) (Nat.le_refl _) _ Dd _ _ (by omega) hK' rfl rfl),aE.of_same D,.val _⟩
theorem dgs_dec:∀ (f n:Nat),n<10 ^ (f+1)->dgs (f+1) n=Lib.decDigits n
 |0,n,h=>by
  rw[Lib.decDigits];unfold dgs
  have h9:n<10:=by simpa using h
  rw[if_pos h9,dif_pos h9]
 |f+1,n,h=>by
  rw[Lib.decDigits];unfold dgs
  by_cases h9:n<10
  ·rw[if_pos h9,dif_pos h9]
  ·rw[if_neg h9,dif_neg h9,dgs_dec f (n / 10) (Nat.div_lt_of_lt_mul (by rw[Nat.pow_succ] at h;omega))]
theorem itN_dec(n:Nat)(h:n<1000000000):itN n=Lib.decDigits n:=dgs_dec 19 n (Nat.lt_of_lt_of_le h (by decide))
theorem itA_small(n:Nat)(h:n<100):ItA n:=fun w D hD=>(Tryz.strconv_Itoa_small n h w).mono fun e w' ⟨h1,h2⟩=>by
 subst h2
 exact ⟨by rw[h1,itN_dec n (by omega)],Below.refl _ _,KeepsOthers.refl _⟩
theorem row_of_cells{w:World}{G:Nat}{V:Array Value}(h0:0<V.size)(h:∀ i,w.cell? ⟨G,i,none⟩=V[i]?):∃ T f,w.heap[G]?=some (.cells V T f):=by
 have hh:=h
 unfold World.cell? at hh
 simp only[Option.isSome_none,Bool.false_eq_true,if_false] at hh
 rcases hG:w.heap[G]? with _ | ob
 ·have:=hh 0
  rw[hG,Array.getElem?_eq_getElem h0] at this
  cases this
 ·cases ob with
  |cells c T f=>
   refine ⟨T,f,?_⟩
   have e:c=V:=Array.ext_getElem? fun i=>by
    have:=hh i
    rw[hG] at this
    exact this
   rw[e]
  |_=>
   have:=hh 0
   rw[hG,Array.getElem?_eq_getElem h0] at this
   cases this
theorem tab_is {w : World} {D : kQ} (hD : iI D w) : Lib.TabIs Tryz.prog w "internal/strconv.uint64pow10" .u64 Lib.pow10Tab := by
 have hG : Tryz.prog.globalNamed "internal/strconv.uint64pow10" = some 1 := by kernel_rfl
 obtain ⟨T,f,h⟩:=row_of_cells (G:=1) (V:=tabV) (by simp [tabV]) (fun i=>(hD.tab 1 rfl i).2)
 unfold Lib.TabIs World.var?
 rw[hG,Option.bind_some,h]
 simp [tabV,Lib.pow10Tab]
theorem itA(n:Nat)(h:n<1000000000):ItA n:=fun w D hD=>(Tryz.strconv_Itoa (n:Int) (by omega) (by omega) w (tab_is hD)).mono fun e w' ⟨h1,k,os,h2⟩=>by
 subst h2
 refine ⟨by rw[h1,itN_dec n h];unfold Lib.itoa;rw[if_neg (by omega)];rfl,?_,?_⟩
 ·exact ⟨rfl,rfl,rfl,by show w.heap.size<=(w.heap++os).size;rw[Array.size_append];omega,fun i hi=>Array.getElem?_append_left (xs:=w.heap) hi⟩
 ·exact ⟨by show w.heap.size<=(w.heap++os).size;rw[Array.size_append];omega,fun i o hi _=>(Array.getElem?_append_left (xs:=w.heap) (qV hi)).trans hi⟩
theorem t_text(z:Int)(hl:(ofNat z.natAbs).length<=1000000)(hI:∀ d,d∈ofNat z.natAbs\/d=0->ItA d):jQ Tryz.prog 168 [jR (kH z)] (.val (.string ⟨(aF z).toArray⟩)):=⟨by kernel_rfl,fun w D vs hD hv=>by
 obtain ⟨hv1,hv2⟩:=hv
 match vs,hv1 with
 |[v],_=>
  have h0:=hv2 0 v _ rfl rfl
  generalize he:jR (kH z)=E at h0
  have he2:E=.agg [.val (.bool (kH z).neg),.sl 107 1 ((kH z).gs.map jC)]:=he.symm
  subst he2
  cases h0 with
  |agg vs2 hl2 h12 hr2=>
   match vs2,hl2 with
   |[a,b],_=>
    have ha:=hr2 0 a _ rfl rfl
    cases ha
    refine t_textW z hl hI w D hD _ b ?_ ?_
    ·show (decide (z<0)&&z.natAbs != 0)=decide (z<0)
     by_cases hz:z<0
     ·rw[decide_eq_true hz,Bool.true_and];exact bne_iff_ne.2 (by omega)
     ·rw[decide_eq_false hz,Bool.false_and]
    ·rw[he];exact .agg _ rfl h12 hr2⟩
open Go.Fid
theorem bo4:boolB Tryz.prog 4=true:=by kernel_rfl
theorem un3:(Tryz.prog.underlying 3).isSome=true:=by kernel_rfl
theorem t_sign(x:kS)(hx:x.gs.length<=1099511627776):jQ Tryz.prog 84 [(jR x)] (.val (.int .i64 ((qS (jV x))))):=by
 refine uR Tryz.func84 ?_
 refine jB<|kx [(1,(.ref 0 0))] [(0,some (bx (jR x)))] (zN (xO 0)<|zM<|zZ) ?_
 refine jB<|jH<|jB<|kx [(3,(vb ((((kJ x).length:Nat):Int) == 0)))] [] (zR (kP kB)<|zE (jY (gQ x (by omega)))<|zE (xW kG (L:=(kJ x)))<|zE xU<|zM<|zZ) ?_
 refine jE (b:=((((kJ x).length:Nat):Int) == 0)) rfl (fun h1=>?_) (fun h1=>?_)
 ·replace h1:=eq_of_beq h1
  refine jB<|kx [(2,(kF 0))] [] (zM<|zZ) ?_
  refine jF ⟨_,(.tmp (d:=(.val (.int .i64 (0)))) rfl .nil),?_⟩
  rw[toZ_nil h1];rfl
 ·replace h1:=ne_of_beq_false h1
  refine jB<|kx [(8,(vb x.neg))] [] (zE (kI vK)<|zR (qH aU)<|zM<|zZ) ?_
  refine jE (b:=x.neg) rfl (fun h2=>?_) (fun h2=>?_)
  ·refine jB<|kx [(2,(vi (-1)))] [] (zM<|zZ) ?_
   refine jF ⟨_,(.tmp (d:=(.val (.int .i64 (-1)))) rfl .nil),?_⟩
   rw[sign_neg h1 h2];rfl
  ·refine jD<|jB<|kx [(2,(kF 1))] [] (zM<|zZ) ?_
   refine jF ⟨_,(.tmp (d:=(.val (.int .i64 (1)))) rfl .nil),?_⟩
   rw[sign_pos h1 h2];rfl
theorem t_neg(x:kS)(hx:x.gs.length<=1099511627776):jQ Tryz.prog 89 [(jR x)] (jR (kH (-jV x))):=by
 refine uR Tryz.func89 ?_
 refine jB<|kx [(1,(.ref 0 0)),(2,(.ref 1 0))] [(0,some (bx (jR x))),(1,some (bx (jR (kS.mk false []))))] (zN (xO 0)<|zN (vH 1 nN nL)<|zZ) ?_
 refine jB<|kd [] [(1,some (bx (jR (xI (!x.neg) (val (kJ x))))))] mo (wE (kI vK)<|wR (qH aU)<|wE yT<|wR (kP kB)<|wE (jY (gQ x (by omega)))<|wE (jY (t_clone (kJ x) (Nat.le_trans (gD _) (by omega))))<|wE (jY (eB (!x.neg) (kJ x) (qB _).1 (Nat.le_trans (gD _) (by omega))))<|wT (qJ kB)<|wZ) ?_
 refine jF ⟨_,(kR (cs:=(bx (jR (xI (!x.neg) (val (kJ x)))))) (d:=(jR (xI (!x.neg) (val (kJ x))))) rfl rfl kB rfl rfl .nil),?_⟩
 rw[<- neg_eq];rfl
theorem t_sum(b:Bool)(l:List Nat)(c:Bool)(m:List Nat)(hl:yY l)(hm:yY m)(hll:l.length<=1099511627776)(hlm:m.length<=1099511627776):jQ Tryz.prog 162 [(.val (.bool (b))),(.sl 107 1 (List.map jC l)),(.val (.bool (c))),(.sl 107 1 (List.map jC m))] (jR (kH (dA b (val l)+dA c (val m)))):=by
 refine uR Tryz.func162 ?_
 refine jB<|kx [(8,(.ref 0 0))] [(0,some (bx (jR (kS.mk false []))))] (zN (vH 0 nN nL)<|zZ) ?_
 refine jB<|jH<|jB<|kx [(9,(vb (b == c)))] [] (zM<|zM<|zE (oEb bo4)<|zM<|zZ) ?_
 refine jE (b:=(b == c)) rfl (fun h1=>?_) (fun h1=>?_)
 ·replace h1:=eq_of_beq h1
  refine jB<|kx [] [(0,some (bx (jR (xI b (val (ofNat (val l+val m)))))))] (zM<|zM<|zM<|zE (jY (t_plus l m hl.1 hm.1 (by omega) (by omega)))<|zE (jY (eB b (ofNat (val l+val m)) (kE _) (Nat.le_trans (add_len hl.1 hm.1) (by omega))))<|zT (qJ kB)<|zZ) ?_
  refine jF ⟨_,(kR (cs:=(bx (jR (xI b (val (ofNat (val l+val m))))))) (d:=(jR (xI b (val (ofNat (val l+val m)))))) rfl rfl kB rfl rfl .nil),?_⟩
  rw[<- sum_same h1];rfl
 ·replace h1:=ne_of_beq_false h1
  refine jB<|kx [(18,(vb (decide (0<=(uT ((val l:Nat):Int) ((val m:Nat):Int))))))] [] (zM<|zM<|zE (jY (t_compare l m (by assumption) (by assumption) (by omega)))<|zE oGe<|zM<|zZ) ?_
  refine jE rfl (fun h2=>?_) (fun h2=>?_)
  ·replace h2:=vY h2
   refine jB<|kx [] [(0,some (bx (jR (xI b (val (ofNat (val l-val m)))))))] (zM<|zM<|zM<|zE (jY (t_minus l m hl.1 hm.1 (by have:=iM h2;omega) (by omega)))<|zE (jY (eB b (ofNat (val l-val m)) (kE _) (Nat.le_trans (sub_len hl.1) (by omega))))<|zT (qJ kB)<|zZ) ?_
   refine jF ⟨_,(kR (cs:=(bx (jR (xI b (val (ofNat (val l-val m))))))) (d:=(jR (xI b (val (ofNat (val l-val m)))))) rfl rfl kB rfl rfl .nil),?_⟩
   rw[<- sum_first h1 (by have:=iM h2;omega)];rfl
  ·replace h2:=xC h2
   refine jD<|jB<|kx [] [(0,some (bx (jR (xI c (val (ofNat (val m-val l)))))))] (zM<|zM<|zM<|zE (jY (t_minus m l hm.1 hl.1 (by have:=cmpI_lt h2;omega) (by omega)))<|zE (jY (eB c (ofNat (val m-val l)) (kE _) (Nat.le_trans (sub_len hm.1) (by omega))))<|zT (qJ kB)<|zZ) ?_
   refine jF ⟨_,(kR (cs:=(bx (jR (xI c (val (ofNat (val m-val l))))))) (d:=(jR (xI c (val (ofNat (val m-val l)))))) rfl rfl kB rfl rfl .nil),?_⟩
   rw[<- sum_second h1 (by have:=cmpI_lt h2;omega)];rfl
theorem t_add(x:kS)(y:kS)(hx:x.gs.length<=1099511627776)(hy:y.gs.length<=1099511627776):jQ Tryz.prog 92 [(jR x),(jR y)] (jR (kH (jV x+jV y))):=by
 refine uR Tryz.func92 ?_
 refine jB<|kx [(2,(.ref 0 0)),(3,(.ref 1 0)),(4,(.ref 2 0))] [(0,some (bx (jR x))),(1,some (bx (jR y))),(2,some (bx (jR (kS.mk false []))))] (zN (xO 0)<|zN (xO 1)<|zN (vH 2 nN nL)<|zZ) ?_
 refine jB<|kd [] [(2,some (bx (jR (kH (dA x.neg (val (kJ x))+dA y.neg (val (kJ y)))))))] mo (wE (kI vK)<|wR (qH aU)<|wR (kP kB)<|wE (jY (gQ x (by omega)))<|wE (kI vK)<|wR (qH aU)<|wR (kP kB)<|wE (jY (gQ y (by omega)))<|wE (jY (t_sum x.neg (kJ x) y.neg (kJ y) (qB _) (qB _) (Nat.le_trans (gD _) (by omega)) (Nat.le_trans (gD _) (by omega))))<|wT (qJ kB)<|wZ) ?_
 refine jF ⟨_,(kR (cs:=(bx (jR (kH (dA x.neg (val (kJ x))+dA y.neg (val (kJ y))))))) (d:=(jR (kH (dA x.neg (val (kJ x))+dA y.neg (val (kJ y)))))) rfl rfl kB rfl rfl .nil),?_⟩
 rfl
theorem t_mul(x:kS)(y:kS)(hx:x.gs.length<=1099511627776)(hy:y.gs.length<=1099511627776):jQ Tryz.prog 91 [(jR x),(jR y)] (jR (kH (jV x*jV y))):=by
 refine uR Tryz.func91 ?_
 refine jB<|kx [(2,(.ref 0 0)),(3,(.ref 1 0)),(4,(.ref 2 0))] [(0,some (bx (jR x))),(1,some (bx (jR y))),(2,some (bx (jR (kS.mk false []))))] (zN (xO 0)<|zN (xO 1)<|zN (vH 2 nN nL)<|zZ) ?_
 refine jB<|kd [] [(2,some (bx (jR (xI (!(x.neg == y.neg)) (val (ofNat (val (kJ x)*val (kJ y))))))))] mo (wE (kI vK)<|wR (qH aU)<|wE (kI vK)<|wR (qH aU)<|wE (oNb bo4)<|wR (kP kB)<|wE (jY (gQ x (by omega)))<|wR (kP kB)<|wE (jY (gQ y (by omega)))<|wE (jY (t_times (kJ x) (kJ y) (qB _).1 (qB _).1 (Nat.le_trans (gD _) (by omega)) (Nat.le_trans (gD _) (by omega))))<|wE (jY (eB (!(x.neg == y.neg)) (ofNat (val (kJ x)*val (kJ y))) (kE _) (Nat.le_trans (mul_len (qB _).1 (qB _).1) (by have:=gD x;have:=gD y;omega))))<|wT (qJ kB)<|wZ) ?_
 refine jF ⟨_,(kR (cs:=(bx (jR (xI (!(x.neg == y.neg)) (val (ofNat (val (kJ x)*val (kJ y)))))))) (d:=(jR (xI (!(x.neg == y.neg)) (val (ofNat (val (kJ x)*val (kJ y))))))) rfl rfl kB rfl rfl .nil),?_⟩
 rw[show jV x*jV y=_ from rfl,jV,jV,<- mul_eq];rfl
theorem t_of(n:Int)(hlo:-9223372036854775808<=n:=by decide)(hhi:n<=9223372036854775807:=by decide):jQ Tryz.prog 87 [(.val (.int .i64 (n)))] (jR (kH n)):=by
 refine uR Tryz.func87 ?_
 refine jB<|kx [(2,(.ref 0 0))] [(0,some (bx (jR (kS.mk false []))))] (zN (vH 0 nN nL)<|zZ) ?_
 refine jB<|kx [(3,(gE ((n % 18446744073709551616).toNat)))] [] (zM<|zE (cB un3 yI ((n % 18446744073709551616).toNat) (hr:=by exact (conv_u64 _)))<|zM<|zZ) ?_
 refine jB<|jB<|kx [(7,(vb (decide (n<0))))] [] (zM<|zE gZ<|zZ) ?_
 refine jE (b:=decide (n<0)) rfl (fun h1=>?_) (fun h1=>?_)
 ·replace h1:=vY h1
  refine kx [(3,(gE ((-n).toNat)))] [] (zM<|zE (oNg (((-n).toNat:Nat):Int) (hr:=by exact (neg_u64 (by assumption) hlo)))<|zM<|zZ) ?_
  refine jB<|kx [] [(0,some (bx (jR (xI (decide (n<0)) (val (ofNat ((-n).toNat)))))))] (zM<|zE gZ<|zM<|zE (jY (t_split ((-n).toNat) (by omega)))<|zE (jY (eB (decide (n<0)) (ofNat ((-n).toNat)) (kE _) (Nat.le_trans (fN (by omega)) (by decide))))<|zT (qJ kB)<|zZ) ?_
  refine jF ⟨_,(kR (cs:=(bx (jR (xI (decide (n<0)) (val (ofNat ((-n).toNat))))))) (d:=(jR (xI (decide (n<0)) (val (ofNat ((-n).toNat)))))) rfl rfl kB rfl rfl .nil),?_⟩
  rw[of_neg h1];rfl
 ·replace h1:=xC h1
  refine jD<|jB<|kx [] [(0,some (bx (jR (xI (decide (n<0)) (val (ofNat ((n % 18446744073709551616).toNat)))))))] (zM<|zE gZ<|zM<|zE (jY (t_split ((n % 18446744073709551616).toNat) (by omega)))<|zE (jY (eB (decide (n<0)) (ofNat ((n % 18446744073709551616).toNat)) (kE _) (Nat.le_trans (fN (by omega)) (by decide))))<|zT (qJ kB)<|zZ) ?_
  refine jF ⟨_,(kR (cs:=(bx (jR (xI (decide (n<0)) (val (ofNat ((n % 18446744073709551616).toNat))))))) (d:=(jR (xI (decide (n<0)) (val (ofNat ((n % 18446744073709551616).toNat)))))) rfl rfl kB rfl rfl .nil),?_⟩
  rw[of_pos h1 hhi];rfl
theorem t_compareI(x:kS)(y:kS)(hx:x.gs.length<=1099511627776)(hy:y.gs.length<=1099511627776):jQ Tryz.prog 85 [(jR x),(jR y)] (.val (.int .i64 ((uT (jV x) (jV y))))):=by
 refine uR Tryz.func85 ?_
 refine jB<|kx [(2,(.ref 0 0)),(3,(.ref 1 0))] [(0,some (bx (jR x))),(1,some (bx (jR y)))] (zN (xO 0)<|zN (xO 1)<|zM<|zZ) ?_
 refine jB<|jB<|kd [(5,(vi (qS (jV x)))),(6,(vi (qS (jV y))))] [] mo (wR (kP kB)<|wE (jY (t_sign x (by omega)))<|wR (kP kB)<|wE (jY (t_sign y (by omega)))<|wM<|wM<|wZ) ?_
 refine jB<|kx [(14,(vb ((qS (jV x)) != (qS (jV y)))))] [] (zM<|zM<|zE cK<|zZ) ?_
 refine jE (b:=((qS (jV x)) != (qS (jV y)))) rfl (fun h1=>?_) (fun h1=>?_)
 ·replace h1:=bne_iff_ne.1 h1
  refine jB<|kx [(4,(vi (uT (qS (jV x)) (qS (jV y)))))] [] (zM<|zM<|zE (jY (t_cmp_int (qS (jV x)) (qS (jV y))))<|zM<|zZ) ?_
  refine jF ⟨_,(.tmp (d:=(.val (.int .i64 ((uT (qS (jV x)) (qS (jV y))))))) rfl .nil),?_⟩
  rw[<- cmp_sign h1];rfl
 ·replace h1:=bne_eq_false_iff_eq.1 h1
  refine jD<|jB<|kd [(7,(vi (uT ((val (kJ x):Nat):Int) ((val (kJ y):Nat):Int))))] [] mo (wR (kP kB)<|wE (jY (gQ x (by omega)))<|wR (kP kB)<|wE (jY (gQ y (by omega)))<|wE (jY (t_compare (kJ x) (kJ y) (qB _) (qB _) (Nat.le_trans (gD _) (by omega))))<|wM<|wZ) ?_
  refine jB<|jB<|kx [(24,(vb x.neg))] [] (zE (kI vK)<|zR (qH aU)<|zZ) ?_
  refine jE (b:=x.neg) rfl (fun h2=>?_) (fun h2=>?_)
  ·refine jB<|kx [(4,(vi (-(uT ((val (kJ x):Nat):Int) ((val (kJ y):Nat):Int)))))] [] (zM<|zE (oNg (-(uT ((val (kJ x):Nat):Int) ((val (kJ y):Nat):Int))) (hr:=by exact (wi64 (by omega) (by have:=cmpI_range ((val (kJ x):Nat):Int) ((val (kJ y):Nat):Int);omega) (by have:=cmpI_range ((val (kJ x):Nat):Int) ((val (kJ y):Nat):Int);omega))))<|zM<|zZ) ?_
   refine jF ⟨_,(.tmp (d:=(.val (.int .i64 (-(uT ((val (kJ x):Nat):Int) ((val (kJ y):Nat):Int)))))) rfl .nil),?_⟩
   rw[<- cmp_neg h1 h2];rfl
  ·refine jD<|jB<|kx [(4,(vi (uT ((val (kJ x):Nat):Int) ((val (kJ y):Nat):Int))))] [] (zM<|zM<|zZ) ?_
   refine jF ⟨_,(.tmp (d:=(.val (.int .i64 ((uT ((val (kJ x):Nat):Int) ((val (kJ y):Nat):Int)))))) rfl .nil),?_⟩
   rw[<- cmp_pos h1 h2];rfl
open Go.RowKit Go.Shelf
attribute [local go_sem] Oper.semAt_some
set_option maxRecDepth 100000 in
set_option maxHeartbeats 2000000 in
theorem trimV(b cap:Nat)(l:List Nat)(hd:Go.Fid.Dig l)(h0:Go.Fid.val l≠0)(w:World)(hc:∀ i,i<l.length->w.cell? ⟨b,i,none⟩=some (.int .u32 ((l.getD i 0:Nat):Int)))(h1:l.length<=cap)(h2:cap<=maxLen) :
  CallsIn Fence.wide 1 Tryz.prog 180 #[.slice (some ⟨b,0,none⟩) l.length cap] w fun e w'=>e=.returned (.slice (some ⟨b,0,none⟩) (Go.Fid.ofNat (Go.Fid.val l)).length cap)/\w'=w:=by
 refine callsIn_of_wp Tryz.func180 rfl trivial ?_ rfl
 simp only[Tryz.ntmps180,List.size_toArray,List.length_cons,List.length_nil,Nat.reduceAdd,Nat.reduceSub,Array.replicate_succ,Array.replicate_zero,List.push_toArray,List.append_toArray,List.nil_append,List.cons_append]
 gi_wp2
 gi_loopw [0] (fun i wr=>∃ j:Nat,j<=l.length/\0<j/\i=.slice (some ⟨b,0,none⟩) j cap/\Go.Fid.val (l.take j)=Go.Fid.val l/\wr=w)
  (fun i _=>match i with | .slice _ n _=>n | _=>0)
 case atStart=>
  have hl:0<l.length:=by
   rcases l with _ | ⟨d,l⟩
   ·exact absurd rfl h0
   ·simp
  exact ⟨l.length,Nat.le_refl _,hl,rfl,by rw[List.take_length],rfl⟩
 case round=>
  obtain ⟨j,hj,hj0,rfl,hv,rfl⟩:=hrel
  have hcj:=hc (j-1) (by omega)
  have hj63:(j:Int)<=9223372036854775807:=by unfold maxLen at h2;omega
  have hv2:=Go.Fid.val_take_succ l (j-1)
  rw[show j-1+1=j by omega] at hv2
  by_cases hz:l.getD (j-1) 0=0
  ·rw[hz] at hcj hv2
   have h1j:0<j-1:=by
    rcases Nat.eq_zero_or_pos (j-1) with e | e
    ·rw[e,List.take_zero,Go.Fid.val_nil,Nat.mul_zero] at hv2
     omega
    ·exact e
   gi_wp2
   go_roundw
   case rel=>exact ⟨j-1,by omega,h1j,by simp,by rw[<- hv,hv2];simp,trivial⟩
   case measure=>simp;omega
  ·gi_wp2
   ·rename_i hq
    exfalso
    simp [List.getD] at hz hq
    omega
   ·refine ⟨rfl,.slice (some ⟨b,0,none⟩) j cap,by simp [results,Tryz.results180,go_sem],?_⟩
    have e:Go.Fid.ofNat (Go.Fid.val l)=l.take j:=by
     rw[<- hv]
     refine (Go.Fid.can_eq ⟨hd.take j,?_⟩).symm
     unfold Go.Fid.Top
     have h5:(l.take j).length-1=j-1:=by rw[List.length_take];omega
     rw[h5]
     have h6:j-1<l.length:=by omega
     simp [List.getD,List.getElem?_eq_getElem h6,List.getElem?_take_of_lt (show j-1<j by omega)] at hz ⊢
     exact hz
    rw[e,List.length_take,Nat.min_eq_left hj]
    exact ⟨rfl,rfl⟩
theorem trim_cb:Go.Fid.callB Tryz.prog 180=true:=by kernel_rfl
open Go.Fid in
theorem e_trimO{o:Oper}{S:Nat->SV}{x:Operand}{ats:Array TypeId}{k T m:Nat}(l:List Nat)(ho:o.op=.call { callee:=.value (.func 180),args:=#[x],argTypes:=ats })(hx:ev S x=.own k T 1 m)(hl:l.length=m)(hd:Dig l)(h0:val l≠0) :
  uN Tryz.prog o S [(k,l.map (fun g=>SV.d (jC g)))] (.own k T 1 (ofNat (val l)).length) :=
 fun a w D β Q hop hrd hD=>by
  have hxv:=hop x (by simp [ho,Op.operands,Call.operands])
  rw[hx] at hxv
  have hm:0<m:=by
   rcases Nat.eq_zero_or_pos m with e | e
   ·rw[e] at hl
    have:=List.eq_nil_of_length_eq_zero hl
    subst this
    exact absurd rfl h0
   ·exact e
  have hle:(ofNat (val l)).length<=l.length:=uB (vR hd)
  rcases hxv with ⟨_,e,_⟩ | ⟨b,cap,vs,h1,h2,h3,h4,h5,h6⟩
  ·omega
  ·have hblk:=hrd (k,l.map (fun g=>SV.d (jC g))) (by simp)
   rcases hblk with g0 | ⟨b',vs',T',g1,g2,g3,g4,g5⟩
   ·exact (g0.at_cells h1 h3).elim
   ·obtain rfl:b=b':=by rw[h1] at g1;injection g1
    rw[h3] at g2
    injection g2 with g2
    injection g2 with g2 gT
    subst g2;subst gT
    have hcell:∀ i,w.cell? ⟨b,i,none⟩=vs[i]?:=fun i=>cell_of_row w b i vs T (0,0) h3
    have hrun:(execOp a.eval o).run Tryz.prog w=.ok (.enter 180 #[.slice (some ⟨b,0,none⟩) l.length cap]) w:=by
     simp only[execOp,ho,resolve,Deferred.ofValue,Act.eval,Sem.run_bind,Sem.run_pure,Result.andThen_ok,invoke,Array.empty_append,Array.append_empty]
     rw[vM trim_cb]
     simp [h2,hl]
    refine mX hrun (((callsIn_wide (n:=1)).1 (trimV b cap l hd h0 w (fun i hi=>?_) (by omega) h6)).mono fun e w' h=>?_)
    ·rw[hcell]
     obtain ⟨u,e1,_,e3⟩:=g4 i (.d (jC (l.getD i 0))) (by rw[List.getElem?_map,List.getElem?_eq_getElem hi];simp [List.getD,List.getElem?_eq_getElem hi])
     rw[e1,vO e3]
    ·obtain ⟨he,rfl⟩:=h
     exact ⟨_,he,_,D,rfl,Below.refl _ _,⟨fun _ _ _ h=>h,fun _ _ _ h=>.inl h⟩,.inr ⟨b,cap,vs,h1,rfl,h3,h4,by omega,h6⟩⟩
open Go.Fid in
theorem trim_take{l:List Nat}(hd:Dig l):ofNat (val l)=l.take (ofNat (val l)).length:=by
 have h1:∀ (n:Nat) (l:List Nat),l.length=n->Dig l->ofNat (val l)=l.take (ofNat (val l)).length:=by
  intro n
  induction n with
  |zero=>intro l hl _;rw[List.eq_nil_of_length_eq_zero hl];rw[val_nil,uA];rfl
  |succ n ih=>
   intro l hl hd
   have h2:=val_take_succ l n
   rw[<- hl,List.take_length] at h2
   by_cases hz:l.getD n 0=0
   ·rw[hz,Nat.mul_zero,Nat.add_zero] at h2
    have h3:=ih (l.take n) (by rw[List.length_take];omega) (hd.take n)
    rw[<- h2,List.take_take] at h3
    have h4:(ofNat (val l)).length<=n:=by
     rw[h2];exact uB (by have:=vR (hd.take n);rwa [List.length_take,Nat.min_eq_left (by omega)] at this)
    rw[Nat.min_eq_left h4] at h3
    exact h3
   ·have h3:yY l:=⟨hd,by
     unfold Top
     rw[show l.length-1=n by omega]
     have h6:n<l.length:=by omega
     simp [List.getD,List.getElem?_eq_getElem h6] at hz ⊢
     exact hz⟩
    rw[<- can_eq h3,List.take_length]
 exact h1 _ l rfl hd
end Go.Proofs.YtckccjhflbljgaaGreatDoor
