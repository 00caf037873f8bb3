/- Part 35 of a proof: rules, plain facts, and functions walked. -/
import Derived.Test.YtckccjhflbljgaaGreatDoorM34
import Derived.Test.YtckccjhflbljgaaGreatDoorM33
import Derived.Test.YtckccjhflbljgaaGreatDoorM17
import Derived.Test.YtckccjhflbljgaaGreatDoorM12
import Derived.Test.YtckccjhflbljgaaGreatDoorM20
import Derived.Test.YtckccjhflbljgaaGreatDoorM19
set_option linter.all false
set_option maxRecDepth 4000
namespace Go.Proofs.YtckccjhflbljgaaGreatDoor
open Go.Fid
theorem u_few(t:List kC)(ht:nE 140737488355328 t)(n:Nat)(hn:n<=1000)(m:Nat)(hm:m<=1000)(htl:t.length<=140737488355328):jS Tryz.prog 9 [(.sl 72 7 (List.map jO t)),(.val (.int .i64 (((n:Nat):Int)))),(.val (.int .i64 (((m:Nat):Int))))] (.val (.bool ((aC n m t)))):=by
 refine uW Tryz.func9 ?_
 refine jB<|kx [] [] (zM<|zZ) ?_
 refine jB<|jB<|kx [(16,(vb (decide (((n:Nat):Int)<((t.length:Nat):Int)))))] [] (zM<|zE (yH yF)<|zM<|zE cI<|zZ) ?_
 refine jF rfl (fun h1=>?_) (fun h1=>?_)
 ·replace h1:=vT h1
  refine jB<|kx [(6,(vb false))] [] (zM<|zZ) ?_
  refine jD ⟨_,(.tmp (d:=(.val (.bool (false)))) rfl .nil),?_⟩
  rw[fewT_long h1];rfl
 ·replace h1:=xC h1
  have hlk:=h1
  refine jE<|jB<|jB<|kx [(17,(vl 72 7 jO t)),(18,(jT t.length)),(19,(jT 0))] [] (zM<|zE (yH yF)<|zM<|zZ) ?_
  refine jH<|kQ (α:=Nat) (fun i=>⟨[(0,(vl 72 7 jO t)),(2,(jT m)),(17,(vl 72 7 jO t)),(18,(jT t.length)),(19,(jT i))],[]⟩) (fun i=>i<=t.length/\(t.take i).all dgB=true) (fun i=>t.length-i) 0 wk ⟨Nat.zero_le _,by simp⟩ ?_
  rintro i ⟨hi,hal⟩
  refine jB<|kx [(20,(vb (decide (((i:Nat):Int)<((t.length:Nat):Int)))))] [] (zE yY<|zZ) ?_
  refine jB<|jF rfl (fun h2=>?_) (fun h2=>?_)
  ·replace h2:=vT h2
   refine jE<|jB<|jH<|jB<|kx [(8,(.ref 0 0))] [(0,some (bx (jO (t.getD i tz))))] (zE (dA yF i (tz:kC))<|zE (mT eK)<|zN (uJ 0 eH aA)<|zT (qM eK)<|zZ) ?_
   refine jB<|kx [(26,(vb (decide (8<(((iA ((t.getD i tz).n)):Nat):Int)))))] [] (zE (kN mD)<|zR (kR jW)<|zE (kB (g_digits ((t.getD i tz).n) (xW (t.getD i tz).n) (tn_get ht (show i<t.length by omega))))<|zE cI<|zZ) ?_
   refine jF rfl (fun h3=>?_) (fun h3=>?_)
   ·replace h3:=vT h3
    refine jB<|kx [(6,(vb false))] [] (zM<|zZ) ?_
    refine jD ⟨_,(.tmp (d:=(.val (.bool (false)))) rfl .nil),?_⟩
    rw[fewT_dig (all_no (i:=i) (d:=tz) (by omega) (dgB_n h3))];rfl
   ·replace h3:=xC h3
    refine jE<|kx [(19,(jT (i+1)))] [] (zE (xD (i+1))<|zM<|zZ) ?_
    exact ⟨(i+1),wk,⟨by omega,all_up (d:=tz) (by omega) hal (dgB_y h3)⟩,(by first|omega|(dsimp only;omega))⟩
  ·replace h2:=xC h2
   have hie:i=t.length:=by omega
   rw[hie,List.take_length] at hal
   have hT8:nE 8 t:=dg_ok hal
   refine kL<|jB<|kx [(9,(vl 3 1 jL (dD 8 t))),(10,(jT (nB 8 t)))] [] (zM<|zE (kB (u_sizes t (tn_up hT8) 8))<|zM<|zE zJ<|zE zJ<|zM<|zM<|zZ) ?_
   refine jB<|jB<|kx [(34,(vb ((((nB 8 t):Nat):Int) != 0)))] [] (zM<|zE bD<|zZ) ?_
   refine jF (b:=((((nB 8 t):Nat):Int) != 0)) rfl (fun h4=>?_) (fun h4=>?_)
   ·replace h4:=bne_iff_ne.1 h4
    refine jB<|kx [(6,(vb true))] [] (zM<|zZ) ?_
    refine jD ⟨_,(.tmp (d:=(.val (.bool (true)))) rfl .nil),?_⟩
    rw[fewT_code hlk hal h4];rfl
   ·replace h4:=bne_eq_false_iff_eq.1 h4
    have hc0:=h4
    have hll:=tmL_len hc0
    refine jE<|jB<|jB<|kx [(35,(vl 3 1 jL (dD 8 t))),(36,(jT ((dD 8 t).length))),(37,(jT 0))] [] (zM<|zE (yH uM (L:=(dD 8 t)))<|zM<|zZ) ?_
    refine jH<|kQ (α:=Nat) (fun j=>⟨[(2,(jT m)),(35,(vl 3 1 jL (dD 8 t))),(36,(jT ((dD 8 t).length))),(37,(jT j))],[]⟩) (fun j=>j<=(dD 8 t).length/\((dD 8 t).take j).all (szB m)=true) (fun j=>(dD 8 t).length-j) 0 wk ⟨Nat.zero_le _,by simp⟩ ?_
    rintro j ⟨hj,hal2⟩
    refine jB<|kx [(38,(vb (decide (((j:Nat):Int)<(((dD 8 t).length:Nat):Int)))))] [] (zE yY<|zZ) ?_
    refine jB<|jF rfl (fun h5=>?_) (fun h5=>?_)
    ·replace h5:=vT h5
     refine jE<|jB<|jH<|jB<|kx [(12,(vi ((dD 8 t).getD j 0)))] [] (zE (dA uM j (0:Int) (L:=(dD 8 t)))<|zE (nX uT)<|zM<|zZ) ?_
     refine jB<|kx [(43,(vb (decide (((m:Nat):Int)<((dD 8 t).getD j 0)))))] [] (zM<|zM<|zE cI<|zZ) ?_
     refine jF rfl (fun h6=>?_) (fun h6=>?_)
     ·replace h6:=vT h6
      refine jB<|kx [(6,(vb false))] [] (zM<|zZ) ?_
      refine jD ⟨_,(.tmp (d:=(.val (.bool (false)))) rfl .nil),?_⟩
      rw[fewT_big hc0 (all_no (i:=j) (d:=0) (by omega) (by unfold szB;exact decide_eq_false (by omega)))];rfl
     ·replace h6:=xC h6
      refine jE<|kx [(37,(jT (j+1)))] [] (zE (xD (j+1))<|zM<|zZ) ?_
      exact ⟨(j+1),wk,⟨by omega,all_up (d:=0) (by omega) hal2 (by unfold szB;exact decide_eq_true (by omega))⟩,(by first|omega|(dsimp only;omega))⟩
    ·replace h5:=xC h5
     have hje:j=(dD 8 t).length:=by omega
     rw[hje,List.take_length] at hal2
     refine kL<|jB<|kx [(6,(vb true))] [] (zM<|zZ) ?_
     refine jD ⟨_,(.tmp (d:=(.val (.bool (true)))) rfl .nil),?_⟩
     rw[fewT_yes hlk hal hal2];rfl
theorem tame_fail{bv:List R2}{t:List kC}(h:mQ bv t)(hd:dzT bv t=true):∃ k,JFailP bv t k:=by
 obtain ⟨k,hk⟩:=dz_fst hd
 exact ⟨k,fail_p h hk⟩
section
variable {xs:List Rat} {q:List (List qE)} {ts:List (List kC)} {i:Nat}
end
end Go.Proofs.YtckccjhflbljgaaGreatDoor
namespace Go.Fid
end Go.Fid
namespace Go.Proofs.YtckccjhflbljgaaGreatDoor
open Go.Fid
section
variable (F:Nat->Nat->qE) {r c i j p q:Nat}
end
def sm(f:Nat->Rat):Nat->Rat
 |0=>0
 |n+1=>sm f n+f n
theorem fJ{f g:Nat->Rat}:∀ {n},(∀ i,i<n->f i=g i)->sm f n=sm g n
 |0,_=>rfl
 |n+1,h=>by rw[sm,sm,fJ (n:=n) (fun i hi=>h i (by omega)),h n (by omega)]
theorem sm_0:∀ n,sm (fun _=>0) n=0
 |0=>rfl
 |n+1=>by rw[sm,sm_0 n];grind
theorem sm_add(f g:Nat->Rat):∀ n,sm (fun i=>f i+g i) n=sm f n+sm g n
 |0=>by rw[sm,sm,sm];grind
 |n+1=>by rw[sm,sm,sm,sm_add f g n];grind
theorem sm_mul(c:Rat)(f:Nat->Rat):∀ n,sm (fun i=>c*f i) n=c*sm f n
 |0=>by rw[sm,sm];grind
 |n+1=>by rw[sm,sm,sm_mul c f n];grind
end Go.Proofs.YtckccjhflbljgaaGreatDoor
namespace Go.Proofs.YtckccjhflbljgaaGreatDoor
open Go.Fid
structure Gd (z:Int) (k:Nat) (x:kC):Prop where
 bad:¬ dN x
 ord:¬ eL ((k:Nat):Int) x
 rng:¬ rngN z x
theorem Gd.a{z:Int}{k:Nat}{x:kC}(h:Gd z k x)(h1:1<=uA x.op):0<=x.a/\x.a<k:=by
 have:=h.ord;unfold eL at this;omega
theorem Gd.b{z:Int}{k:Nat}{x:kC}(h:Gd z k x)(h1:uA x.op=2):0<=x.b/\x.b<k:=by
 have:=h.ord;unfold eL at this;omega
theorem Gd.kd{z:Int}{k:Nat}{x:kC}(h:Gd z k x):(uA x.op=0/\(x.op=0\/x.op=1))\/(uA x.op=1/\(x.op=6\/x.op=7))\/(uA x.op=2/\(x.op=2\/x.op=3\/x.op=4\/x.op=5)):=by
 rcases mE x.op with h1 | h1 | h1 | h1
 ·exact .inl h1
 ·exact .inr (.inl h1)
 ·exact .inr (.inr h1)
 ·exact absurd (Or.inl (by omega)) h.bad
structure Sm (bx:List R2) (s:List kC):Prop where
 t:mQ bx s
 h:∀ k,k<s.length->bC (mS s k) (s.getD k tz)<=70
 l:s.length<=100
section
variable {bx:List R2} {s t:List kC}
theorem dz_no{w:List kC}(h:dzT bx w=false){k:Nat}(hk:k<w.length):dzB bx w k=false:=by
 unfold dzT at h
 rw[List.any_eq_false] at h
 have:=h k (List.mem_range.2 hk)
 simpa using this
end
def In(y z:R2):Prop:=z.1<=y.1/\y.1<=y.2/\y.2<=z.2
theorem In.gw(n:Int):In (gw n) (gw n):=⟨Rat.le_refl,Rat.le_refl,Rat.le_refl⟩
theorem In.pt(q:Rat):In (gpt q) (gpt q):=⟨Rat.le_refl,Rat.le_refl,Rat.le_refl⟩
theorem In.z2:In z2 z2:=⟨Rat.le_refl,Rat.le_refl,Rat.le_refl⟩
theorem In.add{a b c d:R2}(h:In a b)(k:In c d):In (yI a c) (yI b d):=⟨bJ h.1 k.1,bJ h.2.1 k.2.1,bJ h.2.2 k.2.2⟩
theorem In.sub{a b c d:R2}(h:In a b)(k:In c d):In (qZ a c) (qZ b d):=⟨sub_valid h.1 k.2.2,sub_valid h.2.1 k.2.1,sub_valid h.2.2 k.1⟩
theorem ins_iff{a b p q:Rat}(h:insQ a b p q=true):p<=a/\b<=q:=by
 unfold insQ at h;rw[Bool.and_eq_true,decide_eq_true_eq,decide_eq_true_eq] at h;exact h
theorem In.mul{a b c d:R2}(h:In a b)(k:In c d):In (uR a c) (uR b d) :=
 have e:=ins_iff (mono_mul ⟨h.1,h.2.2⟩ ⟨k.1,k.2.2⟩ h.2.1 k.2.1)
 ⟨e.1,fU _ _,e.2⟩
theorem In.div{a b c d:R2}(hz:xI d.1 d.2=false)(h:In a b)(k:In c d):In (mK a c) (mK b d) :=
 have e:=ins_iff (mono_div hz ⟨h.1,h.2.2⟩ ⟨k.1,k.2.2⟩ h.2.1 k.2.1)
 ⟨e.1,fU _ _,e.2⟩
theorem In.sq{a b:R2}(h:In a b):In (gsq a) (gsq b) :=
 have e:=ins_iff (mono_sq ⟨h.1,h.2.2⟩ h.2.1)
 ⟨e.1,sqL_le _ _,e.2⟩
section
variable {bp bx:List R2} {t:List kC} {z:Int} (hl:bp.length=bx.length) (hb:∀ i,In (bp.getD i z2) (bx.getD i z2)) (hup:lB z t t.length) (hd:dzT bx t=false)
include hl hb hup hd
end
section
variable {q:List (List qE)} {gs:List R2} (hq:MatOk 6 q) (hg:∀ y∈gs,GL 1048576 y)
include hq hg
end
def Hs(y:R2)(x:Rat):Prop:=y.1<=x/\x<=y.2
theorem Hs.add{a b:R2}{x y:Rat}(h:Hs a x)(k:Hs b y):Hs (yI a b) (x+y):=yB.1 (has_add h k)
theorem Hs.mul{a b:R2}{x y:Rat}(h:Hs a x)(k:Hs b y):Hs (uR a b) (x*y):=yB.1 (has_mul h k)
theorem Hs.sq{a:R2}{x:Rat}(h:Hs a x):Hs (gsq a) (x*x):=yB.1 (has_sq h)
theorem Hs.pt(x:Rat):Hs (gpt x) x:=⟨Rat.le_refl,Rat.le_refl⟩
section
variable {q:List (List qE)} {gs:List R2} {u:Nat->Rat}
end
def atG(y:R2)(k:Nat):Rat:=atQ y.1 y.2 k
def kY(bv:List R2)(v:Nat->Nat):List Rat:=(List.range bv.length).map fun i=>atG (bv.getD i z2) (v i)
theorem mC(bv:List R2)(v:Nat->Nat):(kY bv v).length=bv.length:=by unfold kY;simp
theorem ptsG_at{bv:List R2}{v:Nat->Nat}{i:Nat}(h:i<bv.length):(kY bv v).getD i 0=atG (bv.getD i z2) (v i):=by
 unfold kY
 rw[List.getD_eq_getElem?_getD,List.getElem?_map,List.getElem?_range h];rfl
theorem cY{bv:List R2}{v:Nat->Nat}(hb:∀ y∈bv,GL 6 y):∀ p∈kY bv v,QL p 24:=fun p hp=>by
 obtain ⟨i,hi,rfl⟩:=List.mem_map.1 hp
 have h:=qC hb (by decide) i
 exact qY (ql_at (v i) h.1 h.2.1) (by decide)
theorem ptsG_in{bv:List R2}{v:Nat->Nat}(hb:∀ y∈bv,GL 6 y)(i:Nat):In ((List.map gpt (kY bv v)).getD i z2) (bv.getD i z2):=by
 have h:=qC hb (by decide) i
 rcases Nat.lt_or_ge i bv.length with hi | hi
 ·rw[eF gpt (kY bv v) 0 z2 (by rw[mC];exact hi),ptsG_at hi]
  have e:=at_in h.2.2 (v i)
  exact ⟨e.1,Rat.le_refl,e.2⟩
 ·rw[List.getD_eq_getElem?_getD,List.getElem?_eq_none (by rw[List.length_map,mC];exact hi),List.getD_eq_getElem?_getD,List.getElem?_eq_none hi];exact .z2
theorem pts_step{bv:List R2}{v:Nat->Nat}{i:Nat}(h:i<bv.length):((kY bv v).take i).map jN++[jN (atG (bv.getD i z2) (v i))]=((kY bv v).take (i+1)).map jN:=by
 have hl:=mC bv v
 rw[List.take_succ,List.map_append,List.getElem?_eq_getElem (by omega),<- ptsG_at h,List.getD_eq_getElem?_getD,List.getElem?_eq_getElem (by omega)];rfl
def endC(x:qE):Bool:=(decide (1<((x.num.gs.length:Nat):Int))||decide (1<((x.den.gs.length:Nat):Int)))||(((x.den.gs.length:Nat):Int) == 1&&decide (1<((x.den.gs.getD 0 0:Nat):Int)))
def endM(x:qE)(m:Nat):Nat:=if endC x=true then max m (x.num.gs.length+x.den.gs.length) else m
theorem endM_y{x:qE}{m:Nat}(h:endC x=true):endM x m=max m (x.num.gs.length+x.den.gs.length):=if_pos h
theorem endM_n{x:qE}{m:Nat}(h:endC x=false):endM x m=m:=if_neg (by rw[h];decide)
def endJ(l:List qE)(m:Nat):Nat->Nat
 |0=>m
 |j+1=>endM (l.getD j zr) (endJ l m j)
def ltI(rb:List jM):Nat->Nat
 |0=>1
 |i+1=>endJ [(rb.getD i (jM.mk zr zr)).lo,(rb.getD i (jM.mk zr zr)).hi] (ltI rb i) 2
def sumW(l:List Int):Nat->Int
 |0=>0
 |j+1=>IntKind.i64.wrap (sumW l j+l.getD j 0)
def lightB(rb:List jM)(t:List kC):Bool:=((((ltI rb rb.length:Nat):Int) == 1)||(((nB 8 t:Nat):Int) != 0))||decide (IntKind.i64.wrap (((ltI rb rb.length:Nat):Int)*sumW (dD 8 t) (dD 8 t).length)<=80)
theorem endM_le{x:qE}{m n:Nat}(h1:x.num.gs.length<=n)(h2:x.den.gs.length<=n)(hm:m<=2*n):endM x m<=2*n:=by
 unfold endM
 split
 ·rcases Nat.le_total m (x.num.gs.length+x.den.gs.length) with h | h
  ·rw[Nat.max_eq_right h];omega
  ·rw[Nat.max_eq_left h];exact hm
 ·exact hm
theorem end_len{n:Nat}{a:jM}(h:GOk n a)(h1:1<=n):∀ j,([a.lo,a.hi].getD j zr).num.gs.length<=n/\([a.lo,a.hi].getD j zr).den.gs.length<=n
 |0=>⟨h.1.n1,h.1.n2⟩
 |1=>⟨h.2.n1,h.2.n2⟩
 |j+2=>⟨Nat.zero_le _,Nat.zero_le _⟩
theorem tmL_le(z:Int)(t:List kC):(dD z t).length<=t.length:=by
 by_cases h:nB z t=0
 ·exact Nat.le_of_eq (tmL_len (by omega))
 ·unfold dD;rw[if_neg h];exact Nat.zero_le _
theorem qok_dig{n:Nat}{x:qE}(h:iA x<=n)(h1:1<=n:=by decide):nL x (xW x) n:=by
 unfold iA at h
 exact qok_raw h1 (by omega) (by omega)
theorem box_form{n:Nat}{rb:List jM}(h:∀ a∈rb,GOk n a)(hv:rb.all uP=true):∃ bv:List R2,rb=List.map kK bv/\∀ y∈bv,GL n y:=by
 refine ⟨rb.map fun a=>(xW a.lo,xW a.hi),?_,fun y hy=>?_⟩
 ·rw[List.map_map]
  conv=>lhs;rw[<- List.map_id rb]
  exact List.map_congr_left fun a ha=>(validG_form (List.all_eq_true.1 hv a ha)).1
 ·obtain ⟨a,ha,rfl⟩:=List.mem_map.1 hy
  exact ⟨(h a ha).1.ql,(h a ha).2.ql,(validG_form (List.all_eq_true.1 hv a ha)).2⟩
theorem u_light(t:List kC)(ht:nE 1048576 t)(rb:List jM)(hrb:∀ a∈rb,GOk 140737488355328 a)(htl:t.length<=140737488355328)(hbl:rb.length<=140737488355328):jS Tryz.prog 25 [(.sl 72 7 (List.map jO t)),(.sl 42 8 (List.map jG rb))] (.val (.bool ((lightB rb t)))):=by
 have htl9:=tmL_le 8 t
 refine uW Tryz.func25 ?_
 refine jB<|kx [] [] (zM<|zZ) ?_
 refine jB<|kx [(5,(jT 1))] [] (zM<|zZ) ?_
 refine jB<|jB<|kx [(17,(vl 42 8 jG rb)),(18,(jT rb.length)),(19,(jT 0))] [] (zM<|zE (yH zU)<|zM<|zZ) ?_
 refine jH<|kQ (α:=Nat × Nat) (fun (i,m)=>⟨[(0,(vl 72 7 jO t)),(5,(jT m)),(17,(vl 42 8 jG rb)),(18,(jT rb.length)),(19,(jT i))],[]⟩) (fun (i,m)=>i<=rb.length/\m=ltI rb i/\m<=281474976710656) (fun (i,m)=>rb.length-i) (0,1) wk ⟨Nat.zero_le _,rfl,by decide⟩ ?_
 rintro ⟨i,m⟩ ⟨hi,hm,hmb⟩
 refine jB<|kx [(20,(vb (decide (((i:Nat):Int)<((rb.length:Nat):Int)))))] [] (zE yY<|zZ) ?_
 refine jB<|jF rfl (fun h1=>?_) (fun h1=>?_)
 ·replace h1:=vT h1
  have hel:=end_len (gok_get (d:=(jM.mk kO kO)) hrb (show i<rb.length by omega)) (by decide)
  refine jE<|jB<|jH<|jB<|kx [(7,(.ref 0 0))] [(0,some (bx (jG (rb.getD i (jM.mk kO kO)))))] (zE (dA zU i (jM.mk kO kO))<|zE (mT kF)<|zN (uJ 0 uK uO)<|zT (qM kF)<|zZ) ?_
  refine jB<|kx [(27,(vl 32 4 jK [(rb.getD i (jM.mk kO kO)).lo,(rb.getD i (jM.mk kO kO)).hi])),(28,(jT 2)),(29,(jT 0))] [] (zE (kN uX)<|zR (kR jW)<|zE (kN vP)<|zR (kR jW)<|zE (fF xG uV vL)<|zE (oLn xG 2)<|zM<|zZ) ?_
  refine jH<|kQ (α:=Nat × Nat) (fun (j,k)=>⟨[(0,(vl 72 7 jO t)),(5,(jT k)),(17,(vl 42 8 jG rb)),(18,(jT rb.length)),(19,(jT i)),(27,(vl 32 4 jK [(rb.getD i (jM.mk kO kO)).lo,(rb.getD i (jM.mk kO kO)).hi])),(28,(jT 2)),(29,(jT j))],[]⟩) (fun (j,k)=>j<=2/\k=endJ [(rb.getD i (jM.mk kO kO)).lo,(rb.getD i (jM.mk kO kO)).hi] m j/\k<=281474976710656) (fun (j,k)=>2-j) (0,m) wk ⟨Nat.zero_le _,rfl,hmb⟩ ?_
  rintro ⟨j,k⟩ ⟨hj,hk,hkb⟩
  refine jB<|kx [(30,(vb (decide (((j:Nat):Int)<((2:Nat):Int)))))] [] (zE yY<|zZ) ?_
  refine jB<|jF rfl (fun h2=>?_) (fun h2=>?_)
  ·replace h2:=vT h2
   obtain ⟨he1,he2⟩:([(rb.getD i (jM.mk kO kO)).lo,(rb.getD i (jM.mk kO kO)).hi].getD j kO).num.gs.length<=140737488355328/\([(rb.getD i (jM.mk kO kO)).lo,(rb.getD i (jM.mk kO kO)).hi].getD j kO).den.gs.length<=140737488355328:=hel j
   have hll:([(rb.getD i (jM.mk kO kO)).lo,(rb.getD i (jM.mk kO kO)).hi]).length=2:=rfl
   refine jE<|jB<|jH<|jB<|kx [(9,(.ref 1 0))] [(1,some (bx (jK ([(rb.getD i (jM.mk kO kO)).lo,(rb.getD i (jM.mk kO kO)).hi].getD j kO))))] (zE (dA xG j kO (L:=[(rb.getD i (jM.mk kO kO)).lo,(rb.getD i (jM.mk kO kO)).hi]))<|zE (mT jW)<|zN (uJ 1 uV vL)<|zT (qM jW)<|zZ) ?_
   refine jB<|kd [(10,(vl 107 1 jC ((([(rb.getD i (jM.mk kO kO)).lo,(rb.getD i (jM.mk kO kO)).hi].getD j kO).num).gs))),(11,(vl 107 1 jC ((([(rb.getD i (jM.mk kO kO)).lo,(rb.getD i (jM.mk kO kO)).hi].getD j kO).den).gs)))] [] mo (wE (kN zG)<|wE (kN vK)<|wR (qJ xX)<|wE (kN xF)<|wE (kN vK)<|wR (qJ xX)<|wM<|wM<|wZ) ?_
   refine jB<|kx [(57,(vb ((decide (1<((((([(rb.getD i (jM.mk kO kO)).lo,(rb.getD i (jM.mk kO kO)).hi].getD j kO).num).gs).length:Nat):Int))||decide (1<((((([(rb.getD i (jM.mk kO kO)).lo,(rb.getD i (jM.mk kO kO)).hi].getD j kO).den).gs).length:Nat):Int)))||((((((([(rb.getD i (jM.mk kO kO)).lo,(rb.getD i (jM.mk kO kO)).hi].getD j kO).den).gs).length:Nat):Int) == 1)&&decide (1<(((((([(rb.getD i (jM.mk kO kO)).lo,(rb.getD i (jM.mk kO kO)).hi].getD j kO).den).gs).getD 0 0):Nat):Int))))))] [] ?_ ?_
   ·refine zM<|zE (yH kJ (L:=(([(rb.getD i (jM.mk kO kO)).lo,(rb.getD i (jM.mk kO kO)).hi].getD j kO).num).gs))<|zE cI<|zE (oV (vb (decide (1<((((([(rb.getD i (jM.mk kO kO)).lo,(rb.getD i (jM.mk kO kO)).hi].getD j kO).num).gs).length:Nat):Int)))) (qA (by kernel_rfl)))<|?_
    rcases hb3:(decide (1<((((([(rb.getD i (jM.mk kO kO)).lo,(rb.getD i (jM.mk kO kO)).hi].getD j kO).num).gs).length:Nat):Int))) with _ | _
    ·replace hb3:=xC hb3
     refine zM<|zE (yH kJ (L:=(([(rb.getD i (jM.mk kO kO)).lo,(rb.getD i (jM.mk kO kO)).hi].getD j kO).den).gs))<|zE cI<|zE aD<|zE (oV (vb (false||decide (1<((((([(rb.getD i (jM.mk kO kO)).lo,(rb.getD i (jM.mk kO kO)).hi].getD j kO).den).gs).length:Nat):Int)))) (qA (by kernel_rfl)))<|?_
     rcases hb4:(false||decide (1<((((([(rb.getD i (jM.mk kO kO)).lo,(rb.getD i (jM.mk kO kO)).hi].getD j kO).den).gs).length:Nat):Int))) with _ | _
     ·replace hb4:=xC (p:=(1<((((([(rb.getD i (jM.mk kO kO)).lo,(rb.getD i (jM.mk kO kO)).hi].getD j kO).den).gs).length:Nat):Int))) hb4
      refine zM<|zE (yH kJ (L:=(([(rb.getD i (jM.mk kO kO)).lo,(rb.getD i (jM.mk kO kO)).hi].getD j kO).den).gs))<|zE yP<|zE (oV (vb (((((([(rb.getD i (jM.mk kO kO)).lo,(rb.getD i (jM.mk kO kO)).hi].getD j kO).den).gs).length:Nat):Int) == 1)) (qA (by kernel_rfl)))<|?_
      rcases hb5:(((((([(rb.getD i (jM.mk kO kO)).lo,(rb.getD i (jM.mk kO kO)).hi].getD j kO).den).gs).length:Nat):Int) == 1) with _ | _
      ·replace hb5:=ne_of_beq_false hb5
       exact zK<|zK<|zK<|zK<|zE yJ<|zE yJ<|zZ
      ·replace hb5:=eq_of_beq hb5
       exact zM<|zE (dA kJ 0 (0:Nat) (L:=(([(rb.getD i (jM.mk kO kO)).lo,(rb.getD i (jM.mk kO kO)).hi].getD j kO).den).gs))<|zE (nX qP)<|zE cI<|zE aB<|zE aD<|zZ
     ·replace hb4:=vT (p:=(1<((((([(rb.getD i (jM.mk kO kO)).lo,(rb.getD i (jM.mk kO kO)).hi].getD j kO).den).gs).length:Nat):Int))) hb4
      exact zK<|zK<|zK<|zK<|zK<|zK<|zK<|zK<|zK<|zE nT<|zZ
    ·replace hb3:=vT hb3
     exact zK<|zK<|zK<|zE nT<|zM<|zK<|zK<|zK<|zK<|zK<|zK<|zK<|zK<|zK<|zE nT<|zZ
   refine jF rfl (fun h6=>?_) (fun h6=>?_)
   ·refine kx [(5,(jT (max k (((([(rb.getD i (jM.mk kO kO)).lo,(rb.getD i (jM.mk kO kO)).hi].getD j kO).num).gs).length+((([(rb.getD i (jM.mk kO kO)).lo,(rb.getD i (jM.mk kO kO)).hi].getD j kO).den).gs).length))))] [] (zM<|zM<|zE (yH kJ (L:=(([(rb.getD i (jM.mk kO kO)).lo,(rb.getD i (jM.mk kO kO)).hi].getD j kO).num).gs))<|zM<|zE (yH kJ (L:=(([(rb.getD i (jM.mk kO kO)).lo,(rb.getD i (jM.mk kO kO)).hi].getD j kO).den).gs))<|zE (xD (((([(rb.getD i (jM.mk kO kO)).lo,(rb.getD i (jM.mk kO kO)).hi].getD j kO).num).gs).length+((([(rb.getD i (jM.mk kO kO)).lo,(rb.getD i (jM.mk kO kO)).hi].getD j kO).den).gs).length))<|zE (oMx (max k (((([(rb.getD i (jM.mk kO kO)).lo,(rb.getD i (jM.mk kO kO)).hi].getD j kO).num).gs).length+((([(rb.getD i (jM.mk kO kO)).lo,(rb.getD i (jM.mk kO kO)).hi].getD j kO).den).gs).length)))<|zM<|zZ) ?_
    refine kx [(29,(jT (j+1)))] [] (zE (xD (j+1))<|zM<|zZ) ?_
    exact ⟨(j+1,max k (([(rb.getD i (jM.mk kO kO)).lo,(rb.getD i (jM.mk kO kO)).hi].getD j kO).num.gs.length+([(rb.getD i (jM.mk kO kO)).lo,(rb.getD i (jM.mk kO kO)).hi].getD j kO).den.gs.length)),wk,⟨by omega,by rw[hk];exact (endM_y h6).symm,by rw[<- endM_y h6];exact endM_le (n:=140737488355328) he1 he2 hkb⟩,(by first|omega|(dsimp only;omega))⟩
   ·refine jE<|kx [(29,(jT (j+1)))] [] (zE (xD (j+1))<|zM<|zZ) ?_
    exact ⟨(j+1,k),wk,⟨by omega,by rw[hk];exact (endM_n h6).symm,hkb⟩,(by first|omega|(dsimp only;omega))⟩
  ·replace h2:=xC h2
   refine kL<|kx [(19,(jT (i+1)))] [] (zE (xD (i+1))<|zM<|zZ) ?_
   exact ⟨(i+1,k),wk,⟨by omega,by rw[hk,show j=2 by omega,hm];rfl,hkb⟩,(by first|omega|(dsimp only;omega))⟩
 ·replace h1:=xC h1
  refine kL<|jB<|kx [(12,(vl 3 1 jL (dD 8 t))),(13,(jT (nB 8 t)))] [] (zM<|zE (kB (u_sizes t ht 8))<|zM<|zE zJ<|zE zJ<|zM<|zM<|zZ) ?_
  refine jB<|kx [(14,(jT 0))] [] (zM<|zZ) ?_
  refine jB<|jB<|kx [(72,(vl 3 1 jL (dD 8 t))),(73,(jT ((dD 8 t).length))),(74,(jT 0))] [] (zM<|zE (yH uM (L:=(dD 8 t)))<|zM<|zZ) ?_
  refine jH<|kQ (α:=Nat × Int) (fun (j,z)=>⟨[(5,(jT m)),(13,(jT (nB 8 t))),(14,(vi z)),(72,(vl 3 1 jL (dD 8 t))),(73,(jT ((dD 8 t).length))),(74,(jT j))],[]⟩) (fun (j,z)=>j<=(dD 8 t).length/\z=sumW (dD 8 t) j) (fun (j,z)=>(dD 8 t).length-j) (0,0) wk ⟨Nat.zero_le _,rfl⟩ ?_
  rintro ⟨j,z⟩ ⟨hj,hz⟩
  refine jB<|kx [(75,(vb (decide (((j:Nat):Int)<(((dD 8 t).length:Nat):Int)))))] [] (zE yY<|zZ) ?_
  refine jB<|jF rfl (fun h7=>?_) (fun h7=>?_)
  ·replace h7:=vT h7
   refine jE<|jB<|jH<|jB<|kx [(16,(vi ((dD 8 t).getD j 0)))] [] (zE (dA uM j (0:Int) (L:=(dD 8 t)))<|zE (nX uT)<|zM<|zZ) ?_
   refine kx [(14,(vi (IntKind.i64.wrap (z+(dD 8 t).getD j 0))))] [] (zM<|zM<|zE (zAd (IntKind.i64.wrap (z+(dD 8 t).getD j 0)) (hr:=by exact rfl))<|zM<|zZ) ?_
   refine kx [(74,(jT (j+1)))] [] (zE (xD (j+1))<|zM<|zZ) ?_
   exact ⟨(j+1,IntKind.i64.wrap (z+(dD 8 t).getD j 0)),wk,⟨by omega,by rw[hz];rfl⟩,(by first|omega|(dsimp only;omega))⟩
  ·replace h7:=xC h7
   refine kL<|jB<|kx [(4,(vb (((((m:Nat):Int) == 1)||((((nB 8 t):Nat):Int) != 0))||decide ((IntKind.i64.wrap (((m:Nat):Int)*z))<=80))))] [] ?_ ?_
   ·refine zM<|zE yP<|zE (oV (vb (((m:Nat):Int) == 1)) (qA (by kernel_rfl)))<|?_
    rcases hb8:(((m:Nat):Int) == 1) with _ | _
    ·replace hb8:=ne_of_beq_false hb8
     refine zM<|zE bD<|zE aD<|zE (oV (vb (false||((((nB 8 t):Nat):Int) != 0))) (qA (by kernel_rfl)))<|?_
     rcases hb9:(false||((((nB 8 t):Nat):Int) != 0)) with _ | _
     ·exact zM<|zM<|zE (zMl (IntKind.i64.wrap (((m:Nat):Int)*z)) (hr:=by exact rfl))<|zE oLe<|zE aD<|zM<|zZ
     ·exact zK<|zK<|zK<|zK<|zE nT<|zM<|zZ
    ·replace hb8:=eq_of_beq hb8
     exact zK<|zK<|zE nT<|zM<|zK<|zK<|zK<|zK<|zE nT<|zM<|zZ
   refine jD ⟨_,(.tmp (d:=(.val (.bool ((((((m:Nat):Int) == 1)||((((nB 8 t):Nat):Int) != 0))||decide ((IntKind.i64.wrap (((m:Nat):Int)*z))<=80)))))) rfl .nil),?_⟩
   rw[hz,show j=(dD 8 t).length by omega,hm,show i=rb.length by omega];rfl
end Go.Proofs.YtckccjhflbljgaaGreatDoor
namespace Go.Fid
def VBd(ss:List Int)(V:List Rat):Prop:=∀ j,j<V.length->∃ s:Nat,ss.getD j 0=(s:Int)/\1<=s/\QL (V.getD j 0) (bV s)
theorem vb_at{ss:List Int}{V:List Rat}(h:VBd ss V){a:Int}(h0:0<=a)(h1:a<V.length):∃ s:Nat,ss.getD a.toNat 0=(s:Int)/\1<=s/\QL (V.getD a.toNat 0) (bV s):=h a.toNat (by omega)
theorem vb_node{z:Int}{ss:List Int}{V xs:List Rat}{x:kC}(hk:ndC z ss x=0)(hl:ss.length=V.length)(hq:nL x.n (xW x.n) 8)(hb:∀ y∈xs,QL y 24)(h:VBd ss V) :
  ∃ s:Nat,bC ss x=(s:Int)/\1<=s/\QL (vV xs V x) (bV s):=by
 obtain ⟨h1,h2,h3,_⟩:=nd_0 hk
 unfold dN at h1
 unfold eL at h2
 rcases mE x.op with ⟨e,f⟩ | ⟨e,f⟩ | ⟨e,f⟩ | ⟨e,f⟩
 ·refine ⟨1,by unfold bC;rw[if_pos e];rfl,Nat.le_refl _,?_⟩
  rcases f with f | f
  ·unfold vV;simp only[f];exact qY hq.ql (by decide)
  ·unfold vV;simp only[f];exact qY (qlg hb (by decide) _) (by decide)
 ·obtain ⟨s,e1,e2,e3⟩:=vb_at h (a:=x.a) (by omega) (by omega)
  rcases f with f | f
  ·refine ⟨s,by unfold bC;rw[if_neg (by omega),if_pos f];exact e1,e2,?_⟩
   unfold vV;simp only[f];exact ql_neg e3
  ·refine ⟨2*s,by unfold bC;rw[if_neg (by omega),if_neg (by omega),if_pos f,e1];omega,by omega,?_⟩
   unfold vV;simp only[f];exact vZ e3 e3 (by unfold bV;omega)
 ·obtain ⟨s,e1,e2,e3⟩:=vb_at h (a:=x.a) (by omega) (by omega)
  obtain ⟨r,g1,g2,g3⟩:=vb_at h (a:=x.b) (by omega) (by omega)
  refine ⟨s+r,by unfold bC;rw[if_neg (by omega),if_neg (by omega),if_neg (by omega),e1,g1];omega,by omega,?_⟩
  rcases f with f | f | f | f
  ·unfold vV;simp only[f];exact ql_add e3 g3 (by unfold bV;omega)
  ·unfold vV;simp only[f];exact yD e3 g3 (by unfold bV;omega)
  ·unfold vV;simp only[f];exact vZ e3 g3 (by unfold bV;omega)
  ·unfold vV;simp only[f];exact iY e3 g3 (by unfold bV;omega)
 ·omega
theorem gl_ptb{xs:List Rat}{n:Nat}(h:∀ y∈List.map gpt xs,GL n y):∀ q∈xs,QL q n:=fun q hq=>(h _ (List.mem_map.2 ⟨q,hq,rfl⟩)).1
theorem mQ.vb{xs:List Rat}{t:List kC}(h:mQ (List.map gpt xs) t):∀ {k:Nat},k<=t.length->VBd (mS t k) (vU xs t k)
 |0,_=>fun j hj=>by simp [vU] at hj
 |k+1,hk=>fun j hj=>by
  have ih:=h.vb (k:=k) (by omega)
  have l1:=xV t k
  have l2:=vU_len xs t k
  rw[vU_len] at hj
  have g1:(mS t (k+1)).getD j 0=_:=dJ
  have g2:(vU xs t (k+1)).getD j 0=_:=dJ
  rcases Nat.lt_or_ge j k with hjk | hjk
  ·rw[if_pos (by omega)] at g1 g2
   rw[g1,g2];exact ih j (by omega)
  ·rw[if_neg (by omega),if_pos (by omega)] at g1 g2
   rw[g1,g2]
   exact vb_node ((fY h.c0).2.2.2.2 k (by omega)) (l1.trans l2.symm) (h.q _ (bK (by omega))) (gl_ptb h.b) ih
theorem mQ.vq{xs:List Rat}{t:List kC}(h:mQ (List.map gpt xs) t){k:Nat}(hk:k<t.length):QL (vV xs (vU xs t k) (t.getD k tz)) 1048576:=by
 obtain ⟨s,e1,e2,e3⟩:=vb_node ((fY h.c0).2.2.2.2 k hk) ((xV t k).trans (vU_len xs t k).symm) (h.q _ (bK hk)) (gl_ptb h.b) (h.vb (Nat.le_of_lt hk))
 have e4:=h.s k hk
 exact qY e3 (bd_200 (s:=s) (by omega)).1
def vzB(xs:List Rat)(t:List kC)(k:Nat):Bool:=decide ((t.getD k tz).op=5)&&decide ((vU xs t k).getD (t.getD k tz).b.toNat 0=0)
def vzT(xs:List Rat)(t:List kC):Bool:=(List.range t.length).any (vzB xs t)
theorem vz_at{xs:List Rat}{t:List kC}{k:Nat}(h:vzB xs t k=false)(ho:(t.getD k tz).op=5):(vU xs t k).getD (t.getD k tz).b.toNat 0≠0:=by
 unfold vzB at h;rw[decide_eq_true ho,Bool.true_and] at h;exact of_decide_eq_false h
theorem mQ.vrun{xs:List Rat}{t:List kC}(h:mQ (List.map gpt xs) t)(hz:vzT xs t=false):VRun xs t :=
 ⟨by have:=h.c0;rwa [List.length_map] at this,fun k hk=>h.vq hk,fun k hk ho=>vz_at (by
  cases hp:vzB xs t k with
  |false=>rfl
  |true=>unfold vzT at hz;rw[List.any_eq_true.2 ⟨k,List.mem_range.2 hk,hp⟩] at hz;cases hz) ho⟩
end Go.Fid
namespace Go.Proofs.YtckccjhflbljgaaGreatDoor
open Go.Fid
theorem Hs.sub{a b:R2}{x y:Rat}(h:Hs a x)(k:Hs b y):Hs (qZ a b) (x-y):=yB.1 (has_sub h k)
theorem Hs.div{a b:R2}{x y:Rat}(hz:xI b.1 b.2=false)(h:Hs a x)(k:Hs b y):Hs (mK a b) (x / y):=yB.1 (has_div hz h k)
theorem Hs.w(z:Int):Hs (gw z) (z:Rat):=⟨Rat.le_refl,Rat.le_refl⟩
theorem Hs.nz{b:R2}{y:Rat}(hz:xI b.1 b.2=false)(k:Hs b y):y≠0:=fun e=>by
 subst e
 unfold xI at hz
 rw[decide_eq_true k.1,decide_eq_true k.2] at hz
 cases hz
theorem Hs.mid{a:R2}{x y:Rat}(h:Hs a x)(k:Hs a y):Hs a ((x+y) / 2):=by
 unfold Hs at *
 constructor<;>grind
def fM(n:Nat)(d:Nat->Rat)(v:R2)(g:Nat->R2)(a b:Rat):Prop:=Hs v a/\Hs v b/\∃ h:Nat->Rat,(∀ i,i<n->Hs (g i) (h i))/\b-a=sm (fun i=>h i*d i) n
def MnJ(n:Nat)(d:Nat->Rat)(J:JV)(a b:Rat):Prop:=fM n d J.v (fun i=>J.g.getD i z2) a b
section
variable {n:Nat} {d:Nat->Rat} {v w:R2} {g h:Nat->R2} {a b x y:Rat}
theorem fM.const(q:Rat):fM n d (gpt q) (fun _=>gw 0) q q:=⟨.pt q,.pt q,fun _=>0,fun i _=>.w 0,by
 rw[fJ (g:=fun _=>0) (fun i _=>Rat.zero_mul _),sm_0,Rat.sub_self]⟩
theorem sm_one{k:Nat}:∀ {n},sm (fun i=>(if i=k then (1:Rat) else 0)*d i) n=if k<n then d k else 0
 |0=>rfl
 |n+1=>by
  show sm _ n+(if n=k then (1:Rat) else 0)*d n=_
  rw[sm_one]
  by_cases h1:k<n
  ·rw[if_pos h1,if_pos (show k<n+1 by omega),if_neg (show ¬ n=k by omega),Rat.zero_mul,Rat.add_zero]
  ·rw[if_neg h1]
   by_cases h2:n=k
   ·subst h2;rw[if_pos rfl,if_pos (Nat.lt_succ_self _),Rat.one_mul,Rat.zero_add]
   ·rw[if_neg h2,if_neg (show ¬ k<n+1 by omega),Rat.zero_mul,Rat.add_zero]
theorem fM.var{k:Nat}(hk:k<n)(ha:Hs v a)(hb:Hs v b)(hd:d k=b-a):fM n d v (fun i=>if (i:Int)=(k:Int) then gw 1 else gw 0) a b :=
 ⟨ha,hb,fun i=>if i=k then (1:Rat) else 0,fun i _=>by
  show Hs (if (i:Int)=(k:Int) then gw 1 else gw 0) (if i=k then (1:Rat) else 0)
  by_cases e:i=k
  ·subst e;rw[if_pos rfl,if_pos rfl];exact .w 1
  ·rw[if_neg (show ¬ (i:Int)=(k:Int) by omega),if_neg e];exact .w 0,by rw[sm_one,if_pos hk,hd]⟩
theorem fM.add(p:fM n d v g a b)(q:fM n d w h x y):fM n d (yI v w) (fun i=>yI (g i) (h i)) (a+x) (b+y):=by
 obtain ⟨p1,p2,f,p3,p4⟩:=p
 obtain ⟨q1,q2,k,q3,q4⟩:=q
 refine ⟨p1.add q1,p2.add q2,fun i=>f i+k i,fun i hi=>(p3 i hi).add (q3 i hi),?_⟩
 rw[fJ (g:=fun i=>f i*d i+k i*d i) (fun i _=>Rat.add_mul ..),sm_add,<- p4,<- q4];grind
theorem fM.scl(c:Rat)(f:Nat->Rat):sm (fun i=>(c*f i)*d i) n=c*sm (fun i=>f i*d i) n:=by
 rw[<- sm_mul];exact fJ fun i _=>Rat.mul_assoc ..
theorem fM.sub(p:fM n d v g a b)(q:fM n d w h x y):fM n d (qZ v w) (fun i=>qZ (g i) (h i)) (a-x) (b-y):=by
 obtain ⟨p1,p2,f,p3,p4⟩:=p
 obtain ⟨q1,q2,k,q3,q4⟩:=q
 refine ⟨p1.sub q1,p2.sub q2,fun i=>f i-k i,fun i hi=>(p3 i hi).sub (q3 i hi),?_⟩
 rw[fJ (g:=fun i=>f i*d i+((-1)*k i)*d i) (fun i _=>by grind),sm_add,fM.scl,<- p4,<- q4];grind
theorem fM.neg(p:fM n d v g a b):fM n d (qZ (gw 0) v) (fun i=>qZ (gw 0) (g i)) (-a) (-b):=by
 have e:=fM.sub (fM.const (n:=n) (d:=d) ((0:Int):Rat)) p
 have e1:((0:Int):Rat)-a=-a:=by show (0:Rat)-a=-a;grind
 have e2:((0:Int):Rat)-b=-b:=by show (0:Rat)-b=-b;grind
 rw[e1,e2] at e
 exact e
theorem fM.mul(p:fM n d v g a b)(q:fM n d w h x y):fM n d (uR v w) (fun i=>yI (uR v (h i)) (uR w (g i))) (a*x) (b*y):=by
 obtain ⟨p1,p2,f,p3,p4⟩:=p
 obtain ⟨q1,q2,k,q3,q4⟩:=q
 refine ⟨p1.mul q1,p2.mul q2,fun i=>b*k i+x*f i,fun i hi=>(p2.mul (q3 i hi)).add (q1.mul (p3 i hi)),?_⟩
 rw[fJ (g:=fun i=>(b*k i)*d i+(x*f i)*d i) (fun i _=>Rat.add_mul ..),sm_add,fM.scl,fM.scl,<- p4,<- q4];grind
theorem fM.sq(p:fM n d v g a b):fM n d (gsq v) (fun i=>uR (gw 2) (uR v (g i))) (a*a) (b*b):=by
 obtain ⟨p1,p2,f,p3,p4⟩:=p
 refine ⟨p1.sq,p2.sq,fun i=>((2:Int):Rat)*(((a+b) / 2)*f i),fun i hi=>(Hs.w 2).mul ((p1.mid p2).mul (p3 i hi)),?_⟩
 rw[fM.scl,fM.scl,<- p4]
 show _=(2:Rat)*_
 grind
theorem fM.div(hz:xI w.1 w.2=false)(p:fM n d v g a b)(q:fM n d w h x y):fM n d (mK v w) (fun i=>mK (qZ (g i) (uR (mK v w) (h i))) w) (a / x) (b / y):=by
 obtain ⟨p1,p2,f,p3,p4⟩:=p
 obtain ⟨q1,q2,k,q3,q4⟩:=q
 refine ⟨p1.div hz q1,p2.div hz q2,fun i=>(f i-(a / x)*k i) / y,fun i hi=>((p3 i hi).sub ((p1.div hz q1).mul (q3 i hi))).div hz q2,?_⟩
 have hx:=q1.nz hz
 have hy:=q2.nz hz
 rw[fJ (g:=fun i=>y⁻¹*f i*d i+((-(y⁻¹*(a / x)))*k i)*d i) (fun i _=>by rw[Rat.div_def];grind),sm_add,fM.scl,fM.scl,<- p4,<- q4]
 grind
end
section
variable {bx:List R2} {xs ys:List Rat} {d:Nat->Rat} {L:List JV} {A B:List Rat} {x:kC} {z:Int} {ss:List Int}
theorem mn_node(hk:ndC ((bx.length:Nat):Int) ss x=0)(hl:ss.length=L.length)(hz:x.op=5->xI (jA L x.b).v.1 (jA L x.b).v.2=false)
  (hxy:∀ i,i<bx.length->Hs (bx.getD i z2) (xs.getD i 0)/\Hs (bx.getD i z2) (ys.getD i 0)/\d i=ys.getD i 0-xs.getD i 0)
  (h:∀ j,j<L.length->MnJ bx.length d (L.getD j jz) (A.getD j 0) (B.getD j 0)):fM bx.length d (nV bx L x) (nG bx L x) (vV xs A x) (vV ys B x):=by
 obtain ⟨h1,h2,h3,_⟩:=nd_0 hk
 unfold dN at h1
 unfold eL at h2
 unfold rngN at h3
 have at_:∀ c:Int,0<=c->c<L.length->MnJ bx.length d (jA L c) (A.getD c.toNat 0) (B.getD c.toNat 0):=fun c c0 c1=>h c.toNat (by omega)
 rcases mE x.op with ⟨e,f⟩ | ⟨e,f⟩ | ⟨e,f⟩ | ⟨e,f⟩
 ·rcases f with f | f
  ·have e4:=fM.const (n:=bx.length) (d:=d) (xW x.n)
   have e1:nG bx L x=fun _=>gw 0:=by funext i;unfold nG;rw[if_pos f]
   rw[e1];unfold nV vV;simp only[f];exact e4
  ·obtain ⟨k1,k2,k3⟩:=hxy x.a.toNat (by omega)
   have e4:=fM.var (n:=bx.length) (d:=d) (k:=x.a.toNat) (by omega) k1 k2 k3
   have e1:nG bx L x=fun i:Nat=>if (i:Int)=((x.a.toNat:Nat):Int) then gw 1 else gw 0:=by
    funext i;unfold nG;rw[if_neg (by omega),if_pos f,show ((x.a.toNat:Nat):Int)=x.a by omega]
   rw[e1];unfold nV vV;simp only[f];exact e4
 ·have ea:=at_ x.a (by omega) (by omega)
  rcases f with f | f
  ·have e4:=fM.neg ea
   have e1:nG bx L x=fun i=>qZ (gw 0) ((jA L x.a).g.getD i z2):=by funext i;unfold nG;simp only[f];rfl
   rw[e1];unfold nV vV;simp only[f];exact e4
  ·have e4:=fM.sq ea
   have e1:nG bx L x=fun i=>uR (gw 2) (uR (jA L x.a).v ((jA L x.a).g.getD i z2)):=by funext i;unfold nG;simp only[f];rfl
   rw[e1];unfold nV vV;simp only[f];exact e4
 ·have ea:=at_ x.a (by omega) (by omega)
  have eb:=at_ x.b (by omega) (by omega)
  rcases f with f | f | f | f
  ·have e4:=fM.add ea eb
   have e1:nG bx L x=fun i=>yI ((jA L x.a).g.getD i z2) ((jA L x.b).g.getD i z2):=by funext i;unfold nG;simp only[f];rfl
   rw[e1];unfold nV vV;simp only[f];exact e4
  ·have e4:=fM.sub ea eb
   have e1:nG bx L x=fun i=>qZ ((jA L x.a).g.getD i z2) ((jA L x.b).g.getD i z2):=by funext i;unfold nG;simp only[f];rfl
   rw[e1];unfold nV vV;simp only[f];exact e4
  ·have e4:=fM.mul ea eb
   have e1:nG bx L x=fun i=>yI (uR (jA L x.a).v ((jA L x.b).g.getD i z2)) (uR (jA L x.b).v ((jA L x.a).g.getD i z2)):=by funext i;unfold nG;simp only[f];rfl
   rw[e1];unfold nV vV;simp only[f];exact e4
  ·have e4:=fM.div (hz f) ea eb
   have e1:nG bx L x=fun i=>mK (qZ ((jA L x.a).g.getD i z2) (uR (mK (jA L x.a).v (jA L x.b).v) ((jA L x.b).g.getD i z2))) (jA L x.b).v:=by funext i;unfold nG nV;simp only[f];rfl
   rw[e1];unfold nV vV;simp only[f];exact e4
 ·omega
end
section
variable {bx:List R2} {xs ys:List Rat} {t:List kC} {d:Nat->Rat}
theorem mn_nJ{x:kC}{L:List JV}{a b:Rat}(h:fM bx.length d (nV bx L x) (nG bx L x) a b):MnJ bx.length d (nJ bx L x) a b:=by
 obtain ⟨h1,h2,f,h3,h4⟩:=h
 refine ⟨h1,h2,f,fun i hi=>?_,h4⟩
 show Hs ((nJ bx L x).g.getD i z2) (f i)
 unfold nJ jk
 dsimp only
 rw[List.getD_eq_getElem?_getD,List.getElem?_map,List.getElem?_range hi]
 exact h3 i hi
theorem mn_jU(hT:mQ bx t)(hd:dzT bx t=false)
  (hxy:∀ i,i<bx.length->Hs (bx.getD i z2) (xs.getD i 0)/\Hs (bx.getD i z2) (ys.getD i 0)/\d i=ys.getD i 0-xs.getD i 0) :
  ∀ {k:Nat},k<=t.length->∀ j,j<k->MnJ bx.length d ((jU bx t k).getD j jz) ((vU xs t k).getD j 0) ((vU ys t k).getD j 0)
 |0,_,j,hj=>by omega
 |k+1,hk,j,hj=>by
  have ih:=mn_jU hT hd hxy (k:=k) (by omega)
  have l2:=cL bx t k
  have l3:=vU_len xs t k
  have l4:=vU_len ys t k
  have g2:(jU bx t (k+1)).getD j jz=_:=dJ
  have g3:(vU xs t (k+1)).getD j 0=_:=dJ
  have g4:(vU ys t (k+1)).getD j 0=_:=dJ
  rcases Nat.lt_or_ge j k with hjk | hjk
  ·rw[if_pos (by omega)] at g2 g3 g4
   rw[g2,g3,g4];exact ih j hjk
  ·rw[if_neg (by omega),if_pos (by omega)] at g2 g3 g4
   rw[g2,g3,g4]
   exact mn_nJ (mn_node ((fY hT.c0).2.2.2.2 k (by omega)) ((xV t k).trans l2.symm) (fun ho=>dz_at (dz_no hd (by omega)) ho) hxy fun i hi=>ih i (by omega))
def mnS(gs:List R2)(d:Nat->Rat):Nat->R2
 |0=>gw 0
 |i+1=>yI (mnS gs d i) (uR (gs.getD i z2) (gpt (d i)))
theorem mnS_hs{gs:List R2}{h:Nat->Rat}{n:Nat}:∀ {i},i<=n->(∀ i,i<n->Hs (gs.getD i z2) (h i))->Hs (mnS gs d i) (sm (fun i=>h i*d i) i)
 |0,_,_=>.w 0
 |i+1,hi,hh=>.add (mnS_hs (by omega) hh) (.mul (hh i (by omega)) (.pt _))
theorem mn_all(hT:mQ bx t)(hd:dzT bx t=false)(hxy:∀ i,i<bx.length->Hs (bx.getD i z2) (xs.getD i 0)/\Hs (bx.getD i z2) (ys.getD i 0)/\d i=ys.getD i 0-xs.getD i 0) :
  hasQ (mnS (qN bx t).g d bx.length).1 (mnS (qN bx t).g d bx.length).2 (yZ ys t-yZ xs t)=true:=by
 have h0:=fY hT.c0
 obtain ⟨_,_,f,h3,h4⟩:=mn_jU hT hd hxy (k:=t.length) (Nat.le_refl _) (t.length-1) (by omega)
 have e:yZ ys t-yZ xs t=_:=h4
 rw[e]
 exact yB.2 (mnS_hs (Nat.le_refl _) h3)
theorem mn_vz(hT:mQ bx t)(hd:dzT bx t=false)(hx:∀ i,i<bx.length->Hs (bx.getD i z2) (xs.getD i 0)):vzT xs t=false:=by
 unfold vzT
 rw[List.any_eq_false]
 intro k hk
 have hk:=List.mem_range.1 hk
 have hj:=mn_jU (ys:=xs) (d:=fun i=>xs.getD i 0-xs.getD i 0) hT hd (fun i hi=>⟨hx i hi,hx i hi,rfl⟩) (k:=k) (by omega)
 unfold vzB
 rw[Bool.and_eq_true,decide_eq_true_eq,decide_eq_true_eq]
 rintro ⟨ho,h0⟩
 have hz:=dz_at (dz_no hd hk) ho
 obtain ⟨h1,h2,h3,_⟩:=nd_0 ((fY hT.c0).2.2.2.2 k hk)
 unfold eL at h2
 rw[xV] at h2
 have hkd:uA (t.getD k tz).op=2:=by rw[ho];rfl
 obtain ⟨m1,_⟩:=hj (t.getD k tz).b.toNat (by omega)
 exact Hs.nz hz m1 h0
end
def mnD(xs ys:List Rat)(i:Nat):Rat:=ys.getD i 0-xs.getD i 0
theorem mnS_gl{gs:List R2}{xs ys:List Rat}(hg:∀ y∈gs,GL 1048576 y)(hx:∀ q∈xs,QL q 24)(hy:∀ q∈ys,QL q 24):∀ i,GL (3+i*1048640) (mnS gs (mnD xs ys) i)
 |0=>gl_w (z:=0) (by omega) (by omega)
 |i+1=>by
  have h1:=mnS_gl hg hx hy i
  have h2:GL 1048626 (uR (gs.getD i z2) (gpt (mnD xs ys i))):=gX (qC hg (by decide) i) (gl_pt (m:=49) (yD (qlg hy (by decide) i) (qlg hx (by decide) i))) (by decide)
  exact gl_add h1 h2 (by omega)
theorem mnS_4{gs:List R2}{xs ys:List Rat}(hg:∀ y∈gs,GL 1048576 y)(hx:∀ q∈xs,QL q 24)(hy:∀ q∈ys,QL q 24){i:Nat}(hi:i<=4):GL 8388608 (mnS gs (mnD xs ys) i):=qQ (mnS_gl hg hx hy i) (by omega)
theorem Hs.of_in{b:R2}{x:Rat}(h:In (gpt x) b):Hs b x:=⟨h.1,h.2.2⟩
theorem mn_pt{bv:List R2}{v:Nat->Nat}(hb:∀ y∈bv,GL 6 y){i:Nat}(hi:i<bv.length):Hs (bv.getD i z2) ((kY bv v).getD i 0):=by
 have h:=ptsG_in (v:=v) hb i
 rw[eF gpt (kY bv v) 0 z2 (by rw[mC];exact hi)] at h
 exact .of_in h
theorem mn_run{bv:List R2}{v:Nat->Nat}{t:List kC}(hb:∀ y∈bv,GL 6 y)(h8:bv.length<=8)(hf:aC 20 16 t=true)(hT:mQ bv t)(hd:dzT bv t=false):VRun (kY bv v) t:=by
 have hl:(List.map gpt (kY bv v)).length=bv.length:=by rw[List.length_map,mC]
 have hT2:mQ (List.map gpt (kY bv v)) t:=tame_of hf (by decide) (by omega) (gpt_24 (cY hb)) (by rw[hl];exact hT.c0)
 exact hT2.vrun (mn_vz hT hd fun i hi=>mn_pt hb hi)
theorem mn_fin{bv:List R2}{v w:Nat->Nat}{t:List kC}(hb:∀ y∈bv,GL 6 y)(hT:mQ bv t)(hd:dzT bv t=false) :
  hasQ (mnS (qN bv t).g (mnD (kY bv v) (kY bv w)) bv.length).1 (mnS (qN bv t).g (mnD (kY bv v) (kY bv w)) bv.length).2 (yZ (kY bv w) t-yZ (kY bv v) t)=true :=
 mn_all hT hd fun i hi=>⟨mn_pt hb hi,mn_pt hb hi,rfl⟩
def dg4(a:jM):Bool:=decide (iA a.lo<=4)&&decide (iA a.hi<=4)
def narB(rb:List jM):Bool:=decide (rb.length<=4)&&rb.all dg4
theorem dg4_y{a:jM}(h:(decide (4<((iA a.lo:Nat):Int))||decide (4<((iA a.hi:Nat):Int)))=false):dg4 a=true:=by
 rw[Bool.or_eq_false_iff,decide_eq_false_iff_not,decide_eq_false_iff_not] at h
 unfold dg4;rw[Bool.and_eq_true,decide_eq_true_eq,decide_eq_true_eq];omega
theorem dg4_n{a:jM}(h:(decide (4<((iA a.lo:Nat):Int))||decide (4<((iA a.hi:Nat):Int)))=true):dg4 a=false:=by
 rw[Bool.or_eq_true,decide_eq_true_eq,decide_eq_true_eq] at h
 unfold dg4;rw[Bool.and_eq_false_iff,decide_eq_false_iff_not,decide_eq_false_iff_not];omega
theorem nar_l{rb:List jM}(h:4<((rb.length:Nat):Int)):narB rb=false:=by unfold narB;rw[decide_eq_false (by omega)];rfl
theorem nar_d{rb:List jM}(h:rb.all dg4=false):narB rb=false:=by unfold narB;rw[h,Bool.and_false]
theorem nar_y{rb:List jM}(h:¬ 4<((rb.length:Nat):Int))(h2:rb.all dg4=true):narB rb=true:=by unfold narB;rw[decide_eq_true (by omega),h2];rfl
theorem nar_of{rb:List jM}(h:narB rb=true):rb.length<=4/\∀ a∈rb,iA a.lo<=4/\iA a.hi<=4:=by
 unfold narB at h
 rw[Bool.and_eq_true,decide_eq_true_eq] at h
 refine ⟨h.1,fun a ha=>?_⟩
 have h2:=List.all_eq_true.1 h.2 a ha
 unfold dg4 at h2
 rwa [Bool.and_eq_true,decide_eq_true_eq,decide_eq_true_eq] at h2
end Go.Proofs.YtckccjhflbljgaaGreatDoor
namespace Go.Fid
open Go.RowKit (Below)
def encP(b:Nat):jQ:=.val (.pointer (some ⟨b,0,none⟩))
section
variable {P:Program} {n:Fr} {c:Code} {Q:Exit->PS->Prop} {S:SL} {B:BS}
theorem pwp_tell(t:Tmp){k off:Nat}(h:∀ b,cZ P n c Q ⟨(t,.refx k off b)::S,B⟩)(ht:kA S t=.ref k off:=by kernel_rfl):cZ P n c Q ⟨S,B⟩:=fun C a w N hn hs=>by
 obtain ⟨D,β,hs⟩:=hs
 have hr:=hs.slots t
 dsimp only at hr
 rw[ht] at hr
 obtain ⟨b,hb,hv⟩:=hr
 refine h b C a w N hn ⟨D,β,⟨hs.base,hs.mem,hs.high,fun q=>?_⟩⟩
 dsimp only
 rw[qL]
 split
 ·rename_i e;subst e;exact ⟨hb,hv⟩
 ·exact hs.slots q
theorem iZ(t:Tmp){k off b:Nat}(h:cZ P n c Q ⟨(t,.ref k off)::S,B⟩)(ht:kA S t=.refx k off b:=by kernel_rfl):cZ P n c Q ⟨S,B⟩:=fun C a w N hn hs=>by
 obtain ⟨D,β,hs⟩:=hs
 have hr:=hs.slots t
 dsimp only at hr
 rw[ht] at hr
 refine h C a w N hn ⟨D,β,⟨hs.base,hs.mem,hs.high,fun q=>?_⟩⟩
 dsimp only
 rw[qL]
 split
 ·rename_i e;subst e;exact ⟨b,hr.1,hr.2⟩
 ·exact hs.slots q
theorem pwp_toref(t r:Tmp){k off b:Nat}(h:cZ P n c Q ⟨(t,.ref k off)::S,B⟩)(ht:kA S t=.d (.val (.pointer (some ⟨b,off,none⟩))):=by exact rfl)(hr:kA S r=.refx k off b:=by kernel_rfl):cZ P n c Q ⟨S,B⟩:=fun C a w N hn hs=>by
 obtain ⟨D,β,hs⟩:=hs
 have h1:=hs.slots t
 have h2:=hs.slots r
 dsimp only at h1 h2
 rw[ht] at h1
 rw[hr] at h2
 refine h C a w N hn ⟨D,β,⟨hs.base,hs.mem,hs.high,fun q=>?_⟩⟩
 dsimp only
 rw[qL]
 split
 ·rename_i e;subst e
  have h3:uQ w D (a.tmps.getD t undef) (.val (.pointer (some ⟨b,off,none⟩))):=h1
  exact ⟨b,h2.1,vB h3⟩
 ·exact hs.slots q
end
section
variable {P:Program} {S:SL} {o:Oper}
theorem oRx(t:Nat){k off b:Nat}{x:SV}(h:uN P o (kA ((t,.d (.val (.pointer (some ⟨b,off,none⟩))))::S)) [] x)(ht:kA S t=.refx k off b:=by kernel_rfl):uN P o (kA S) [] x:=fun a w D β Q hop hr hD=>h a w D β Q (fun y hy=>by
 have hy':=hop y hy
 cases y with
 |tmp q=>
  show kT w D β _ (kA ((t,_)::S) q)
  rw[qL]
  split
  ·rename_i e
   subst e
   have h2:kT w D β _ (kA S t):=hy'
   rw[ht] at h2
   have e2:_=_:=h2.2
   rw[e2]
   exact uQ.val _
  ·exact hy'
 |_=>exact hy') hr hD
end
end Go.Fid
namespace Go.Proofs.YtckccjhflbljgaaGreatDoor
open Go.Fid
theorem u_nar(rb:List jM)(hrb:∀ a∈rb,GOk 140737488355328 a)(hrl:rb.length<=140737488355328):jS Tryz.prog 24 [(.sl 42 8 (List.map jG rb))] (.val (.bool ((narB rb)))):=by
 let y1:=(jM.mk kO kO)
 refine uW Tryz.func24 ?_
 refine jB<|kx [] [] (zM<|zZ) ?_
 refine jB<|jB<|kx [(7,(vb (decide (4<((rb.length:Nat):Int)))))] [] (zM<|zE (yH zU)<|zE cI<|zZ) ?_
 refine jF (b:=decide (4<((rb.length:Nat):Int))) rfl (fun h1=>?_) (fun h1=>?_)
 ·replace h1:=vT h1
  refine jB<|kx [(2,(vb false))] [] (zM<|zZ) ?_
  refine jD ⟨_,(.tmp (d:=(.val (.bool (false)))) rfl .nil),?_⟩
  rw[nar_l h1];rfl
 ·replace h1:=xC h1
  have h4:=h1
  refine jE<|jB<|jB<|kx [(8,(vl 42 8 jG rb)),(9,(jT rb.length)),(10,(jT 0))] [] (zM<|zE (yH zU)<|zM<|zZ) ?_
  refine jH<|kQ (α:=Nat) (fun i=>⟨[(8,(vl 42 8 jG rb)),(9,(jT rb.length)),(10,(jT i))],[]⟩) (fun i=>i<=rb.length/\(rb.take i).all dg4=true) (fun i=>rb.length-i) 0 wk ⟨Nat.zero_le _,by simp⟩ ?_
  rintro i ⟨hi,hal⟩
  refine jB<|kx [(11,(vb (decide (((i:Nat):Int)<((rb.length:Nat):Int)))))] [] (zE yY<|zZ) ?_
  refine jB<|jF rfl (fun h2=>?_) (fun h2=>?_)
  ·replace h2:=vT h2
   refine jE<|jB<|jH<|jB<|kx [(4,(.ref 0 0))] [(0,some (bx (jG (rb.getD i y1))))] (zE (dA zU i y1)<|zE (mT kF)<|zN (uJ 0 uK uO)<|zT (qM kF)<|zZ) ?_
   refine jB<|kx [(23,(vb (decide (4<(((iA ((rb.getD i y1).lo)):Nat):Int))||decide (4<(((iA ((rb.getD i y1).hi)):Nat):Int)))))] [] ?_ ?_
   ·refine zE (kN uX)<|zR (kR jW)<|zE (kB (g_digits ((rb.getD i y1).lo) (xW (rb.getD i y1).lo) (gok_get hrb (show i<rb.length by omega)).1))<|zE cI<|zE (oV (vb (decide (4<(((iA ((rb.getD i y1).lo)):Nat):Int)))) (qA (by kernel_rfl)))<|?_
    rcases hb3:(decide (4<(((iA ((rb.getD i (jM.mk kO kO)).lo)):Nat):Int))) with _ | _
    ·replace hb3:=xC hb3
     exact zE (kN vP)<|zR (kR jW)<|zE (kB (g_digits ((rb.getD i y1).hi) (xW (rb.getD i y1).hi) (gok_get hrb (show i<rb.length by omega)).2))<|zE cI<|zE aD<|zZ
    ·replace hb3:=vT hb3
     exact zK<|zK<|zK<|zK<|zE nT<|zZ
   refine jF rfl (fun h4=>?_) (fun h4=>?_)
   ·refine jB<|kx [(2,(vb false))] [] (zM<|zZ) ?_
    refine jD ⟨_,(.tmp (d:=(.val (.bool (false)))) rfl .nil),?_⟩
    rw[nar_d (all_no (i:=i) (d:=(jM.mk kO kO)) (by omega) (dg4_n h4))];rfl
   ·refine jE<|kx [(10,(jT (i+1)))] [] (zE (xD (i+1))<|zM<|zZ) ?_
    exact ⟨(i+1),wk,⟨by omega,all_up (d:=(jM.mk kO kO)) (by omega) hal (dg4_y h4)⟩,(by first|omega|(dsimp only;omega))⟩
  ·replace h2:=xC h2
   have hie:i=rb.length:=by omega
   rw[hie,List.take_length] at hal
   refine kL<|jB<|kx [(2,(vb true))] [] (zM<|zZ) ?_
   refine jD ⟨_,(.tmp (d:=(.val (.bool (true)))) rfl .nil),?_⟩
   rw[nar_y h4 hal];rfl
def JetsE(bv:List R2)(t:List kC)(c:Nat):Prop:=jS Tryz.prog 29 [.sl 72 7 (List.map jO t),.sl 42 8 (List.map jG (List.map kK bv)),.val (.int .i64 ((1:Nat):Int)),.val (.int .i64 (-1))] (.tup [jI (gL.mk (jM.mk kO kO) [] []),.val (.int .i64 ((c:Nat):Int))])
theorem j_jetsE(t:List kC)(ht:nE 1048576 t)(bv:List R2)(hbx:∀ x∈bv,GL 1048576 x)(c:Nat)(hE:JetsE bv t c):jS Tryz.prog 29 [.sl 72 7 (List.map jO t),.sl 42 8 (List.map jG (List.map kK bv)),.val (.int .i64 ((1:Nat):Int)),.val (.int .i64 (-1))] (.tup [jI (gL.mk (jM.mk kO kO) [] []),.val (.int .i64 ((c:Nat):Int))]):=hE
def a8(p:A8 Nat)(i:Nat):Nat:=match i with
 |0=>p.a0
 |1=>p.a1
 |2=>p.a2
 |3=>p.a3
 |4=>p.a4
 |5=>p.a5
 |6=>p.a6
 |_=>p.a7
end Go.Proofs.YtckccjhflbljgaaGreatDoor
