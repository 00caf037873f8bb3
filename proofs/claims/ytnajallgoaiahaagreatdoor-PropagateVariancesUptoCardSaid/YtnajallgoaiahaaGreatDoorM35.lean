/- Part 35 of a proof: rules, plain facts, and functions walked. -/
import Derived.Test.YtnajallgoaiahaaGreatDoorM32
import Derived.Test.YtnajallgoaiahaaGreatDoorM34
import Derived.Test.YtnajallgoaiahaaGreatDoorM19
import Derived.Test.YtnajallgoaiahaaGreatDoorM17
import Derived.Test.YtnajallgoaiahaaGreatDoorM23
import Derived.Test.YtnajallgoaiahaaGreatDoorM10
set_option linter.all false
set_option maxRecDepth 4000
namespace Go.Proofs.YtnajallgoaiahaaGreatDoor
open Go.Fid
theorem cb12:callB Tryz.prog 12=true:=by kernel_rfl
theorem cb45:callB Tryz.prog 45=true:=by kernel_rfl
theorem u_few(t:List kV)(ht:vR 140737488355328 t)(n:Nat)(hn:n≤1000)(m:Nat)(hm:m≤1000)(htl:t.length≤140737488355328):jR Tryz.prog 45 [(.sl 83 7 (List.map kM t)),(.val (.int .i64 (((n:Nat):Int)))),(.val (.int .i64 (((m:Nat):Int))))] (.val (.bool ((dE n m t)))):=by
 refine jJ Tryz.func45 rfl cb45 rfl ?_
 show qG _ _ _ _ ⟨[(0,(vl 83 7 kM t)),(1,(jP n)),(2,(jP m))],[]⟩
 refine jB<|kx [] [] (zM<|zZ) ?_
 refine jB<|jB<|kx [(16,(vb (decide (((n:Nat):Int)<((t.length:Nat):Int)))))] [] (zM<|zE (uW iB)<|zM<|zE mL<|zZ) ?_
 refine jG rfl (fun h1=>?_) (fun h1=>?_)
 ·replace h1:=uP h1
  refine jB<|kx [(6,(vb false))] [] (zM<|zZ) ?_
  refine jE ⟨_,(.tmp (d:=(.val (.bool (false)))) rfl .nil),?_⟩
  rw[fewT_long h1];rfl
 ·replace h1:=uR h1
  have hlk:=h1
  refine jD<|jB<|jB<|kx [(17,(vl 83 7 kM t)),(18,(jP t.length)),(19,(jP 0))] [] (zM<|zE (uW iB)<|zM<|zZ) ?_
  refine jH<|kA (α:=Nat) (fun i=>⟨[(0,(vl 83 7 kM t)),(2,(jP m)),(17,(vl 83 7 kM t)),(18,(jP t.length)),(19,(jP i))],[]⟩) (fun i=>i≤t.length∧(t.take i).all dgB=true) (fun i=>t.length-i) 0 wk ⟨Nat.zero_le _,by simp⟩ ?_
  rintro i ⟨hi,hal⟩
  refine jB<|kx [(20,(vb (decide (((i:Nat):Int)<((t.length:Nat):Int)))))] [] (zE xK<|zZ) ?_
  refine jB<|jG rfl (fun h2=>?_) (fun h2=>?_)
  ·replace h2:=uP h2
   refine jD<|jB<|jH<|jB<|kx [(8,(.ref 0 0))] [(0,some (bx (kM (t.getD i tz))))] (zE (xX iB i (tz:kV))<|zE (gE bM)<|zN (qV 0 ze83 zo83)<|zT (qA bM)<|zZ) ?_
   refine jB<|kx [(26,(vb (decide (8<(((digR ((t.getD i tz).n)):Nat):Int)))))] [] (zE (kY dM)<|zR (kK jS)<|zE (jY (g_digits ((t.getD i tz).n) (qP (t.getD i tz).n) (tn_get ht (show i<t.length by omega))))<|zE mL<|zZ) ?_
   refine jG rfl (fun h3=>?_) (fun h3=>?_)
   ·replace h3:=uP h3
    refine jB<|kx [(6,(vb false))] [] (zM<|zZ) ?_
    refine jE ⟨_,(.tmp (d:=(.val (.bool (false)))) rfl .nil),?_⟩
    rw[fewT_dig (all_no (i:=i) (d:=tz) (by omega) (dgB_n h3))];rfl
   ·replace h3:=uR h3
    refine jD<|kx [(19,(jP (i+1)))] [] (zE (vC (i+1))<|zM<|zZ) ?_
    exact ⟨(i+1),wk,⟨by omega,all_up (d:=tz) (by omega) hal (dgB_y h3)⟩,(by first|omega|(dsimp only;omega))⟩
  ·replace h2:=uR h2
   have hie:i=t.length:=by omega
   rw[hie,List.take_length] at hal
   have hT8:vR 8 t:=dg_ok hal
   refine kB<|jB<|kx [(9,(vl 3 1 qI (tmL 8 t))),(10,(jP (nY 8 t)))] [] (zM<|zE (jY (u_sizes t (tn_up hT8 (by decide)) 8))<|zM<|zE uT<|zE uT<|zM<|zM<|zZ) ?_
   refine jB<|jB<|kx [(34,(vb ((((nY 8 t):Nat):Int) != 0)))] [] (zM<|zE nW<|zZ) ?_
   refine jG (b:=((((nY 8 t):Nat):Int) != 0)) rfl (fun h4=>?_) (fun h4=>?_)
   ·replace h4:=bne_iff_ne.1 h4
    refine jB<|kx [(6,(vb true))] [] (zM<|zZ) ?_
    refine jE ⟨_,(.tmp (d:=(.val (.bool (true)))) rfl .nil),?_⟩
    rw[fewT_code hlk hal h4];rfl
   ·replace h4:=bne_eq_false_iff_eq.1 h4
    have hc0:=h4
    have hll:=tmL_len hc0
    refine jD<|jB<|jB<|kx [(35,(vl 3 1 qI (tmL 8 t))),(36,(jP ((tmL 8 t).length))),(37,(jP 0))] [] (zM<|zE (uW mC (L:=(tmL 8 t)))<|zM<|zZ) ?_
    refine jH<|kA (α:=Nat) (fun j=>⟨[(2,(jP m)),(35,(vl 3 1 qI (tmL 8 t))),(36,(jP ((tmL 8 t).length))),(37,(jP j))],[]⟩) (fun j=>j≤(tmL 8 t).length∧((tmL 8 t).take j).all (szB m)=true) (fun j=>(tmL 8 t).length-j) 0 wk ⟨Nat.zero_le _,by simp⟩ ?_
    rintro j ⟨hj,hal2⟩
    refine jB<|kx [(38,(vb (decide (((j:Nat):Int)<(((tmL 8 t).length:Nat):Int)))))] [] (zE xK<|zZ) ?_
    refine jB<|jG rfl (fun h5=>?_) (fun h5=>?_)
    ·replace h5:=uP h5
     refine jD<|jB<|jH<|jB<|kx [(12,(vi ((tmL 8 t).getD j 0)))] [] (zE (xX mC j (0:Int) (L:=(tmL 8 t)))<|zE (xZ cH)<|zM<|zZ) ?_
     refine jB<|kx [(43,(vb (decide (((m:Nat):Int)<((tmL 8 t).getD j 0)))))] [] (zM<|zM<|zE mL<|zZ) ?_
     refine jG rfl (fun h6=>?_) (fun h6=>?_)
     ·replace h6:=uP h6
      refine jB<|kx [(6,(vb false))] [] (zM<|zZ) ?_
      refine jE ⟨_,(.tmp (d:=(.val (.bool (false)))) rfl .nil),?_⟩
      rw[fewT_big hc0 (all_no (i:=j) (d:=0) (by omega) (by unfold szB;exact decide_eq_false (by omega)))];rfl
     ·replace h6:=uR h6
      refine jD<|kx [(37,(jP (j+1)))] [] (zE (vC (j+1))<|zM<|zZ) ?_
      exact ⟨(j+1),wk,⟨by omega,all_up (d:=0) (by omega) hal2 (by unfold szB;exact decide_eq_true (by omega))⟩,(by first|omega|(dsimp only;omega))⟩
    ·replace h5:=uR h5
     have hje:j=(tmL 8 t).length:=by omega
     rw[hje,List.take_length] at hal2
     refine kB<|jB<|kx [(6,(vb true))] [] (zM<|zZ) ?_
     refine jE ⟨_,(.tmp (d:=(.val (.bool (true)))) rfl .nil),?_⟩
     rw[fewT_yes hlk hal hal2];rfl
theorem u_small(t:List kV)(ht:vR 140737488355328 t)(l:List jQ)(hl:vG 140737488355328 l)(htl:t.length≤140737488355328):jR Tryz.prog 12 [(.sl 83 7 (List.map kM t)),(.sl 45 4 (List.map jK l))] (.val (.bool ((dE 16 10 t&&shR 4 6 l)))):=by
 refine jJ Tryz.func12 rfl cb12 rfl ?_
 show qG _ _ _ _ ⟨[(0,(vl 83 7 kM t)),(1,(vl 45 4 jK l))],[]⟩
 refine jB<|kx [] [] (zM<|zZ) ?_
 refine jB<|kx [(4,(vb ((dE 16 10 t)&&(shR 4 6 l))))] [] ?_ ?_
 ·refine zM<|zE (jY (u_few t ht 16 (by omega) 10 (by omega) htl))<|zE (oV (vb (dE 16 10 t)) (qC (by kernel_rfl)))<|?_
  rcases hb1:(dE 16 10 t) with _ | _
  ·exact zK<|zK<|zE yP<|zM<|zZ
  ·exact zM<|zE (jY (u_short l hl 4 (by omega) 6 (by omega)))<|zE fA<|zM<|zZ
 refine jE ⟨_,(.tmp (d:=(.val (.bool (((dE 16 10 t)&&(shR 4 6 l)))))) rfl .nil),?_⟩
 rfl
theorem tame_fail{bv:List R2}{t:List kV}(h:mW bv t)(hd:dzT bv t=true):∃ k,JFailP bv t k:=by
 obtain ⟨k,hk⟩:=dz_fst hd
 exact ⟨k,fail_p h hk⟩
def gA(f:List kV→Nat):List (List kV)→Nat
 |[]=>0
 |t::ts=>if f t=0 then gA f ts else f t
theorem fstC_app(f:List kV→Nat):∀ ts us,gA f (ts++us)=if gA f ts=0 then gA f us else gA f ts
 |[],us=>rfl
 |t::ts,us=>by
  rw[List.cons_append,gA,gA,fstC_app f ts us]
  by_cases h:f t=0
  ·rw[if_pos h,if_pos h]
  ·rw[if_neg h,if_neg h,if_neg h]
theorem fstC_up(f:List kV→Nat){ts:List (List kV)}{i:Nat}(hi:i<ts.length):gA f (ts.take (i+1))=if gA f (ts.take i)=0 then f (ts.getD i []) else gA f (ts.take i):=by
 rw[List.take_succ_eq_append_getElem hi,fstC_app,List.getD_eq_getElem?_getD,List.getElem?_eq_getElem hi]
 show (if _ then (if f ts[i]=0 then 0 else f ts[i]) else _)=_
 by_cases h:f ts[i]=0
 ·rw[if_pos h,Option.getD_some,h]
 ·rw[if_neg h,Option.getD_some]
theorem fstC_y{f:List kV→Nat}{ts:List (List kV)}{i c:Nat}(hi:i<ts.length)(hc:c=gA f (ts.take i))(h:((c:Nat):Int)=0):f (ts.getD i [])=gA f (ts.take (i+1)):=by
 rw[fstC_up f hi,if_pos (by omega)]
theorem fstC_n{f:List kV→Nat}{ts:List (List kV)}{i c:Nat}(hi:i<ts.length)(hc:c=gA f (ts.take i))(h:¬ ((c:Nat):Int)=0):c=gA f (ts.take (i+1)):=by
 rw[fstC_up f hi,if_neg (by omega),hc]
theorem fstC_split(f:List kV→Nat)(ts:List (List kV))(i:Nat):gA f ts=if gA f (ts.take i)=0 then gA f (ts.drop i) else gA f (ts.take i):=by
 rw[← fstC_app,List.take_append_drop]
theorem fstC_all{f:List kV→Nat}{ts:List (List kV)}(h:gA f ts=0):∀ t∈ts,f t=0:=by
 induction ts with
 |nil=>intro t ht;simp at ht
 |cons u ts ih=>
  rw[gA] at h
  by_cases hu:f u=0
  ·rw[if_pos hu] at h
   intro t ht
   rcases List.mem_cons.1 ht with rfl | ht
   ·exact hu
   ·exact ih h t ht
  ·rw[if_neg hu] at h;exact absurd h hu
theorem fstC_at{f:List kV→Nat}{ts:List (List kV)}{i:Nat}(hi:i<ts.length)(h0:gA f (ts.take i)=0)(h:f (ts.getD i [])≠0):gA f ts=f (ts.getD i []):=by
 rw[fstC_split f ts (i+1),fstC_up f hi,if_pos h0,if_neg h]
def tmN(xs:List Rat)(t:List kV):Nat:=nY ((xs.length:Nat):Int) t
def dzC(xs:List Rat)(t:List kV):Nat:=bif dzT (List.map yF xs) t then 14 else 0
def cdQ(xs:List Rat)(q:List (List jQ))(ts:List (List kV)):Nat:=if gA (tmN xs) ts=0 then mV q xs.length else gA (tmN xs) ts
def tbC(xs:List Rat)(q:List (List jQ))(ts:List (List kV)):Nat:=if cdQ xs q ts=0 then gA (dzC xs) ts else cdQ xs q ts
section
variable {xs:List Rat} {q:List (List jQ)} {ts:List (List kV)} {i:Nat}
theorem tbE1(hi:i<ts.length)(h0:gA (tmN xs) (ts.take i)=0)(h:((nY ((xs.length:Nat):Int) (ts.getD i []):Nat):Int)≠0):nY ((xs.length:Nat):Int) (ts.getD i [])=tbC xs q ts:=by
 have h1:tmN xs (ts.getD i [])≠0:=fun e=>h (by unfold tmN at e;rw[e];rfl)
 have h2:gA (tmN xs) ts=tmN xs (ts.getD i []):=fstC_at hi h0 h1
 unfold tbC cdQ
 rw[h2,if_neg h1,if_neg h1];rfl
theorem tbE2(h0:gA (tmN xs) ts=0)(h:((mV q xs.length:Nat):Int)≠0):mV q xs.length=tbC xs q ts:=by
 unfold tbC cdQ
 rw[if_pos h0,if_neg (by omega)]
theorem tbE3(h0:gA (tmN xs) ts=0)(hf:((mV q xs.length:Nat):Int)=0)(hi:i<ts.length)(hd:gA (dzC xs) (ts.take i)=0)(h:dzT (List.map yF xs) (ts.getD i [])=true):14=tbC xs q ts:=by
 have h2:dzC xs (ts.getD i [])=14:=by unfold dzC;rw[h];rfl
 have h1:=fstC_at hi hd (by rw[h2];decide)
 unfold tbC cdQ
 rw[if_pos h0,if_pos (by omega),h1,h2]
theorem tbE4(h0:gA (tmN xs) ts=0)(hf:((mV q xs.length:Nat):Int)=0)(hd:gA (dzC xs) ts=0):tbC xs q ts=0:=by
 unfold tbC cdQ
 rw[if_pos h0,if_pos (by omega),hd]
theorem dzC_n(h:dzT (List.map yF xs) (ts.getD i [])=false):dzC xs (ts.getD i [])=0:=by unfold dzC;rw[h];rfl
theorem dzC_y(h:dzT (List.map yF xs) (ts.getD i [])=true):dzC xs (ts.getD i [])=14:=by unfold dzC;rw[h];rfl
theorem fst_up0{f:List kV→Nat}(hi:i<ts.length)(h0:gA f (ts.take i)=0)(h:f (ts.getD i [])=0):gA f (ts.take (i+1))=0:=by rw[fstC_up f hi,if_pos h0,h]
theorem tm_of(h0:gA (tmN xs) ts=0)(hi:i<ts.length):tmN xs (ts.getD i [])=0:=uC (fstC_all h0) hi
theorem tb_0(h:tbC xs q ts=0):gA (tmN xs) ts=0∧mV q xs.length=0∧gA (dzC xs) ts=0:=by
 unfold tbC at h
 by_cases h1:cdQ xs q ts=0
 ·rw[if_pos h1] at h
  unfold cdQ at h1
  by_cases h2:gA (tmN xs) ts=0
  ·rw[if_pos h2] at h1;exact ⟨h2,h1,h⟩
  ·rw[if_neg h2] at h1;exact absurd h1 h2
 ·rw[if_neg h1] at h;exact absurd h h1
theorem dz_of(hd:gA (dzC xs) ts=0):∀ t∈ts,dzT (List.map yF xs) t=false:=fun t ht=>by
 have h:=fstC_all hd t ht
 unfold dzC at h
 cases hz:dzT (List.map yF xs) t with
 |false=>rfl
 |true=>rw[hz] at h;exact absurd h (by decide)
def tbI(xs:List Rat)(q:List (List jQ))(ts:List (List kV))(i:Nat):Nat:=if cdQ xs q ts=0 then gA (dzC xs) (ts.take i) else cdQ xs q ts
theorem tbI_0:cdQ xs q ts=tbI xs q ts 0:=by
 unfold tbI
 by_cases h:cdQ xs q ts=0
 ·rw[if_pos h,h];rfl
 ·rw[if_neg h]
theorem tbI_e{c:Nat}(hc:c=tbI xs q ts i)(hi:i=ts.length):c=tbC xs q ts:=by
 rw[hc,hi,tbI,tbC,List.take_length]
theorem tbI_n{c:Nat}(hi:i<ts.length)(hc:c=tbI xs q ts i)(h:¬ ((c:Nat):Int)=0):c=tbI xs q ts (i+1):=by
 unfold tbI at *
 by_cases h1:cdQ xs q ts=0
 ·rw[if_pos h1] at hc ⊢;exact fstC_n hi hc h
 ·rw[if_neg h1] at hc ⊢;exact hc
theorem tbI_cd{c:Nat}(hc:c=tbI xs q ts i)(h:((c:Nat):Int)=0):cdQ xs q ts=0∧gA (dzC xs) (ts.take i)=0:=by
 unfold tbI at hc
 by_cases h1:cdQ xs q ts=0
 ·rw[if_pos h1] at hc;exact ⟨h1,by omega⟩
 ·rw[if_neg h1] at hc;omega
theorem tbI_y{c:Nat}(hi:i<ts.length)(hc:c=tbI xs q ts i)(h:((c:Nat):Int)=0):dzC xs (ts.getD i [])=tbI xs q ts (i+1):=by
 obtain ⟨h1,h2⟩:=tbI_cd hc h
 unfold tbI
 rw[if_pos h1,fstC_up _ hi,if_pos h2]
theorem cd_tm(h:cdQ xs q ts=0):gA (tmN xs) ts=0:=by
 unfold cdQ at h
 by_cases h1:gA (tmN xs) ts=0
 ·exact h1
 ·rw[if_neg h1] at h;exact absurd h h1
theorem cdQ_y{c:Nat}(hc:c=gA (tmN xs) ts)(h:((c:Nat):Int)=0):mV q xs.length=cdQ xs q ts:=by unfold cdQ;rw[if_pos (by omega)]
theorem cdQ_n{c:Nat}(hc:c=gA (tmN xs) ts)(h:¬ ((c:Nat):Int)=0):c=cdQ xs q ts:=by unfold cdQ;rw[if_neg (by omega),hc]
end
def covJ(q:List (List jQ))(a b:List jQ)(i:Nat):Nat→Rat
 |0=>0
 |j+1=>covJ q a b i j+qP ((q.getD i []).getD j zr)*(qP (a.getD i zr)*qP (b.getD j zr))
def covA(q:List (List jQ))(a b:List jQ):Nat→Rat
 |0=>0
 |i+1=>covA q a b i+covJ q a b i b.length
theorem covJ_eq(q:List (List jQ))(a b:List jQ)(i:Nat):∀ j,covJ q a b i j=qP (a.getD i zr)*dotT (q.getD i []) b j
 |0=>by rw[covJ,dotT];grind
 |j+1=>by rw[covJ,dotT,covJ_eq q a b i j];grind
theorem covA_eq{q:List (List jQ)}{a b:List jQ}(h:∀ i,i<a.length→(q.getD i []).length=b.length)(hq:a.length=q.length):∀ i,i≤a.length→covA q a b i=dotT a (appR q b) i
 |0,_=>rfl
 |i+1,hi=>by
  rw[covA,dotT,covA_eq h hq i (by omega),covJ_eq]
  have e:qP ((appR q b).getD i zr)=dotT (q.getD i []) b b.length:=by
   unfold appR
   rw[List.getD_eq_getElem?_getD,List.getElem?_map,List.getElem?_eq_getElem (show i<q.length by omega),Option.map_some,Option.getD_some,gP,dotR,← h i (by omega),List.getD_eq_getElem?_getD,List.getElem?_eq_getElem (show i<q.length by omega),Option.getD_some]
  rw[e]
theorem cov_all{q:List (List jQ)}{a b:List jQ}(hr:gJ q q.length b.length)(hq:a.length=q.length):covA q a b a.length=dW q a b :=
 covA_eq (fun i hi=>(hr.at (show i<q.length by omega)).1) hq _ (Nat.le_refl _)
theorem covJ_ql{q:List (List jQ)}{a b:List jQ}(hq:vN 1048576 q)(ha:vG 1048576 a)(hb:vG 1048576 b)(i:Nat)(hi:i<q.length):∀ j,QL (covJ q a b i j) (j*3145730+1)
 |0=>xE mZ (by omega)
 |j+1=>by
  rw[covJ]
  have h1:QL (qP ((q.getD i []).getD j zr)) 1048576:=row_ql (xA (d:=[]) hq hi) (by decide)
  exact mI (covJ_ql hq ha hb i hi j) (qM h1 (qM (row_ql (j:=i) ha (by decide)) (row_ql (j:=j) hb (by decide)) (Nat.le_refl _)) (Nat.le_refl _)) (by rw[Nat.add_mul];omega)
theorem covA_ql{q:List (List jQ)}{a b:List jQ}(hq:vN 1048576 q)(ha:vG 1048576 a)(hb:vG 1048576 b)(hb8:b.length≤8):∀ i,i≤q.length→QL (covA q a b i) (i*25165850+1)
 |0,_=>xE mZ (by omega)
 |i+1,hi=>by
  rw[covA]
  exact mI (covA_ql hq ha hb hb8 i (by omega)) (xE (covJ_ql hq ha hb i (by omega) b.length) (show _≤25165848 by omega)) (by rw[Nat.add_mul];omega)
theorem cov_sum{q:List (List jQ)}{a b:List jQ}(hq:vN 1048576 q)(ha:vG 1048576 a)(hb:vG 1048576 b)(hb8:b.length≤8)(hq8:q.length≤8){i j:Nat}(hi:i<q.length)(hj:j≤8):QL (covA q a b i+covJ q a b i j) 268435456 :=
 mI (covA_ql hq ha hb hb8 i (by omega)) (covJ_ql hq ha hb i hi j) (by omega)
theorem cov_sumA{q:List (List jQ)}{a b:List jQ}(hq:vN 1048576 q)(ha:vG 1048576 a)(hb:vG 1048576 b)(hb8:b.length≤8)(hq8:q.length≤8){i:Nat}(hi:i≤q.length):QL (covA q a b i) 268435456 :=
 xE (covA_ql hq ha hb hb8 i hi) (by omega)
theorem cov_8{q:List (List jQ)}{a b:List jQ}(hq:vN 1048576 q)(ha:vG 1048576 a)(hb:vG 1048576 b)(hr:gJ q q.length b.length)(hq8:q.length≤8)(hb8:b.length≤8)(hal:a.length=q.length):QL (dW q a b) 268435456:=by
 rw[← cov_all hr hal];exact cov_sumA hq ha hb hb8 hq8 (by omega)
theorem tab_at{q:List (List jQ)}{xs:List Rat}{ts:List (List kV)}{i j:Nat}(hi:i<ts.length)(hj:j<ts.length):((eA q (List.map (vT xs) ts)).getD i []).getD j zr=jN (dW q (vT xs (ts.getD i [])) (vT xs (ts.getD j []))):=by
 unfold eA
 simp only[List.getD_eq_getElem?_getD,List.getElem?_map,List.getElem?_eq_getElem hi,List.getElem?_eq_getElem hj,Option.map_some,Option.getD_some]
theorem grs_get{xs:List Rat}{ts:List (List kV)}{i:Nat}(hi:i<ts.length):(List.map (vT xs) ts).getD i []=vT xs (ts.getD i []):=by
 simp only[List.getD_eq_getElem?_getD,List.getElem?_map,List.getElem?_eq_getElem hi,Option.map_some,Option.getD_some]
theorem tab_len{q:List (List jQ)}{gs:List (List jQ)}{i:Nat}(hi:i<gs.length):((eA q gs).getD i []).length=gs.length:=by
 unfold eA
 rw[List.getD_eq_getElem?_getD,List.getElem?_map,List.getElem?_eq_getElem hi,Option.map_some,Option.getD_some,List.length_map]
def rawA(l:List jQ)(q:List (List jQ)):Nat:=bif gC l&&decide (gS q=0) then 0 else 1
def aG(l:List jQ)(q:List (List jQ)):Nat:=bif gC l&&decide (gS q=0) then 6 else 1
theorem rawC_0{l:List jQ}{q:List (List jQ)}:aG l q≠0:=by unfold aG;cases (gC l&&decide (gS q=0))<;>decide
theorem raw_t{l:List jQ}{q:List (List jQ)}(h:(!(gC l)||((gS q:Nat):Int) != ((0:Nat):Int))=true):(gC l&&decide (gS q=0))=false:=by
 rcases hv:gC l with _ | _
 ·rfl
 ·rw[hv,Bool.not_true,Bool.false_or,bne_iff_ne] at h
  rw[Bool.true_and,decide_eq_false_iff_not];omega
theorem raw_f{l:List jQ}{q:List (List jQ)}(h:(!(gC l)||((gS q:Nat):Int) != ((0:Nat):Int))=false):(gC l&&decide (gS q=0))=true:=by
 rw[Bool.or_eq_false_iff,Bool.not_eq_false',bne_eq_false_iff_eq] at h
 rw[h.1,Bool.true_and,decide_eq_true_eq];omega
theorem rawA_1{l:List jQ}{q:List (List jQ)}(h:(gC l&&decide (gS q=0))=false):1=rawA l q∧1=aG l q:=by unfold rawA aG;rw[h];exact ⟨rfl,rfl⟩
theorem rawA_0{l:List jQ}{q:List (List jQ)}(h:(gC l&&decide (gS q=0))=true):0=rawA l q∧6=aG l q:=by unfold rawA aG;rw[h];exact ⟨rfl,rfl⟩
theorem raw_6{l:List jQ}{q:List (List jQ)}{ts:List (List kV)}(h:((((rawA l q:Nat):Int) == ((0:Nat):Int))&&(((ts.length:Nat):Int) == ((0:Nat):Int)))=true):6=aG l q:=by
 rw[Bool.and_eq_true,beq_iff_eq] at h
 rcases hv:(gC l&&decide (gS q=0)) with _ | _
 ·have:=(rawA_1 hv).1;omega
 ·exact (rawA_0 hv).2
theorem raw_n{l:List jQ}{q:List (List jQ)}{ts:List (List kV)}(hz:(gC l&&decide (gS q=0))=true→ts.length=0)(h:((((rawA l q:Nat):Int) == ((0:Nat):Int))&&(((ts.length:Nat):Int) == ((0:Nat):Int)))=false):rawA l q=aG l q:=by
 rcases hv:(gC l&&decide (gS q=0)) with _ | _
 ·rw[← (rawA_1 hv).1,← (rawA_1 hv).2]
 ·rw[← (rawA_0 hv).1,hz hv] at h;exact absurd h (by decide)
theorem p_valR(rb:List jV)(hrb:∀ a∈rb,GOk 1048576 a)(hbl:rb.length≤1048576):jR Tryz.prog 71 [(.sl 61 8 (List.map jF rb))] (.val (.bool ((List.all rb uK)))):=by
 let y1:=(jV.mk kZ kZ)
 refine jJ Tryz.func71 rfl cb71 rfl ?_
 show qG _ _ _ _ ⟨[(0,(vl 61 8 jF rb))],[]⟩
 refine jB<|kx [] [] (zM<|zZ) ?_
 refine jB<|jB<|kx [(5,(vl 61 8 jF rb)),(6,(jP rb.length)),(7,(jP 0))] [] (zM<|zE (uW xI)<|zM<|zZ) ?_
 refine jH<|kA (α:=Nat) (fun i=>⟨[(5,(vl 61 8 jF rb)),(6,(jP rb.length)),(7,(jP i))],[]⟩) (fun i=>i≤rb.length∧(rb.take i).all uK=true) (fun i=>rb.length-i) 0 wk ⟨Nat.zero_le _,by simp⟩ ?_
 rintro i ⟨hi,hal⟩
 refine jB<|kx [(8,(vb (decide (((i:Nat):Int)<((rb.length:Nat):Int)))))] [] (zE xK<|zZ) ?_
 refine jB<|jG rfl (fun h1=>?_) (fun h1=>?_)
 ·replace h1:=uP h1
  refine jD<|jB<|jH<|jB<|kx [(4,(.ref 0 0))] [(0,some (bx (jF (rb.getD i y1))))] (zE (xX xI i y1)<|zE (gE jW)<|zN (qV 0 qO qS)<|zT (qA jW)<|zZ) ?_
  refine jB<|kx [(13,(vb (!(uK (rb.getD i y1)))))] [] (zR (kK jW)<|zE (jY (iH (rb.getD i y1) (hZ (gok_get hrb (show i<rb.length by omega)) (by decide))))<|zE mD<|zZ) ?_
  refine jG rfl (fun h2=>?_) (fun h2=>?_)
  ·refine jB<|kx [(2,(vb false))] [] (zM<|zZ) ?_
   refine jE ⟨_,(.tmp (d:=(.val (.bool (false)))) rfl .nil),?_⟩
   rw[all_not (f:=uK) (l:=rb) (i:=i) (d:=(jV.mk kZ kZ)) (by omega) (by simpa using h2)];rfl
  ·refine jD<|kx [(7,(jP (i+1)))] [] (zE (vC (i+1))<|zM<|zZ) ?_
   exact ⟨(i+1),wk,⟨by omega,all_take (d:=(jV.mk kZ kZ)) (by omega) hal (by simpa using h2)⟩,(by first|omega|(dsimp only;omega))⟩
 ·replace h1:=uR h1
  have hie:i=rb.length:=by omega
  rw[hie,List.take_length] at hal
  refine kB<|jB<|kx [(2,(vb true))] [] (zM<|zZ) ?_
  refine jE ⟨_,(.tmp (d:=(.val (.bool (true)))) rfl .nil),?_⟩
  rw[hal];rfl
theorem ptr_t{l:List jQ}{q:List (List jQ)}(h:(!(List.map (fun x=>jV.mk x x) l).all uK||((gS q:Nat):Int) != ((0:Nat):Int))=true):(gC l&&decide (gS q=0))=false:=raw_t (by rwa [ptr_all] at h)
theorem ptr_f{l:List jQ}{q:List (List jQ)}(h:(!(List.map (fun x=>jV.mk x x) l).all uK||((gS q:Nat):Int) != ((0:Nat):Int))=false):(gC l&&decide (gS q=0))=true:=raw_f (by rwa [ptr_all] at h)
theorem p_tabR(ts:List (List kV))(hts:∀ t∈ts,vR 1048576 t)(l:List jQ)(hl:vG 1048576 l)(q:List (List jQ))(hq:vN 1048576 q)(hz:(gC l&&decide (gS q=0))=true→ts.length=0)(hxb:l.length≤1048576):jR Tryz.prog 18 [(.sl 23 1 (List.map kL ts)),(.sl 45 4 (List.map jK l)),(.sl 24 1 (List.map jI q))] (.tup [(.sl 24 1 (List.map jI [])),(.val (.int .i64 ((((aG l q):Nat):Int))))]):=by
 have hlb:=hl.2
 have hgx:(List.map (fun x=>jV.mk x x) l).length=l.length:=List.length_map _
 refine jJ Tryz.func18 rfl cb18 rfl ?_
 show qG _ _ _ _ ⟨[(0,(vl 23 1 kL ts)),(1,(vl 45 4 jK l)),(2,(vl 24 1 jI q))],[]⟩
 refine jB<|kx [] [] (zE (dD 24 1)<|zM<|zZ) ?_
 refine jB<|jB<|kx [(31,(vb (!(List.all (List.map (fun x=>jV.mk x x) l) uK)||((((gS q):Nat):Int) != ((0:Nat):Int)))))] [] ?_ ?_
 ·refine zM<|zE (jY (p_ptsR l hl hxb))<|zE (jY (p_valR (List.map (fun x=>jV.mk x x) l) (ptr_ok hl) (by omega)))<|zE mD<|zE (oV (vb (!(List.all (List.map (fun x=>jV.mk x x) l) uK))) (qC (by kernel_rfl)))<|?_
  rcases hb1:(!(List.all (List.map (fun x=>jV.mk x x) l) uK)) with _ | _
  ·exact zM<|zE (jY (m_chk q hq))<|zE nW<|zE eP<|zZ
  ·exact zK<|zK<|zK<|zE gR<|zZ
 refine jG rfl (fun h2=>?_) (fun h2=>?_)
 ·refine jB<|kx [(6,(vl 24 1 jI [])),(7,(jP 1))] [] (zE (dD 24 1)<|zM<|zZ) ?_
  refine jE ⟨_,(.tmp (d:=(.sl 24 1 (List.map jI []))) rfl (.tmp (d:=(.val (.int .i64 (((1:Nat):Int))))) rfl .nil)),?_⟩
  rw[← (rawA_1 (ptr_t h2)).2];rfl
 ·refine jD<|jB<|jB<|kx [(34,(vb (((ts.length:Nat):Int) == ((0:Nat):Int))))] [] (zM<|zE (uW yR)<|zE xR<|zZ) ?_
  refine jG rfl (fun h3=>?_) (fun h3=>?_)
  ·replace h3:=eq_of_beq h3
   refine jB<|kx [(6,(vl 24 1 jI [])),(7,(jP 6))] [] (zE (dD 24 1)<|zM<|zZ) ?_
   refine jE ⟨_,(.tmp (d:=(.sl 24 1 (List.map jI []))) rfl (.tmp (d:=(.val (.int .i64 (((6:Nat):Int))))) rfl .nil)),?_⟩
   rw[← (rawA_0 (ptr_f h2)).2];rfl
  ·replace h3:=ne_of_beq_false h3
   have h9:=hz (ptr_f h2);exfalso;omega
theorem p_tabE(ts:List (List kV))(hts:∀ t∈ts,vR 1048576 t)(xs:List Rat)(hx:∀ q∈xs,QL q 1048576)(q:List (List jQ))(hq:vN 1048576 q)(hE:tbC xs q ts≠0)(hr0:gJ q q.length (q.getD 0 []).length)(hTm:∀ t∈ts,tmN xs t=0→mW (List.map yF xs) t)(h1:1≤ts.length)(h64:ts.length≤64)(hxb:xs.length≤1000000):jR Tryz.prog 18 [(.sl 23 1 (List.map kL ts)),(.sl 45 4 (List.map jK (List.map jN xs))),(.sl 24 1 (List.map jI q))] (.tup [(.sl 24 1 (List.map jI [])),(.val (.int .i64 ((((tbC xs q ts):Nat):Int))))]):=by
 have hx64:xs.length≤1000000:=hxb
 have hqm:=hr0.r64
 have hc0:=rect_chk hr0
 have hxn:((List.map jN xs).length)=xs.length:=List.length_map _
 have hgx:(List.map yF xs).length=xs.length:=List.length_map _
 refine jJ Tryz.func18 rfl cb18 rfl ?_
 show qG _ _ _ _ ⟨[(0,(vl 23 1 kL ts)),(1,(vl 45 4 jK (List.map jN xs))),(2,(vl 24 1 jI q))],[]⟩
 refine jB<|kx [] [] (zE (dD 24 1)<|zM<|zZ) ?_
 refine jB<|jB<|kx [(31,(vb false))] [] (zM<|zE (jY (p_pts xs hx hxb))<|zE (jY (p_val (List.map yF xs) (pts_gl hx) (by omega)))<|zE mD<|zM<|zM<|zE (jY (m_chk q hq))<|zE (vW false nW (by exact bne_eq_false_iff_eq.2 (by rw[show (gS q)=0 from hc0]<;>rfl)))<|zE yP<|zZ) ?_
 refine kU ?_
 refine jD<|jB<|jB<|kx [(34,(vb (((ts.length:Nat):Int) == ((0:Nat):Int))))] [] (zM<|zE (uW yR)<|zE xR<|zZ) ?_
 refine jG rfl (fun h1=>?_) (fun h1=>?_)
 ·replace h1:=eq_of_beq h1
  exfalso;omega
 ·replace h1:=ne_of_beq_false h1
  refine jD<|jB<|jB<|kx [(37,(vb (decide (((64:Nat):Int)<((ts.length:Nat):Int)))))] [] (zM<|zE (uW yR)<|zE mL<|zZ) ?_
  refine jG rfl (fun h2=>?_) (fun h2=>?_)
  ·replace h2:=uP h2
   exfalso;omega
  ·replace h2:=uR h2
   refine jD<|jB<|jB<|kx [(38,(vl 23 1 kL ts)),(39,(jP ts.length)),(40,(jP 0))] [] (zM<|zE (uW yR)<|zM<|zZ) ?_
   refine jH<|kA (α:=Nat) (fun i=>⟨[(0,(vl 23 1 kL ts)),(1,(vl 45 4 jK (List.map jN xs))),(2,(vl 24 1 jI q)),(38,(vl 23 1 kL ts)),(39,(jP ts.length)),(40,(jP i))],[]⟩) (fun i=>i≤ts.length∧gA (tmN xs) (ts.take i)=0) (fun i=>ts.length-i) 0 wk ⟨Nat.zero_le _,rfl⟩ ?_
   rintro i ⟨hi,hc⟩
   refine jB<|kx [(41,(vb (decide (((i:Nat):Int)<((ts.length:Nat):Int)))))] [] (zE xK<|zZ) ?_
   refine jB<|jG rfl (fun h3=>?_) (fun h3=>?_)
   ·replace h3:=uP h3
    refine jD<|jB<|jH<|jB<|kx [(9,(vl 83 7 kM (ts.getD i [])))] [] (zE (xX yR i ([]:List (kV)))<|zE (xZ sh23)<|zM<|zZ) ?_
    refine jB<|kx [(10,(jP (nY ((xs.length:Nat):Int) (ts.getD i []))))] [] (zM<|zM<|zE (oLn uE xs.length)<|zE (jY (j_chk (ts.getD i []) (uC (P:=vR 1048576) hts (show i<ts.length by omega)) ((xs.length:Nat):Int)))<|zM<|zZ) ?_
    refine jB<|kx [(49,(vb ((((nY ((xs.length:Nat):Int) (ts.getD i [])):Nat):Int) != ((0:Nat):Int))))] [] (zM<|zE nW<|zZ) ?_
    refine jG rfl (fun h4=>?_) (fun h4=>?_)
    ·replace h4:=bne_iff_ne.1 h4
     refine jB<|kx [(6,(vl 24 1 jI [])),(7,(jP (nY ((xs.length:Nat):Int) (ts.getD i []))))] [] (zM<|zE (dD 24 1)<|zM<|zZ) ?_
     refine jE ⟨_,(.tmp (d:=(.sl 24 1 (List.map jI []))) rfl (.tmp (d:=(.val (.int .i64 ((((nY ((xs.length:Nat):Int) (ts.getD i [])):Nat):Int))))) rfl .nil)),?_⟩
     rw[tbE1 (q:=q) (by omega) hc h4];rfl
    ·replace h4:=bne_eq_false_iff_eq.1 h4
     refine jD<|kx [(40,(jP (i+1)))] [] (zE (vC (i+1))<|zM<|zZ) ?_
     exact ⟨i+1,wk,⟨by omega,fst_up0 (by omega) hc (show tmN xs (ts.getD i [])=0 by unfold tmN;omega)⟩,(by first|omega|(dsimp only;omega))⟩
   ·replace h3:=uR h3
    have hc1:gA (tmN xs) ts=0:=by rw[show i=ts.length by omega,List.take_length] at hc;exact hc
    refine kB<|jB<|jB<|kx [(11,(jP (mV q xs.length)))] [] (zM<|zM<|zE (oLn uE xs.length)<|zE (jY (p_fit q hq xs.length hr0))<|zM<|zZ) ?_
    refine jB<|kx [(57,(vb ((((mV q xs.length):Nat):Int) != ((0:Nat):Int))))] [] (zM<|zE nW<|zZ) ?_
    refine jG rfl (fun h5=>?_) (fun h5=>?_)
    ·replace h5:=bne_iff_ne.1 h5
     refine jB<|kx [(6,(vl 24 1 jI [])),(7,(jP (mV q xs.length)))] [] (zM<|zE (dD 24 1)<|zM<|zZ) ?_
     refine jE ⟨_,(.tmp (d:=(.sl 24 1 (List.map jI []))) rfl (.tmp (d:=(.val (.int .i64 ((((mV q xs.length):Nat):Int))))) rfl .nil)),?_⟩
     rw[tbE2 hc1 h5];rfl
    ·replace h5:=bne_eq_false_iff_eq.1 h5
     have hfz:=h5
     refine jD<|jB<|kx [(12,(.own 0 24 1 0))] [(0,some (bm jI []))] (zO 0 24 1<|zZ) ?_
     refine jB<|jB<|kx [(59,(vl 23 1 kL ts)),(60,(jP ts.length)),(61,(jP 0))] [] (zM<|zE (uW yR)<|zM<|zZ) ?_
     refine jH<|kA (α:=Nat × List (List jQ)) (fun (i,o)=>⟨[(1,(vl 45 4 jK (List.map jN xs))),(2,(vl 24 1 jI q)),(12,(.own 0 24 1 o.length)),(59,(vl 23 1 kL ts)),(60,(jP ts.length)),(61,(jP i))],[(0,some (bm jI o))]⟩) (fun (i,o)=>i≤ts.length∧o=(ts.take i).map (vT xs)∧gA (dzC xs) (ts.take i)=0) (fun (i,o)=>ts.length-i) (0,[]) wk ⟨Nat.zero_le _,by simp,rfl⟩ ?_
     rintro ⟨i,o⟩ ⟨hi,ho,hd⟩
     have hol:o.length=i:=by rw[ho,List.length_map,List.length_take];omega
     refine jB<|kx [(62,(vb (decide (((i:Nat):Int)<((ts.length:Nat):Int)))))] [] (zE xK<|zZ) ?_
     refine jB<|jG rfl (fun h6=>?_) (fun h6=>?_)
     ·replace h6:=uP h6
      have hTi:=uC hTm (show i<ts.length by omega) (tm_of hc1 (show i<ts.length by omega))
      refine jD<|jB<|jH<|jB<|kx [(14,(vl 83 7 kM (ts.getD i [])))] [] (zE (xX yR i ([]:List (kV)))<|zE (xZ sh23)<|zM<|zZ) ?_
      refine jB ?_
      rcases hdz:(dzT (List.map yF xs) (ts.getD i [])) with _ | _
      ·refine kx [(15,(vl 45 4 jK (vT xs (ts.getD i [])))),(16,(jP 0))] [] (zM<|zM<|zE (jY (p_grd (ts.getD i []) (uC (P:=vR 1048576) hts (show i<ts.length by omega)) xs hx (tame_run hTi hdz) hxb))<|zM<|zE uT<|zE uT<|zM<|zM<|zZ) ?_
       refine jB<|jB<|kx [(72,(vb false))] [] (zM<|zE (vW false nW)<|zZ) ?_
       refine kU ?_
       refine jD<|kf [(12,(.own 0 24 1 ((o++[(vT xs (ts.getD i []))]).length)))] [(0,some (bm jI (o++[(vT xs (ts.getD i []))])))] (zM<|zM<|zE (cN iG bX zo24)<|zA jI o [(vT xs (ts.getD i []))] rfl iG bX by24<|zM<|zF) ?_
       refine kx [(61,(jP (i+1)))] [] (zE (vC (i+1))<|zM<|zZ) ?_
       exact ⟨(i+1,o++[vT xs (ts.getD i [])]),wk,⟨by omega,by rw[ho];exact mS (by omega),fst_up0 (by omega) hd (dzC_n hdz)⟩,(by first|omega|(dsimp only;omega))⟩
      ·refine kx [(15,(vl 45 4 jK [])),(16,(jP 14))] [] (zM<|zM<|zE (jY (p_grdF (ts.getD i []) (uC (P:=vR 1048576) hts (show i<ts.length by omega)) xs hx (tame_fail hTi hdz) hxb))<|zM<|zE uT<|zE uT<|zM<|zM<|zZ) ?_
       refine jB<|jB<|kx [(72,(vb true))] [] (zM<|zE (vW true nW)<|zZ) ?_
       refine uY ?_
       refine jB<|kx [(6,(vl 24 1 jI [])),(7,(jP 14))] [] (zM<|zE (dD 24 1)<|zM<|zZ) ?_
       refine jE ⟨_,(.tmp (d:=(.sl 24 1 (List.map jI []))) rfl (.tmp (d:=(.val (.int .i64 (((14:Nat):Int))))) rfl .nil)),?_⟩
       rw[← tbE3 hc1 (by omega) (by omega) hd hdz];rfl
     ·replace h6:=uR h6
      exact absurd (tbE4 hc1 (by omega) (by rw[show i=ts.length by omega,List.take_length] at hd;exact hd)) hE
theorem cb25:callB Tryz.prog 25=true:=by kernel_rfl
theorem p_varR(t:List kV)(ht:vR 1048576 t)(l:List jQ)(hl:vG 1048576 l)(q:List (List jQ))(hq:vN 1048576 q)(hv1:(gC l&&decide (gS q=0))=false)(hxb:l.length≤1048576):jR Tryz.prog 22 [(.sl 83 7 (List.map kM t)),(.sl 45 4 (List.map jK l)),(.sl 24 1 (List.map jI q))] (.tup [(jK kZ),(.val (.int .i64 ((((aG l q):Nat):Int))))]):=by
 have hts:∀ u∈[t],vR 1048576 u:=one_of ht
 have hz1:(gC l&&decide (gS q=0))=true→[t].length=0:=fun e=>absurd (hv1.symm.trans e) (by decide)
 have hc0:=rawC_0 (l:=l) (q:=q)
 refine jJ Tryz.func22 rfl cb22 rfl ?_
 show qG _ _ _ _ ⟨[(0,(vl 83 7 kM t)),(1,(vl 45 4 jK l)),(2,(vl 24 1 jI q))],[]⟩
 refine jB<|kx [(6,(.ref 0 0))] [(0,some (bx (jK kZ)))] (zN (qV 0 qU qY)<|zM<|zZ) ?_
 refine jB<|kx [(8,(vl 24 1 jI [])),(9,(jP (aG l q)))] [] (zM<|zE (cN yR ze23 zo23)<|zM<|zM<|zE (jY (p_tabR [t] hts l hl q hq hz1 hxb))<|zM<|zE uT<|zE uT<|zM<|zM<|zZ) ?_
 refine jB<|jB<|kx [(19,(vb true))] [] (zM<|zE (vW true nW (by exact bne_iff_ne.2 (by have hx:=hc0;omega)))<|zZ) ?_
 refine uY ?_
 refine jB<|kx [(7,(jP (aG l q)))] [(0,some (bx (jK kZ)))] (zE (eX pl45 qU qY)<|zM<|zT (qA jS)<|zM<|zZ) ?_
 refine jE ⟨_,(kH (cs:=(bx (jK kZ))) (d:=(jK kZ)) rfl rfl jS rfl rfl (.tmp (d:=(.val (.int .i64 ((((aG l q):Nat):Int))))) rfl .nil)),?_⟩
 rfl
theorem p_varE(t:List kV)(ht:vR 1048576 t)(xs:List Rat)(hx:∀ q∈xs,QL q 1048576)(q:List (List jQ))(hq:vN 1048576 q)(hE:tbC xs q [t]≠0)(hr0:gJ q q.length (q.getD 0 []).length)(hT:tmN xs t=0→mW (List.map yF xs) t)(hxb:xs.length≤1000000):jR Tryz.prog 22 [(.sl 83 7 (List.map kM t)),(.sl 45 4 (List.map jK (List.map jN xs))),(.sl 24 1 (List.map jI q))] (.tup [(jK kZ),(.val (.int .i64 ((((tbC xs q [t]):Nat):Int))))]):=by
 have hts:∀ u∈[t],vR 1048576 u:=one_of ht
 have hTm:∀ u∈[t],tmN xs u=0→mW (List.map yF xs) u:=one_of (P:=fun u=>tmN xs u=0→mW (List.map yF xs) u) hT
 refine jJ Tryz.func22 rfl cb22 rfl ?_
 show qG _ _ _ _ ⟨[(0,(vl 83 7 kM t)),(1,(vl 45 4 jK (List.map jN xs))),(2,(vl 24 1 jI q))],[]⟩
 refine jB<|kx [(6,(.ref 0 0))] [(0,some (bx (jK kZ)))] (zN (qV 0 qU qY)<|zM<|zZ) ?_
 refine jB<|kx [(8,(vl 24 1 jI [])),(9,(jP (tbC xs q [t])))] [] (zM<|zE (cN yR ze23 zo23)<|zM<|zM<|zE (jY (p_tabE [t] hts xs hx q hq hE hr0 hTm (Nat.le_refl 1) (xlb rfl) hxb))<|zM<|zE uT<|zE uT<|zM<|zM<|zZ) ?_
 refine jB<|jB<|kx [(19,(vb true))] [] (zM<|zE (vW true nW (by exact bne_iff_ne.2 (by have hx:=hE;omega)))<|zZ) ?_
 refine uY ?_
 refine jB<|kx [(7,(jP (tbC xs q [t])))] [(0,some (bx (jK kZ)))] (zE (eX pl45 qU qY)<|zM<|zT (qA jS)<|zM<|zZ) ?_
 refine jE ⟨_,(kH (cs:=(bx (jK kZ))) (d:=(jK kZ)) rfl rfl jS rfl rfl (.tmp (d:=(.val (.int .i64 ((((tbC xs q [t]):Nat):Int))))) rfl .nil)),?_⟩
 rfl
theorem p_tab8(ts:List (List kV))(hts:∀ t∈ts,vR 1048576 t)(xs:List Rat)(hx:∀ q∈xs,QL q 1048576)(q:List (List jQ))(hq:vN 1048576 q)(hjs:∀ t∈ts,JRunP (List.map yF xs) t)(hr:gJ q q.length xs.length)(hf:mV q xs.length=0)(hxq:xs.length=q.length)(h1:1≤ts.length)(h64:ts.length≤64)(h8:q.length≤8):jR Tryz.prog 18 [(.sl 23 1 (List.map kL ts)),(.sl 45 4 (List.map jK (List.map jN xs))),(.sl 24 1 (List.map jI q))] (.tup [(.sl 24 1 (List.map jI (eA q (List.map (vT xs) ts)))),(.val (.int .i64 (((0:Nat):Int))))]):=p_tab ts hts xs hx q hq hjs hr hf hxq h1 h64
theorem p_var8(t:List kV)(ht:vR 1048576 t)(xs:List Rat)(hx:∀ q∈xs,QL q 1048576)(q:List (List jQ))(hq:vN 1048576 q)(hj:JRunP (List.map yF xs) t)(hr:gJ q q.length xs.length)(hf:mV q xs.length=0)(hxq:xs.length=q.length)(h8:q.length≤8):jR Tryz.prog 22 [(.sl 83 7 (List.map kM t)),(.sl 45 4 (List.map jK (List.map jN xs))),(.sl 24 1 (List.map jI q))] (.tup [(jK (jN (dW q (vT xs t) (vT xs t)))),(.val (.int .i64 (((0:Nat):Int))))]):=p_var t ht xs hx q hq hj hr hf hxq
theorem d_cov(a:List jQ)(ha:vG 1048576 a)(b:List jQ)(hb:vG 1048576 b)(q:List (List jQ))(hq:vN 1048576 q)(hr:gJ q q.length b.length)(hal:a.length=q.length)(hq8:q.length≤8)(hb8:b.length≤8):jR Tryz.prog 25 [(.sl 45 4 (List.map jK a)),(.sl 45 4 (List.map jK b)),(.sl 24 1 (List.map jI q))] (jK (jN (dW q a b))):=by
 let y1:=kZ
 refine jJ Tryz.func25 rfl cb25 rfl ?_
 show qG _ _ _ _ ⟨[(0,(vl 45 4 jK a)),(1,(vl 45 4 jK b)),(2,(vl 24 1 jI q))],[]⟩
 refine jB<|kx [(6,(.ref 0 0))] [(0,some (bx (jK y1)))] (zN (qV 0 qU qY)<|zZ) ?_
 refine jB<|kx [(7,(.ref 1 0))] [(1,some (bx (jK (jN ((0:Int):Rat)))))] (zE (jY (hH 0 (by decide) (by decide)))<|zN (qV 1 qU qY)<|zT (qA jS)<|zZ) ?_
 refine jB<|jB<|kx [(12,(jP a.length)),(13,(jP 0))] [] (zM<|zE (uW uE)<|zM<|zZ) ?_
 refine jH<|kA (α:=Nat × Rat) (fun (i,s)=>⟨[(0,(vl 45 4 jK a)),(1,(vl 45 4 jK b)),(2,(vl 24 1 jI q)),(6,(.ref 0 0)),(7,(.ref 1 0)),(12,(jP a.length)),(13,(jP i))],[(0,some (bx (jK y1))),(1,some (bx (jK (jN s))))]⟩) (fun (i,s)=>i≤a.length∧s=covA q a b i) (fun (i,s)=>a.length-i) (0,((0:Int):Rat)) wk ⟨Nat.zero_le _,rfl⟩ ?_
 rintro ⟨i,s⟩ ⟨hi,hs⟩
 refine jB<|kx [(14,(vb (decide (((i:Nat):Int)<((a.length:Nat):Int)))))] [] (zE xK<|zZ) ?_
 refine jB<|jG rfl (fun h1=>?_) (fun h1=>?_)
 ·replace h1:=uP h1
  obtain ⟨hri,hrv⟩:=hr.at (show i<q.length by omega)
  refine jD<|jB<|jH<|jB<|kx [(8,(jP i))] [] (zM<|zM<|zZ) ?_
  refine jB<|kx [(17,(jP b.length)),(18,(jP 0))] [] (zM<|zE (uW uE)<|zM<|zZ) ?_
  refine jH<|kA (α:=Nat × Rat) (fun (j,u)=>⟨[(0,(vl 45 4 jK a)),(1,(vl 45 4 jK b)),(2,(vl 24 1 jI q)),(6,(.ref 0 0)),(7,(.ref 1 0)),(8,(jP i)),(12,(jP a.length)),(13,(jP i)),(17,(jP b.length)),(18,(jP j))],[(0,some (bx (jK y1))),(1,some (bx (jK (jN u))))]⟩) (fun (j,u)=>j≤b.length∧u=(covA q a b i+covJ q a b i j)) (fun (j,u)=>b.length-j) (0,s) wk ⟨Nat.zero_le _,by rw[hs];show _=_+(0:Rat);grind⟩ ?_
  rintro ⟨j,u⟩ ⟨hj,hu⟩
  refine jB<|kx [(19,(vb (decide (((j:Nat):Int)<((b.length:Nat):Int)))))] [] (zE xK<|zZ) ?_
  refine jB<|jG rfl (fun h2=>?_) (fun h2=>?_)
  ·replace h2:=uP h2
   refine jD<|jB<|jH<|jB<|kx [(9,(jP j))] [] (zM<|zM<|zZ) ?_
   refine kd [] [(1,some (bx (jK (jN (u+((qP ((q.getD i []).getD j y1))*((qP (a.getD i y1))*(qP (b.getD j y1)))))))))] mo (wR (kK jS)<|wM<|wM<|wE (xX zW i ([]:List (jQ)))<|wE (xZ mR)<|wM<|wE (xX uE j y1 (L:=(q.getD i [])))<|wE (gE jS)<|wM<|wM<|wE (xX uE i y1)<|wE (gE jS)<|wM<|wM<|wE (xX uE j y1)<|wE (gE jS)<|wE (jY (g_mul (a.getD i y1) (b.getD j y1) (qP (a.getD i y1)) (qP (b.getD j y1)) (jO (vE ha.1 (show i<a.length by omega)) (by decide)) (jO (vE hb.1 (show j<b.length by omega)) (by decide))))<|wE (jY (g_mul ((q.getD i []).getD j y1) (jN ((qP (a.getD i y1))*(qP (b.getD j y1)))) (qP ((q.getD i []).getD j y1)) ((qP (a.getD i y1))*(qP (b.getD j y1))) (jO (vE (xA (d:=[]) hq (show i<q.length by omega)).1 (show j<(q.getD i []).length by omega)) (by decide)) (jO (jZ (qM (k:=2097152) (vE ha.1 (show i<a.length by omega)).ql (vE hb.1 (show j<b.length by omega)).ql (by decide))) (by decide))))<|wE (jY (g_add (jN u) (jN ((qP ((q.getD i []).getD j y1))*((qP (a.getD i y1))*(qP (b.getD j y1))))) u ((qP ((q.getD i []).getD j y1))*((qP (a.getD i y1))*(qP (b.getD j y1)))) (jO (jZ (show QL u 268435456 by rw[hu];exact (cov_sum hq ha hb hb8 hq8 (show i<q.length by omega) (show j≤8 by omega)))) (by decide)) (jO (jZ (qM (k:=3145728) (vE (xA (d:=[]) hq (show i<q.length by omega)).1 (show j<(q.getD i []).length by omega)).ql (qM (k:=2097152) (vE ha.1 (show i<a.length by omega)).ql (vE hb.1 (show j<b.length by omega)).ql (by decide)) (by decide))) (by decide))))<|wT (qA jS)<|wZ) ?_
   refine kx [(18,(jP (j+1)))] [] (zE (vC (j+1))<|zM<|zZ) ?_
   exact ⟨(j+1,u+qP ((q.getD i []).getD j kZ)*(qP (a.getD i kZ)*qP (b.getD j kZ))),wk,⟨by omega,by rw[hu];show _=_+(_+_);rw[← Rat.add_assoc];rfl⟩,(by first|omega|(dsimp only;omega))⟩
  ·replace h2:=uR h2
   have hje:j=b.length:=by omega
   refine kB<|kx [(13,(jP (i+1)))] [] (zE (vC (i+1))<|zM<|zZ) ?_
   exact ⟨(i+1,u),wk,⟨by omega,by rw[hu,hje];rfl⟩,(by first|omega|(dsimp only;omega))⟩
 ·replace h1:=uR h1
  refine kB<|jB<|kx [] [(0,some (bx (jK (jN s))))] (zR (kK jS)<|zT (qA jS)<|zZ) ?_
  refine jE ⟨_,(kH (cs:=(bx (jK (jN s)))) (d:=(jK (jN s))) rfl rfl jS rfl rfl .nil),?_⟩
  rw[hs,show i=a.length by omega,cov_all hr hal];rfl
end Go.Proofs.YtnajallgoaiahaaGreatDoor
namespace Go.Fid
theorem den_pos(u:Rat):((u.den:Nat):Int)≠0:=by have:=u.den_pos;omega
end Go.Fid
namespace Go.Proofs.YtnajallgoaiahaaGreatDoor
open Go.Fid
theorem cb148:callB Tryz.prog 148=true:=by kernel_rfl
theorem cb228:callB Tryz.prog 228=true:=by kernel_rfl
theorem f_counted(x:qB)(a:Int)(hx:gO x a 68719476736):jR Tryz.prog 228 [(jT x)] (jT (kN a)):=by
 refine jJ Tryz.func228 rfl cb228 rfl ?_
 show qG _ _ _ _ ⟨[(0,(.d (jT x)))],[]⟩
 refine jB<|kx [(1,(.ref 0 0)),(2,(.ref 1 0))] [(0,some (bx (jT x))),(1,some (bx (jT (qB.mk false []))))] (zN (vA 0)<|zN (qV 1 gD gB)<|zZ) ?_
 refine jB<|jB<|kx [(4,(vb (uV x)))] [] (zR (kK kF)<|zE (jY (t_valid x (Nat.le_trans hx.l (by decide))))<|zZ) ?_
 refine jG (b:=(uV x)) rfl (fun h1=>?_) (fun h1=>?_)
 ·refine jB<|kx [] [(1,some (bx (jT x)))] (zR (kK kF)<|zT (qA kF)<|zZ) ?_
  refine jE ⟨_,(kH (cs:=(bx (jT x))) (d:=(jT x)) rfl rfl kF rfl rfl .nil),?_⟩
  rw[← hx.v,ofZ_toZ h1];rfl
 ·refine jD<|jB<|kx [] [(1,some (bx (jT (kN 0))))] (zE (jY (t_of 0 (by decide) (by decide)))<|zT (qA kF)<|zZ) ?_
  refine jE ⟨_,(kH (cs:=(bx (jT (kN 0)))) (d:=(jT (kN 0))) rfl rfl kF rfl rfl .nil),?_⟩
  rw[← hx.v,toZ_bad h1,ofZ_zero];rfl
theorem f_newO(num:qB)(a:Int)(aE:gO num a 68719476736)(den:qB)(b:Int)(eJ:gO den b 68719476736)(hb:b≠0):jR Tryz.prog 148 [(jT num),(jT den)] (.tup [(jK (jN (Rat.divInt a b))),(.val (.int .i64 (0)))]):=by
 refine jJ Tryz.func148 rfl cb148 rfl ?_
 show qG _ _ _ _ ⟨[(0,(.d (jT num))),(1,(.d (jT den)))],[]⟩
 refine jB<|kx [(2,(.ref 0 0)),(3,(.ref 1 0)),(4,(.ref 2 0))] [(0,some (bx (jT num))),(1,some (bx (jT den))),(2,some (bx (jK kZ)))] (zN (vA 0)<|zN (vA 1)<|zN (qV 2 qU qY)<|zM<|zZ) ?_
 refine jB<|kd [] [(0,some (bx (jT (kN a)))),(1,some (bx (jT (kN b))))] mo (wR (kK kF)<|wE (jY (f_counted num a aE))<|wR (kK kF)<|wE (jY (f_counted den b eJ))<|wT (qA kF)<|wT (qA kF)<|wZ) ?_
 refine jB<|jB<|kx [(12,(vb false))] [] (zR (kK kF)<|zE (jY (s_sign (cE (gO.ln eJ)) (by decide)))<|zE (vW false xR (by exact beq_eq_false_iff_ne.2 (signI_ne hb)))<|zZ) ?_
 refine kU ?_
 refine jD<|jB<|kx [(5,(jP 0))] [(2,some (bx (jK (jN (Rat.divInt a b)))))] (zR (kK kF)<|zR (kK kF)<|zE (jY (cU (kN a) (kN b) a b (cE (gO.ln aE)) (cE (gO.ln eJ)) (by assumption)))<|zT (qA jS)<|zM<|zZ) ?_
 refine jE ⟨_,(kH (cs:=(bx (jK (jN (Rat.divInt a b))))) (d:=(jK (jN (Rat.divInt a b)))) rfl rfl jS rfl rfl (.tmp (d:=(.val (.int .i64 (0)))) rfl .nil)),?_⟩
 rfl
theorem g_zeroT :jR Tryz.prog 23 [(jK kZ)] (.val (.bool (true))):=by
 refine jJ Tryz.func23 rfl cb23 rfl ?_
 show qG _ _ _ _ ⟨[(0,(.d (jK kZ)))],[]⟩
 refine jB<|kx [(1,(.ref 0 0))] [(0,some (bx (jK kZ)))] (zN (vA 0)<|zM<|zZ) ?_
 refine jB<|kx [(2,(vb true))] [] (zE (kY xU)<|zE (kY vL)<|zR (uM aX)<|zE mD<|zM<|zE (kY xJ)<|zE (kY vL)<|zR (uM aX)<|zE mD<|zE gR<|zM<|zE (kY xU)<|zE (kY vS)<|zR (uM yB)<|zE (oLn kO 0)<|zE (vW true xR)<|zE gR<|zM<|zE (kY xJ)<|zE (kY vS)<|zR (uM yB)<|zE (oLn kO 0)<|zE (vW true xR)<|zE gR<|zM<|zZ) ?_
 refine jE ⟨_,(.tmp (d:=(.val (.bool (true)))) rfl .nil),?_⟩
 rfl
end Go.Proofs.YtnajallgoaiahaaGreatDoor
