/- Part 12 of a proof: rules, plain facts, and functions walked. -/
import Derived.Test.YtckccjhflbljgaaGreatDoorM11
import Derived.Test.YtckccjhflbljgaaGreatDoorM8
import Derived.Test.YtckccjhflbljgaaGreatDoorChecked
import Derived.LoopNIn
set_option linter.all false
namespace Go.Fid
def hasQ(p q x:Rat):Bool:=decide (p<=x)&&decide (x<=q)
theorem hasQ_eq(p q x:Rat):(decide (gC p x<=0)&&decide (gC x q<=0))=hasQ p q x:=by
 unfold hasQ
 rw[Bool.eq_iff_iff,Bool.and_eq_true,Bool.and_eq_true,decide_eq_true_eq,decide_eq_true_eq,decide_eq_true_eq,decide_eq_true_eq,cmpQ_le,cmpQ_le]
theorem hasQ_of{p q x:Rat}(h1:p<=x)(h2:x<=q):hasQ p q x=true:=by
 unfold hasQ;rw[decide_eq_true h1,decide_eq_true h2];rfl
theorem yB{p q x:Rat}:hasQ p q x=true↔p<=x/\x<=q:=by
 unfold hasQ;rw[Bool.and_eq_true,decide_eq_true_eq,decide_eq_true_eq]
theorem fQ{a b c:Rat}(h:a<=b)(hc:c<=0):b*c<=a*c:=by
 have h1:=Rat.mul_le_mul_of_nonneg_right h (c:=-c) (by rw[<- Rat.neg_zero];exact Rat.neg_le_neg hc)
 rw[Rat.mul_neg,Rat.mul_neg] at h1
 exact Rat.neg_le_neg_iff.1 h1
theorem mul_anti_l{a b c:Rat}(h:a<=b)(hc:c<=0):c*b<=c*a:=by
 rw[Rat.mul_comm c b,Rat.mul_comm c a];exact fQ h hc
theorem side_r{p q x:Rat}(y:Rat)(h1:p<=x)(h2:x<=q):(p*y<=x*y/\x*y<=q*y)\/(q*y<=x*y/\x*y<=p*y):=by
 rcases Rat.le_total (a:=0) (b:=y) with h | h
 ·exact .inl ⟨Rat.mul_le_mul_of_nonneg_right h1 h,Rat.mul_le_mul_of_nonneg_right h2 h⟩
 ·exact .inr ⟨fQ h2 h,fQ h1 h⟩
theorem side_l{r s y:Rat}(x:Rat)(h1:r<=y)(h2:y<=s):(x*r<=x*y/\x*y<=x*s)\/(x*s<=x*y/\x*y<=x*r):=by
 rw[Rat.mul_comm x r,Rat.mul_comm x y,Rat.mul_comm x s]
 exact side_r x h1 h2
theorem mnL_low(l:List Rat):∀ p:Rat,nQ p l<=p/\∀ x∈l,nQ p l<=x:=by
 induction l with
 |nil=>intro p;exact ⟨Rat.le_refl,fun x h=>by cases h⟩
 |cons q l ih=>
  intro p
  have h:nQ p (q::l)=nQ (min p q) l:=rfl
  obtain ⟨a,b⟩:=ih (min p q)
  rw[h]
  have c1:min p q<=p:=by
   rw[Rat.min_def];split
   ·exact Rat.le_refl
   ·exact Rat.le_of_lt (Rat.not_le.1 (by assumption))
  have c2:min p q<=q:=by
   rw[Rat.min_def];split
   ·assumption
   ·exact Rat.le_refl
  refine ⟨Rat.le_trans a c1,fun x hx=>?_⟩
  rcases List.mem_cons.1 hx with e | e
  ·rw[e];exact Rat.le_trans a c2
  ·exact b x e
theorem mxL_upp(l:List Rat):∀ p:Rat,p<=mR p l/\∀ x∈l,x<=mR p l:=by
 induction l with
 |nil=>intro p;exact ⟨Rat.le_refl,fun x h=>by cases h⟩
 |cons q l ih=>
  intro p
  have h:mR p (q::l)=mR (max p q) l:=rfl
  obtain ⟨a,b⟩:=ih (max p q)
  rw[h]
  have c1:p<=max p q:=by
   rw[Rat.max_def];split
   ·assumption
   ·exact Rat.le_refl
  have c2:q<=max p q:=by
   rw[Rat.max_def];split
   ·exact Rat.le_refl
   ·exact Rat.le_of_lt (Rat.not_le.1 (by assumption))
  refine ⟨Rat.le_trans c1 a,fun x hx=>?_⟩
  rcases List.mem_cons.1 hx with e | e
  ·rw[e];exact Rat.le_trans c2 a
  ·exact b x e
theorem low4(a b c d:Rat):nQ a [b,c,d]<=a/\nQ a [b,c,d]<=b/\nQ a [b,c,d]<=c/\nQ a [b,c,d]<=d:=by
 obtain ⟨h,g⟩:=mnL_low [b,c,d] a
 exact ⟨h,g b (by simp),g c (by simp),g d (by simp)⟩
theorem upp4(a b c d:Rat):a<=mR a [b,c,d]/\b<=mR a [b,c,d]/\c<=mR a [b,c,d]/\d<=mR a [b,c,d]:=by
 obtain ⟨h,g⟩:=mxL_upp [b,c,d] a
 exact ⟨h,g b (by simp),g c (by simp),g d (by simp)⟩
theorem mul_between{p q r s x y l h:Rat}(hx1:p<=x)(hx2:x<=q)(hy1:r<=y)(hy2:y<=s)(hl:l<=p*r/\l<=p*s/\l<=q*r/\l<=q*s)(hh:p*r<=h/\p*s<=h/\q*r<=h/\q*s<=h):l<=x*y/\x*y<=h:=by
 obtain ⟨l1,l2,l3,l4⟩:=hl
 obtain ⟨k1,k2,k3,k4⟩:=hh
 have hp:l<=p*y/\p*y<=h:=by
  rcases side_l p hy1 hy2 with ⟨a,b⟩ | ⟨a,b⟩
  ·exact ⟨Rat.le_trans l1 a,Rat.le_trans b k2⟩
  ·exact ⟨Rat.le_trans l2 a,Rat.le_trans b k1⟩
 have hq:l<=q*y/\q*y<=h:=by
  rcases side_l q hy1 hy2 with ⟨a,b⟩ | ⟨a,b⟩
  ·exact ⟨Rat.le_trans l3 a,Rat.le_trans b k4⟩
  ·exact ⟨Rat.le_trans l4 a,Rat.le_trans b k3⟩
 rcases side_r y hx1 hx2 with ⟨a,b⟩ | ⟨a,b⟩
 ·exact ⟨Rat.le_trans hp.1 a,Rat.le_trans b hq.2⟩
 ·exact ⟨Rat.le_trans hq.1 a,Rat.le_trans b hp.2⟩
theorem has_mul{p q r s x y:Rat}(hx:p<=x/\x<=q)(hy:r<=y/\y<=s):hasQ (nQ (p*r) [(p*s),(q*r),(q*s)]) (mR (p*r) [(p*s),(q*r),(q*s)]) (x*y)=true:=by
 obtain ⟨a,b⟩:=mul_between hx.1 hx.2 hy.1 hy.2 (low4 _ _ _ _) (upp4 _ _ _ _)
 exact hasQ_of a b
theorem has_add{p q r s x y:Rat}(hx:p<=x/\x<=q)(hy:r<=y/\y<=s):hasQ (p+r) (q+s) (x+y)=true :=
 hasQ_of (Rat.le_trans (Rat.add_le_add_right.2 hx.1) (Rat.add_le_add_left.2 hy.1)) (Rat.le_trans (Rat.add_le_add_right.2 hx.2) (Rat.add_le_add_left.2 hy.2))
theorem has_sub{p q r s x y:Rat}(hx:p<=x/\x<=q)(hy:r<=y/\y<=s):hasQ (p-s) (q-r) (x-y)=true:=by
 rw[Rat.sub_eq_add_neg,Rat.sub_eq_add_neg,Rat.sub_eq_add_neg]
 exact has_add hx ⟨Rat.neg_le_neg hy.2,Rat.neg_le_neg hy.1⟩
theorem inv_anti{a b:Rat}(h:a<=b)(hp:0<a*b)(ha:a≠0)(hb:b≠0):b⁻¹<=a⁻¹:=by
 refine Rat.le_of_mul_le_mul_right (c:=a*b) ?_ hp
 rw[Rat.mul_comm a b,<- Rat.mul_assoc,Rat.inv_mul_cancel b hb,Rat.one_mul,Rat.mul_comm b a,<- Rat.mul_assoc,Rat.inv_mul_cancel a ha,Rat.one_mul]
 exact h
theorem neg_pos_mul{a b:Rat}(ha:a<0)(hb:b<0):0<a*b:=by
 have h:=Rat.mul_pos (a:=-a) (b:=-b) (Rat.neg_zero▸Rat.neg_lt_neg ha) (Rat.neg_zero▸Rat.neg_lt_neg hb)
 rwa [Rat.neg_mul,Rat.mul_neg,Rat.neg_neg] at h
theorem zeroG_sides{r s:Rat}(hz:xI r s=false):0<r\/s<0:=by
 unfold xI at hz
 rw[Bool.and_eq_false_iff,decide_eq_false_iff_not,decide_eq_false_iff_not,Rat.not_le,Rat.not_le] at hz
 exact hz
theorem zeroG_in{r s y:Rat}(hz:xI r s=false)(hy:r<=y/\y<=s):y≠0:=by
 intro e
 subst e
 rcases zeroG_sides hz with h | h
 ·exact absurd hy.1 (Rat.not_le.2 h)
 ·exact absurd hy.2 (Rat.not_le.2 h)
theorem inv_in{r s y:Rat}(hz:xI r s=false)(hy:r<=y/\y<=s):s⁻¹<=y⁻¹/\y⁻¹<=r⁻¹:=by
 have hy0:=zeroG_in hz hy
 obtain ⟨hr0,hs0⟩:=zeroG_ne (Rat.le_trans hy.1 hy.2) hz
 rcases zeroG_sides hz with h | h
 ·have h1:0<y:=Std.lt_of_lt_of_le h hy.1
  have h2:0<s:=Std.lt_of_lt_of_le h1 hy.2
  exact ⟨inv_anti hy.2 (Rat.mul_pos h1 h2) hy0 hs0,inv_anti hy.1 (Rat.mul_pos h h1) hr0 hy0⟩
 ·have h1:y<0:=Std.lt_of_le_of_lt hy.2 h
  have h2:r<0:=Std.lt_of_le_of_lt hy.1 h1
  exact ⟨inv_anti hy.2 (neg_pos_mul h1 h) hy0 hs0,inv_anti hy.1 (neg_pos_mul h2 h1) hr0 hy0⟩
theorem has_div{p q r s x y:Rat}(hz:xI r s=false)(hx:p<=x/\x<=q)(hy:r<=y/\y<=s):hasQ (nQ (p / r) [(p / s),(q / r),(q / s)]) (mR (p / r) [(p / s),(q / r),(q / s)]) (x / y)=true:=by
 obtain ⟨i1,i2⟩:=inv_in hz hy
 obtain ⟨a1,a2,a3,a4⟩:=low4 (p / r) (p / s) (q / r) (q / s)
 obtain ⟨b1,b2,b3,b4⟩:=upp4 (p / r) (p / s) (q / r) (q / s)
 obtain ⟨a,b⟩:=mul_between (p:=p) (q:=q) (r:=s⁻¹) (s:=r⁻¹) (x:=x) (y:=y⁻¹) hx.1 hx.2 i1 i2 ⟨a2,a1,a4,a3⟩ ⟨b2,b1,b4,b3⟩
 exact hasQ_of a b
theorem has_sq{p q x:Rat}(hx:p<=x/\x<=q):hasQ (sqL p q) (sqH p q) (x*x)=true:=by
 have lo:=mnL_low [q*q] (p*p)
 have hi:=mxL_upp [q*q] (p*p)
 refine hasQ_of ?_ ?_
 ·unfold sqL
  split
  ·exact rat_sq x
  ·rename_i hz
   rcases zeroG_sides (Bool.eq_false_iff.2 hz) with h | h
   ·have h0:0<=x:=Rat.le_trans (Rat.le_of_lt h) hx.1
    refine Rat.le_trans lo.1 (Rat.le_trans (Rat.mul_le_mul_of_nonneg_right hx.1 (Rat.le_of_lt h)) (Rat.mul_le_mul_of_nonneg_left hx.1 h0))
   ·have h0:x<=0:=Rat.le_trans hx.2 (Rat.le_of_lt h)
    exact Rat.le_trans (lo.2 _ (by simp)) (Rat.le_trans (fQ hx.2 (Rat.le_of_lt h)) (mul_anti_l hx.2 h0))
 ·unfold sqH
  rcases Rat.le_total (a:=0) (b:=x) with h | h
  ·exact Rat.le_trans (Rat.le_trans (Rat.mul_le_mul_of_nonneg_left hx.2 h) (Rat.mul_le_mul_of_nonneg_right hx.2 (Rat.le_trans h hx.2))) (hi.2 _ (by simp))
  ·exact Rat.le_trans (Rat.le_trans (fQ hx.1 h) (mul_anti_l hx.1 (Rat.le_trans hx.1 h))) hi.1
def atQ(p q:Rat)(k:Nat):Rat:=p+Rat.divInt ((k % 17:Nat):Int) 16*(q-p)
theorem part_in(k:Nat):0<=Rat.divInt ((k % 17:Nat):Int) 16/\Rat.divInt ((k % 17:Nat):Int) 16<=1:=by
 have h:k % 17<17:=Nat.mod_lt _ (by decide)
 generalize k % 17=m at h
 have h2:∀ m:Fin 17,0<=Rat.divInt ((m.1:Nat):Int) 16/\Rat.divInt ((m.1:Nat):Int) 16<=1:=by decide +kernel
 exact h2 ⟨m,h⟩
theorem at_in{p q:Rat}(h:p<=q)(k:Nat):p<=atQ p q k/\atQ p q k<=q:=by
 obtain ⟨a,b⟩:=part_in k
 have h0:0<=q-p:=(Rat.le_iff_sub_nonneg p q).1 h
 unfold atQ
 generalize Rat.divInt ((k % 17:Nat):Int) 16=t at a b
 constructor
 ·have h1:=Rat.add_le_add_left (c:=p).2 (Rat.mul_nonneg a h0)
  rwa [Rat.add_zero] at h1
 ·have h1:=Rat.add_le_add_left (c:=p).2 (Rat.mul_le_mul_of_nonneg_right b h0)
  rwa [Rat.one_mul,Rat.add_comm p (q-p),Rat.sub_add_cancel] at h1
theorem bJ{p q r s:Rat}(h1:p<=q)(h2:r<=s):p+r<=q+s:=Rat.le_trans (Rat.add_le_add_right.2 h1) (Rat.add_le_add_left.2 h2)
theorem sub_valid{p q r s:Rat}(h1:p<=q)(h2:r<=s):p-s<=q-r:=by
 rw[Rat.sub_eq_add_neg,Rat.sub_eq_add_neg];exact bJ h1 (Rat.neg_le_neg h2)
theorem ql_at{p q:Rat}{m n:Nat}(k:Nat)(hp:QL p m)(hq:QL q n):QL (atQ p q k) (m+(3+(m+n+1))+1):=by
 unfold atQ
 have h:k % 17<17:=Nat.mod_lt _ (by decide)
 refine ql_add hp (vZ (yQ (n:=3) (uE (by omega) (by omega)) (uE)) (yD (k:=m+n+1) hq hp (by omega)) (Nat.le_refl _)) (Nat.le_refl _)
abbrev vi (z:Int):SV:=.d (.val (.int .i64 z))
abbrev jT (n:Nat):SV:=.d (.val (.int .i64 (n:Int)))
abbrev gN (n:Nat):SV:=.d (.val (.int .u64 (n:Int)))
abbrev iE (n:Nat):SV:=.d (.val (.int .u32 (n:Int)))
abbrev vq (z:Int):SV:=.d (.val (.int .u64 z))
abbrev vb (b:Bool):SV:=.d (.val (.bool b))
abbrev vl {α:Type} (E z:Nat) (F:α->jQ) (L:List α):SV:=.d (.sl E z (L.map F))
abbrev bm {α:Type} (F:α->jQ) (L:List α):List SV:=L.map (fun g=>SV.d (F g))
section
variable {P:Program} {n:Fr} {ops:Array Oper} {S S':SL} {B B':BS} {l:List Oper} {o:Oper} {news:List Nat} {acc0:List (List Nat × List Nat)}
end
theorem fillL_all{s:Nat}:∀ (ds:List jQ) (k:Nat) (a z:List jQ),a.length=k*s->z.length=ds.length*s->(∀ d∈ds,d.cells.length=s) ->
  aT (fun i=>some (i*s,s)) (a++z) ((ds.zipIdx k).map fun p=>(p.2,p.1.cells))=some (a++qD ds)
 |[],k,a,z,ha,hz,_=>by
  have:z=[]:=List.eq_nil_of_length_eq_zero (by simpa using hz)
  subst this;simp [aT,qD]
 |d::ds,k,a,z,ha,hz,hs=>by
  have hd:=hs d (by simp)
  have hz':z.length=s+ds.length*s:=by rw[hz,List.length_cons,Nat.add_mul];omega
  rw[List.zipIdx_cons,List.map_cons]
  simp only[aT]
  have h1:(Nat.beq d.cells.length s&&Nat.ble (k*s+d.cells.length) (a++z).length)=true:=by
   rw[Bool.and_eq_true]
   refine ⟨by rw[hd];exact Nat.beq_refl s,Nat.ble_eq_true_of_le ?_⟩
   rw[List.length_append,ha,hd];omega
  rw[h1,cond_true]
  have h2:patch (a++z) (k*s) d.cells=(a++d.cells)++z.drop s:=by
   unfold patch
   rw[<- ha,List.take_left,hd]
   congr 1
   rw[List.drop_append,List.drop_of_length_le (by omega),List.nil_append]
   congr 1;omega
  rw[h2,fillL_all ds (k+1) (a++d.cells) (z.drop s) (by rw[List.length_append,ha,hd,Nat.add_mul];omega) (by rw[List.length_drop];omega) (fun x hx=>hs x (by simp [hx])),mI,List.append_assoc]
theorem e_bldF{P:Program}{o:Oper}{S:Nat->SV}{T E:TypeId}{n s:Nat}{ps:List (Nat × Operand)}{ds:List jQ}{zv:List Value}{zd:List jQ}{y:jQ}(ho:o.op=.build T ps.toArray)(hT:arrB P T=some (n,E,s))(hz:xB P T=some zv)(hzd:dR zv zd)
  (hps:ps.map (fun p=>(p.1,ev S p.2))=ds.zipIdx.map (fun p=>(p.2,.d p.1))) (hok:ds.all (fun d=>d.ok1)=true) (hs:ds.all (fun d=>Nat.beq d.cells.length s)=true) (hl:Nat.beq zd.length (ds.length*s)=true) (hy:jQ.agg (qD ds)=y):uN P o S [] (.d y):=by
 subst hy
 refine e_build_arr (pd:=ds.zipIdx.map fun p=>(p.2,p.1)) ho hT hz hzd (by rw[hps,List.map_map];rfl) ?_ ?_
 ·rw[List.all_eq_true] at hok ⊢
  intro p hp
  obtain ⟨q,hq,rfl⟩:=List.mem_map.1 hp
  exact hok _ (List.fst_mem_of_mem_zipIdx hq)
 ·have:=fillL_all ds 0 [] zd (by simp) (Nat.eq_of_beq_eq_true hl) (fun d hd=>Nat.eq_of_beq_eq_true (List.all_eq_true.1 hs d hd))
  rw[List.map_map]
  rw[List.nil_append,List.nil_append] at this
  exact this
theorem mA{α:Type}{s:Nat}(F:α->jQ)(L:List α)(hF:∀ g,(F g).cells.length=s):∀ e∈L.map F,e.cells.length=s:=by
 intro e he
 obtain ⟨g,_,rfl⟩:=List.mem_map.1 he
 exact hF g
theorem cH{α:Type}{s:Nat}(F:α->jQ)(L:List α)(hF:∀ g,(F g).cells.length=s){m:Nat}(h:L.length=m):(qS F L).take (m*s)=(qD (L.map F)).map .d:=by
 refine List.take_of_length_le ?_
 rw[List.length_map,cF F hF,h]
 exact Nat.le_refl _
theorem mnL_self(p:Rat)(l:List Rat):nQ p (p::l)=nQ p l:=by
 show nQ (min p p) l=nQ p l
 rw[Rat.min_def];split<;>rfl
theorem mxL_self(p:Rat)(l:List Rat):mR p (p::l)=mR p l:=by
 show mR (max p p) l=mR p l
 rw[Rat.max_def];split<;>rfl
theorem least_start{l:List Rat}(h:0<l.length):l.getD 0 0=nQ (l.getD 0 0) (l.take 1):=by
 cases l with
 |nil=>cases h
 |cons p l=>show p=nQ p (p::l.take 0);rw[mnL_self];rfl
theorem neg_min(a b:Rat):-(min (-a) (-b))=max a b:=by
 rw[Rat.min_def,Rat.max_def]
 by_cases h:a<=b
 ·rw[if_pos h]
  split
  ·rename_i h2
   rw[Rat.neg_neg]
   exact Rat.le_antisymm h (Rat.neg_le_neg_iff.1 h2)
  ·rw[Rat.neg_neg]
 ·rw[if_neg h,if_pos (Rat.neg_le_neg (Rat.le_of_lt (Rat.not_le.1 h))),Rat.neg_neg]
theorem neg_mnL(l:List Rat):∀ p:Rat,-(nQ (-p) (l.map (fun q=>-q)))=mR p l:=by
 induction l with
 |nil=>intro p;exact Rat.neg_neg p
 |cons q l ih=>
  intro p
  show -(nQ (min (-p) (-q)) (l.map (fun q=>-q)))=mR (max p q) l
  rw[<- ih (max p q),<- neg_min p q,Rat.neg_neg]
theorem great_eq{l:List Rat}(h:0<l.length):-(nQ ((l.map (fun q=>-q)).getD 0 0) (l.map (fun q=>-q)))=mR (l.getD 0 0) l:=by
 cases l with
 |nil=>cases h
 |cons p l=>exact neg_mnL (p::l) p
theorem ql_negs{l:List Rat}{n:Nat}(h:∀ q∈l,QL q n):∀ q∈l.map (fun q=>-q),QL q n:=by
 intro q hq
 obtain ⟨r,hr,rfl⟩:=List.mem_map.1 hq
 exact ql_neg (h r hr)
theorem neg_push{l:List Rat}{i:Nat}{o:List qE}(hi:i<l.length)(h:o=List.map jN (List.map (fun q=>-q) (l.take i))):o++[jN (-(l.getD i 0))]=List.map jN (List.map (fun q=>-q) (l.take (i+1))):=by
 rw[h,take_getD hi,List.map_append,List.map_append];rfl
theorem inside_of{p q r s:Rat}(h:r<=p/\q<=s):(decide (r<=p)&&decide (q<=s))=true:=by rw[decide_eq_true h.1,decide_eq_true h.2];rfl
def insQ(p q r s:Rat):Bool:=decide (r<=p)&&decide (q<=s)
theorem insQ_of{p q r s:Rat}(h1:r<=p)(h2:q<=s):insQ p q r s=true:=inside_of ⟨h1,h2⟩
theorem mnL_ge_all{l:List Rat}{p x:Rat}(h0:x<=p)(h:∀ q∈l,x<=q):x<=nQ p l:=by
 rcases mnL_mem l p with e | e
 ·rw[e];exact h0
 ·exact h _ e
theorem mxL_le_all{l:List Rat}{p x:Rat}(h0:p<=x)(h:∀ q∈l,q<=x):mR p l<=x:=by
 rcases mxL_mem l p with e | e
 ·rw[e];exact h0
 ·exact h _ e
theorem mono_mul{p q r s a b c d:Rat}(h1:p<=a/\b<=q)(h2:r<=c/\d<=s)(hab:a<=b)(hcd:c<=d) :
  insQ (nQ (a*c) [(a*d),(b*c),(b*d)]) (mR (a*c) [(a*d),(b*c),(b*d)]) (nQ (p*r) [(p*s),(q*r),(q*s)]) (mR (p*r) [(p*s),(q*r),(q*s)])=true:=by
 have ha:p<=a/\a<=q:=⟨h1.1,Rat.le_trans hab h1.2⟩
 have hb:p<=b/\b<=q:=⟨Rat.le_trans h1.1 hab,h1.2⟩
 have hc:r<=c/\c<=s:=⟨h2.1,Rat.le_trans hcd h2.2⟩
 have hd:r<=d/\d<=s:=⟨Rat.le_trans h2.1 hcd,h2.2⟩
 have m1:=yB.1 (has_mul ha hc)
 have m2:=yB.1 (has_mul ha hd)
 have m3:=yB.1 (has_mul hb hc)
 have m4:=yB.1 (has_mul hb hd)
 refine insQ_of (mnL_ge_all m1.1 ?_) (mxL_le_all m1.2 ?_)<;>intro z hz<;>simp at hz<;>rcases hz with e | e | e<;>rw[e]
 ·exact m2.1
 ·exact m3.1
 ·exact m4.1
 ·exact m2.2
 ·exact m3.2
 ·exact m4.2
theorem mono_div{p q r s a b c d:Rat}(hz:xI r s=false)(h1:p<=a/\b<=q)(h2:r<=c/\d<=s)(hab:a<=b)(hcd:c<=d) :
  insQ (nQ (a / c) [(a / d),(b / c),(b / d)]) (mR (a / c) [(a / d),(b / c),(b / d)]) (nQ (p / r) [(p / s),(q / r),(q / s)]) (mR (p / r) [(p / s),(q / r),(q / s)])=true:=by
 have ha:p<=a/\a<=q:=⟨h1.1,Rat.le_trans hab h1.2⟩
 have hb:p<=b/\b<=q:=⟨Rat.le_trans h1.1 hab,h1.2⟩
 have hc:r<=c/\c<=s:=⟨h2.1,Rat.le_trans hcd h2.2⟩
 have hd:r<=d/\d<=s:=⟨Rat.le_trans h2.1 hcd,h2.2⟩
 have m1:=yB.1 (has_div hz ha hc)
 have m2:=yB.1 (has_div hz ha hd)
 have m3:=yB.1 (has_div hz hb hc)
 have m4:=yB.1 (has_div hz hb hd)
 refine insQ_of (mnL_ge_all m1.1 ?_) (mxL_le_all m1.2 ?_)<;>intro z hz<;>simp at hz<;>rcases hz with e | e | e<;>rw[e]
 ·exact m2.1
 ·exact m3.1
 ·exact m4.1
 ·exact m2.2
 ·exact m3.2
 ·exact m4.2
theorem mono_sq{p q a b:Rat}(h1:p<=a/\b<=q)(hab:a<=b):insQ (sqL a b) (sqH a b) (sqL p q) (sqH p q)=true:=by
 have ha:p<=a/\a<=q:=⟨h1.1,Rat.le_trans hab h1.2⟩
 have hb:p<=b/\b<=q:=⟨Rat.le_trans h1.1 hab,h1.2⟩
 have m1:=yB.1 (has_sq ha)
 have m2:=yB.1 (has_sq hb)
 refine insQ_of ?_ (mxL_le_all m1.2 (fun z hz=>by rw[List.mem_singleton] at hz;rw[hz];exact m2.2))
 have low:∀ x:Rat,a<=x/\x<=b->sqL p q<=x*x:=fun x hx=>(yB.1 (has_sq ⟨Rat.le_trans h1.1 hx.1,Rat.le_trans hx.2 h1.2⟩)).1
 show sqL p q<=sqL a b
 by_cases hz:xI a b=true
 ·have h0:=hz
  unfold xI at h0
  rw[Bool.and_eq_true,decide_eq_true_eq,decide_eq_true_eq] at h0
  rw[show sqL a b=_ from if_pos hz]
  have:=low 0 h0
  rwa [Rat.mul_zero] at this
 ·rw[show sqL a b=_ from if_neg hz]
  exact mnL_ge_all (low a ⟨Rat.le_refl,hab⟩) (fun z hz=>by rw[List.mem_singleton] at hz;rw[hz];exact low b ⟨hab,Rat.le_refl⟩)
def zeroR(x:qE):Bool:=((!x.num.neg&&!x.den.neg)&&(((x.num.gs.length:Nat):Int) == 0))&&(((x.den.gs.length:Nat):Int) == 0)
theorem neg_valid{p q:Rat}(h:p<=q):-q<=-p:=Rat.neg_le_neg h
def kK(x:Rat × Rat):jM:=⟨jN x.1,jN x.2⟩
def GL(n:Nat)(x:Rat × Rat):Prop:=QL x.1 n/\QL x.2 n/\x.1<=x.2
theorem gokl_up{l:List jM}{m n:Nat}(h:∀ a∈l,GOk m a)(hm:m<=n:=by decide):∀ a∈l,GOk n a:=fun a ha=>gP (h a ha) hm
theorem gok_map{L:List (Rat × Rat)}{n:Nat}(h:∀ x∈L,GL n x):∀ a∈List.map kK L,GOk n a:=by
 intro a ha
 obtain ⟨x,hx,rfl⟩:=List.mem_map.1 ha
 have:=h x hx
 exact ⟨qI (jY this.1),qI (jY this.2.1)⟩
theorem valid_map{L:List (Rat × Rat)}{n:Nat}(h:∀ x∈L,GL n x):List.all (List.map kK L) uP=true:=by
 rw[List.all_eq_true]
 intro a ha
 obtain ⟨x,hx,rfl⟩:=List.mem_map.1 ha
 exact xY (h x hx).2.2
theorem gl_getD{L:List (Rat × Rat)}{n:Nat}(h:∀ x∈L,GL n x)(h1:1<=n)(j:Nat):GL n (L.getD j (0,0)):=by
 rw[List.getD]
 cases hj:L[j]? with
 |none=>exact ⟨qY eU h1,qY eU h1,Rat.le_refl⟩
 |some q=>exact h q (List.mem_of_getElem? hj)
structure kC where
 op:Int
 a:Int
 b:Int
 n:qE
def zr:qE:=⟨⟨false,[]⟩,⟨false,[]⟩⟩
def tz:kC:=⟨0,0,0,zr⟩
structure gL where
 value:jM
 grad:List jM
 hess:List (List jM)
structure RMc where
 vars:Int
 order:Int
 places:Int
 jets:List gL
 failed:Bool
abbrev R2:=Rat × Rat
def z2:R2:=(0,0)
def gw(n:Int):R2:=((n:Rat),(n:Rat))
def gpt(q:Rat):R2:=(q,q)
def yI(a b:R2):R2:=(a.1+b.1,a.2+b.2)
def qZ(a b:R2):R2:=(a.1-b.2,a.2-b.1)
def gneg(a:R2):R2:=(-a.2,-a.1)
def uR(a b:R2):R2:=(nQ (a.1*b.1) [(a.1*b.2),(a.2*b.1),(a.2*b.2)],mR (a.1*b.1) [(a.1*b.2),(a.2*b.1),(a.2*b.2)])
def mK(a b:R2):R2:=(nQ (a.1 / b.1) [(a.1 / b.2),(a.2 / b.1),(a.2 / b.2)],mR (a.1 / b.1) [(a.1 / b.2),(a.2 / b.1),(a.2 / b.2)])
def gsq(a:R2):R2:=(sqL a.1 a.2,sqH a.1 a.2)
theorem qQ{a:R2}{m n:Nat}(h:GL m a)(hm:m<=n:=by decide):GL n a:=⟨qY h.1 hm,qY h.2.1 hm,h.2.2⟩
theorem gl_pt{q:Rat}{m:Nat}(h:QL q m):GL m (gpt q):=⟨h,h,Rat.le_refl⟩
theorem gl_w{z:Int}(h1:-9223372036854775808<=z)(h2:z<=9223372036854775807):GL 3 (gw z):=⟨yV (uE h1 h2) (by decide),yV (uE h1 h2) (by decide),Rat.le_refl⟩
theorem gl_add{a b:R2}{m n k:Nat}(ha:GL m a)(hb:GL n b)(h:m+n+1<=k:=by decide):GL k (yI a b):=⟨ql_add ha.1 hb.1 h,ql_add ha.2.1 hb.2.1 h,bJ ha.2.2 hb.2.2⟩
theorem aX{a b:R2}{m n k:Nat}(ha:GL m a)(hb:GL n b)(h:m+n+1<=k:=by decide):GL k (qZ a b):=⟨yD ha.1 hb.2.1 h,yD ha.2.1 hb.1 h,sub_valid ha.2.2 hb.2.2⟩
theorem gl_neg{a:R2}{m:Nat}(ha:GL m a):GL m (gneg a):=⟨ql_neg ha.2.1,ql_neg ha.1,neg_valid ha.2.2⟩
theorem ql_of4{a b c d:Rat}{k:Nat}(h1:QL a k)(h2:QL b k)(h3:QL c k)(h4:QL d k):QL (nQ a [b,c,d]) k/\QL (mR a [b,c,d]) k:=by
 have ml:∀ z∈[b,c,d],QL z k:=by
  intro z hz;simp at hz;rcases hz with e | e | e<;>rw[e]<;>assumption
 exact ⟨ql_mnL h1 ml,ql_mxL h1 ml⟩
theorem gX{a b:R2}{m n k:Nat}(ha:GL m a)(hb:GL n b)(h:m+n<=k:=by decide):GL k (uR a b):=by
 obtain ⟨h1,h2⟩:=ql_of4 (vZ ha.1 hb.1 h) (vZ ha.1 hb.2.1 h) (vZ ha.2.1 hb.1 h) (vZ ha.2.1 hb.2.1 h)
 exact ⟨h1,h2,fU _ _⟩
theorem gl_div{a b:R2}{m n k:Nat}(ha:GL m a)(hb:GL n b)(h:m+n<=k:=by decide):GL k (mK a b):=by
 obtain ⟨h1,h2⟩:=ql_of4 (iY ha.1 hb.1 h) (iY ha.1 hb.2.1 h) (iY ha.2.1 hb.1 h) (iY ha.2.1 hb.2.1 h)
 exact ⟨h1,h2,fU _ _⟩
theorem gl_sq{a:R2}{m k:Nat}(ha:GL m a)(h:m+m<=k):GL k (gsq a):=⟨ql_sqL (vZ ha.1 ha.1 h) (vZ ha.2.1 ha.2.1 h),ql_sqH (vZ ha.1 ha.1 h) (vZ ha.2.1 ha.2.1 h),sqL_le _ _⟩
theorem qC{L:List R2}{n:Nat}(h:∀ x∈L,GL n x)(h1:1<=n)(j:Nat):GL n (L.getD j z2):=gl_getD h h1 j
structure JV where
 v:R2
 g:List R2
def jz:JV:=⟨z2,[]⟩
def qK(x:JV):gL:=⟨kK x.v,x.g.map kK,[]⟩
def nS(N n:Nat)(x:JV):Prop:=GL N x.v/\(∀ y∈x.g,GL N y)/\x.g.length=n
theorem nS.at{N n:Nat}{x:JV}(h:nS N n x)(h1:1<=N)(j:Nat):GL N (x.g.getD j z2):=qC h.2.1 h1 j
theorem eF{α β:Type}(f:α->β)(l:List α)(d:α)(e:β){j:Nat}(h:j<l.length):(l.map f).getD j e=f (l.getD j d):=by
 rw[List.getD_eq_getElem?_getD,List.getElem?_map,List.getD_eq_getElem?_getD,List.getElem?_eq_getElem h];rfl
def jk(V:R2)(G:Nat->R2)(n:Nat):JV:=⟨V,(List.range n).map G⟩
theorem jk_push{G:Nat->R2}{l:List jM}{i:Nat}(h:l=((List.range i).map G).map kK):l++[kK (G i)]=((List.range (i+1)).map G).map kK:=by
 rw[h,List.range_succ,List.map_append,List.map_append];rfl
theorem jk_len{G:Nat->R2}{l:List jM}{i:Nat}(h:l=((List.range i).map G).map kK):l.length=i:=by
 rw[h];simp
theorem jk_ok{V:R2}{G:Nat->R2}{N n:Nat}(hV:GL N V)(hG:∀ i,i<n->GL N (G i)):nS N n (jk V G n):=by
 refine ⟨hV,fun y hy=>?_,by simp [jk]⟩
 obtain ⟨i,hi,rfl⟩:=List.mem_map.1 hy
 exact hG i (List.mem_range.1 hi)
def jA(L:List JV)(z:Int):JV:=L.getD z.toNat jz
def nV(bx:List R2)(L:List JV)(x:kC):R2 :=
 if x.op=0 then gpt (xW x.n)
 else if x.op=1 then bx.getD x.a.toNat z2
 else if x.op=2 then yI (jA L x.a).v (jA L x.b).v
 else if x.op=3 then qZ (jA L x.a).v (jA L x.b).v
 else if x.op=4 then uR (jA L x.a).v (jA L x.b).v
 else if x.op=6 then qZ (gw 0) (jA L x.a).v
 else if x.op=7 then gsq (jA L x.a).v
 else mK (jA L x.a).v (jA L x.b).v
def nG(bx:List R2)(L:List JV)(x:kC)(i:Nat):R2 :=
 if x.op=0 then gw 0
 else if x.op=1 then (if (i:Int)=x.a then gw 1 else gw 0)
 else if x.op=2 then yI ((jA L x.a).g.getD i z2) ((jA L x.b).g.getD i z2)
 else if x.op=3 then qZ ((jA L x.a).g.getD i z2) ((jA L x.b).g.getD i z2)
 else if x.op=4 then yI (uR (jA L x.a).v ((jA L x.b).g.getD i z2)) (uR (jA L x.b).v ((jA L x.a).g.getD i z2))
 else if x.op=6 then qZ (gw 0) ((jA L x.a).g.getD i z2)
 else if x.op=7 then uR (gw 2) (uR (jA L x.a).v ((jA L x.a).g.getD i z2))
 else mK (qZ ((jA L x.a).g.getD i z2) (uR (nV bx L x) ((jA L x.b).g.getD i z2))) (jA L x.b).v
def nJ(bx:List R2)(L:List JV)(x:kC):JV:=jk (nV bx L x) (nG bx L x) bx.length
def jU(bx:List R2)(t:List kC):Nat->List JV
 |0=>[]
 |k+1=>jU bx t k++[nJ bx (jU bx t k) (t.getD k tz)]
theorem cL(bx:List R2)(t:List kC):∀ k,(jU bx t k).length=k
 |0=>rfl
 |k+1=>by rw[jU,List.length_append,cL bx t k];rfl
end Go.Fid
namespace Go.Proofs.YtckccjhflbljgaaGreatDoor
open Go.Fid
def jR(x:kW):jQ:=.agg [.val (.bool x.neg),.sl 107 1 (x.gs.map jC)]
def jK(x:qE):jQ:=.agg [.val (.bool x.num.neg),.sl 107 1 (x.num.gs.map jC),.val (.bool x.den.neg),.sl 107 1 (x.den.gs.map jC)]
def jG(x:jM):jQ:=.agg [.val (.bool x.lo.num.neg),.sl 107 1 (x.lo.num.gs.map jC),.val (.bool x.lo.den.neg),.sl 107 1 (x.lo.den.gs.map jC),.val (.bool x.hi.num.neg),.sl 107 1 (x.hi.num.gs.map jC),.val (.bool x.hi.den.neg),.sl 107 1 (x.hi.den.gs.map jC)]
def jO(x:kC):jQ:=.agg [.val (.int .i64 x.op),.val (.int .i64 x.a),.val (.int .i64 x.b),.val (.bool x.n.num.neg),.sl 107 1 (x.n.num.gs.map jC),.val (.bool x.n.den.neg),.sl 107 1 (x.n.den.gs.map jC)]
def vC(l:List (jM)):jQ:=.sl 42 8 (l.map jG)
def jI(x:gL):jQ:=.agg [.val (.bool x.value.lo.num.neg),.sl 107 1 (x.value.lo.num.gs.map jC),.val (.bool x.value.lo.den.neg),.sl 107 1 (x.value.lo.den.gs.map jC),.val (.bool x.value.hi.num.neg),.sl 107 1 (x.value.hi.num.gs.map jC),.val (.bool x.value.hi.den.neg),.sl 107 1 (x.value.hi.den.gs.map jC),.sl 42 8 (x.grad.map jG),.sl 43 1 (x.hess.map vC)]
structure A3 (α:Type) where
 a0:α
 a1:α
 a2:α
structure A8 (α:Type) where
 a0:α
 a1:α
 a2:α
 a3:α
 a4:α
 a5:α
 a6:α
 a7:α
def xH(x:A8 (Nat)):jQ:=.agg [.val (.int .u8 ((x.a0:Nat):Int)),.val (.int .u8 ((x.a1:Nat):Int)),.val (.int .u8 ((x.a2:Nat):Int)),.val (.int .u8 ((x.a3:Nat):Int)),.val (.int .u8 ((x.a4:Nat):Int)),.val (.int .u8 ((x.a5:Nat):Int)),.val (.int .u8 ((x.a6:Nat):Int)),.val (.int .u8 ((x.a7:Nat):Int))]
def encA130(x:A3 (Int)):jQ:=.agg [.val (.int .i64 x.a0),.val (.int .i64 x.a1),.val (.int .i64 x.a2)]
theorem mo:Tryz.prog.follows .mixedOrders=true:=by kernel_rfl
end Go.Proofs.YtckccjhflbljgaaGreatDoor
namespace Go.Fid
open Go.RowKit (Below)
def aF(P:Program)(n:Fr)(c:Code)(Q:Exit->PS->Prop):Nat->PS->Prop
 |0,_=>False
 |m+1,st=>cZ P n c (PThen (aF P n c Q m) Q) st
theorem pwp_rounds{P:Program}{n:Fr}{c:Code}{Q:Exit->PS->Prop}{st:PS}(m:Nat)(h:aF P n c Q m st):cZ P n (.loop c) Q st:=fun C a w N hn hs=>by
 refine wpIn_loop_rounds m ?_
 have key:∀ m st a w,cJ C a w st->aF P n c Q m st->Code.roundsIn (fen n) N P c (fun e a' w'=>∃ st',cJ C a' w' st'/\Q e st') m a w:=by
  intro m
  induction m with
  |zero=>intro st a w _ h;exact h.elim
  |succ m ih=>
   intro st a w hs h
   refine wpIn_mono (h C a w N hn hs) fun e a' w' ⟨s,h1,h2⟩=>?_
   cases e with
   |normal=>exact ih s a' w' h1 h2
   |_=>exact ⟨s,h1,h2⟩
 exact key m st a w hs h
theorem pwp_round{P:Program}{n:Fr}{c:Code}{Q:Exit->PS->Prop}{st:PS}{m:Nat}(h:cZ P n c (PThen (aF P n c Q m) Q) st):aF P n c Q (m+1) st:=h
theorem pwp_again{P:Program}{n:Fr}{c:Code}{Q:Exit->PS->Prop}{s st:PS}{m:Nat}(hw:vE s st)(h:cZ P n c (PThen (aF P n c Q m) Q) st):PThen (aF P n c Q (m+1)) Q .normal s :=
 show cZ P n c (PThen (aF P n c Q m) Q) s from fun C a w N hn hs=>h C a w N hn (hw C a w hs)
section
variable {P:Program} {o:Oper} {S:Nat->SV}
theorem e_nckr{x:Operand}{k q:Nat}(ho:o.op=.nilCheck x)(hx:ev S x=.ref k q):uN P o S [] (.ref k q) :=
 uN.same fun a' w D β hop _=>by
  have hp:=hop x (by simp [ho,Op.operands])
  rw[hx] at hp
  obtain ⟨b,h1,h2⟩:=hp
  exact ⟨.pointer (some ⟨b,q,none⟩),by simp [execOp,ho,h2],b,h1,rfl⟩
inductive yR (E:TypeId):jQ->Prop
 |val (v:Value):yR E (.val v)
 |sl {t:TypeId} {s:Nat} {es:List jQ} (h:t≠E) (hs:∀ (i:Nat) d,(qD es)[i]?=some d->yR E d):yR E (.sl t s es)
 |agg {cs:List jQ} (hs:∀ (i:Nat) d,cs[i]?=some d->yR E d):yR E (.agg cs)
 |tup {cs:List jQ} (hs:∀ (i:Nat) d,cs[i]?=some d->yR E d):yR E (.tup cs)
 |cptr {t:TypeId} {cs:List jQ} {off:Nat} (h:t≠E) (hs:∀ (i:Nat) d,cs[i]?=some d->yR E d):yR E (.cptr t cs off)
 |clo {f:FuncId} {caps:List jQ} (hs:∀ (i:Nat) d,caps[i]?=some d->yR E d):yR E (.clo f caps)
theorem avo_nil{E:TypeId}:∀ (i:Nat) d,([]:List jQ)[i]?=some d->yR E d:=fun i d h=>by simp at h
theorem eG{E:TypeId}{x:jQ}{l:List jQ}(h:yR E x)(hl:∀ (i:Nat) d,l[i]?=some d->yR E d):∀ (i:Nat) d,(x::l)[i]?=some d->yR E d:=fun i d hd=>by
 rcases i with _ | i
 ·simp at hd;subst hd;exact h
 ·exact hl i d (by simpa using hd)
theorem avo_vals{α:Type}{E t:TypeId}{s:Nat}{F:α->Value}(h:t≠E)(l:List α):yR E (.sl t s (l.map fun x=>jQ.val (F x))) :=
 .sl h (fun i d hd=>by
  have:d∈qD (l.map fun x=>jQ.val (F x)):=List.mem_of_getElem? hd
  simp only[qD,List.mem_flatMap,List.mem_map] at this
  obtain ⟨x,⟨y,_,rfl⟩,hx⟩:=this
  simp only[jQ.cells,List.mem_singleton] at hx
  subst hx;exact .val _)
theorem yR.rep{E:TypeId}{w:World}{D D':kV}(hk:∀ t g o,t≠E->D t g o->D' t g o){v:Value}{r:jQ}(ha:yR E r)(h:uQ w D v r):uQ w D' v r:=by
 induction h with
 |val v=>exact .val v
 |sl g off u hn hc hm hs hao hD hu h1 hr ih=>
  cases ha with
  |sl hne has=>exact .sl g off u hn hc hm hs hao (fun i hi=>hk _ _ _ hne (hD i hi)) hu h1 (fun i d hd=>ih i d hd (has i d hd))
 |agg vs hl h1 hr ih=>
  cases ha with
  |agg has=>exact .agg vs hl h1 (fun i v d hv hd=>ih i v d hv hd (has i d hd))
 |tup vs hl hr ih=>
  cases ha with
  |tup has=>exact .tup vs hl (fun i v d hv hd=>ih i v d hv hd (has i d hd))
 |cptr g o u hD hu h1 hr ih=>
  cases ha with
  |cptr hne has=>exact .cptr g o u (fun i hi=>hk _ _ _ hne (hD i hi)) hu h1 (fun i d hd=>ih i d hd (has i d hd))
 |clo vs hl hr ih=>
  cases ha with
  |clo has=>exact .clo vs hl (fun i v d hv hd=>ih i v d hv hd (has i d hd))
inductive cV (k:Nat) (E:TypeId) (s q m:Nat) (es:List jQ):List SV->List jQ->Prop
 |nil:cV k E s q m es [] []
 |d {x:jQ} {zs:List SV} {ds:List jQ} (h:cV k E s q m es zs ds):cV k E s q m es (.d x::zs) (x::ds)
 |v {zs:List SV} {ds:List jQ} (h:cV k E s q m es zs ds):cV k E s q m es (.view k q m::zs) (.sl E s es::ds)
theorem cV.len{k E s q m:Nat}{es:List jQ}{zs:List SV}{ds:List jQ}(h:cV k E s q m es zs ds):zs.length=ds.length:=by
 induction h with
 |nil=>rfl
 |d h ih=>simp [ih]
 |v h ih=>simp [ih]
theorem cV.rep{k E s q m:Nat}{es:List jQ}{w:World}{D D':kV}{β:kU}(h1:∀ v x,uQ w D v x->uQ w D' v x)(h2:∀ v,kT w D β v (.view k q m)->uQ w D' v (.sl E s es)){zs:List SV}{ds:List jQ}(h:cV k E s q m es zs ds) :
  ∀ {vs:List Value},vs.length=zs.length->(∀ (i:Nat) v x,vs[i]?=some v->zs[i]?=some x->kT w D β v x)->∀ (i:Nat) v d,vs[i]?=some v->ds[i]?=some d->uQ w D' v d:=by
 induction h with
 |nil=>intro vs _ _ i v d _ hd;simp at hd
 |d h ih=>
  intro vs hl hr i v d' hv hd
  rcases vs with _ | ⟨v0,vs⟩
  ·simp at hl
  ·rcases i with _ | i
   ·simp at hv hd;subst hv;subst hd;exact h1 _ _ (hr 0 _ _ rfl rfl)
   ·exact ih (by simpa using hl) (fun i v x h3 h4=>hr (i+1) v x (by simpa using h3) (by simpa using h4)) i v d' (by simpa using hv) (by simpa using hd)
 |v h ih=>
  intro vs hl hr i v d' hv hd
  rcases vs with _ | ⟨v0,vs⟩
  ·simp at hl
  ·rcases i with _ | i
   ·simp at hv hd;subst hv;subst hd;exact h2 _ (hr 0 _ _ rfl rfl)
   ·exact ih (by simpa using hl) (fun i v x h3 h4=>hr (i+1) v x (by simpa using h3) (by simpa using h4)) i v d' (by simpa using hv) (by simpa using hd)
end
end Go.Fid
