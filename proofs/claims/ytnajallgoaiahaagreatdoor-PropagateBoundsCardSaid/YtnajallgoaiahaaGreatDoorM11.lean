/- Part 11 of a proof: rules, plain facts, and functions walked. -/
import Derived.Test.YtnajallgoaiahaaGreatDoorM10
import Derived.Test.YtnajallgoaiahaaGreatDoorM7
import Derived.Test.YtnajallgoaiahaaGreatDoorChecked
import Derived.LoopNIn
set_option linter.all false
namespace Go.Fid
def hasQ(p q x:Rat):Bool:=decide (p<=x)&&decide (x<=q)
theorem hasQ_eq(p q x:Rat):(decide (yB p x<=0)&&decide (yB x q<=0))=hasQ p q x:=by
 unfold hasQ
 rw[Bool.eq_iff_iff,Bool.and_eq_true,Bool.and_eq_true,decide_eq_true_eq,decide_eq_true_eq,decide_eq_true_eq,decide_eq_true_eq,cmpQ_le,cmpQ_le]
theorem hasQ_of{p q x:Rat}(h1:p<=x)(h2:x<=q):hasQ p q x=true:=by
 unfold hasQ;rw[decide_eq_true h1,decide_eq_true h2];rfl
theorem gV{p q x:Rat}:hasQ p q x=true↔p<=x/\x<=q:=by
 unfold hasQ;rw[Bool.and_eq_true,decide_eq_true_eq,decide_eq_true_eq]
theorem aQ{a b c:Rat}(h:a<=b)(hc:c<=0):b*c<=a*c:=by
 have h1:=Rat.mul_le_mul_of_nonneg_right h (c:=-c) (by rw[<- Rat.neg_zero];exact Rat.neg_le_neg hc)
 rw[Rat.mul_neg,Rat.mul_neg] at h1
 exact Rat.neg_le_neg_iff.1 h1
theorem mul_anti_l{a b c:Rat}(h:a<=b)(hc:c<=0):c*b<=c*a:=by
 rw[Rat.mul_comm c b,Rat.mul_comm c a];exact aQ h hc
theorem side_r{p q x:Rat}(y:Rat)(h1:p<=x)(h2:x<=q):(p*y<=x*y/\x*y<=q*y)\/(q*y<=x*y/\x*y<=p*y):=by
 rcases Rat.le_total (a:=0) (b:=y) with h | h
 ·exact .inl ⟨Rat.mul_le_mul_of_nonneg_right h1 h,Rat.mul_le_mul_of_nonneg_right h2 h⟩
 ·exact .inr ⟨aQ h2 h,aQ h1 h⟩
theorem side_l{r s y:Rat}(x:Rat)(h1:r<=y)(h2:y<=s):(x*r<=x*y/\x*y<=x*s)\/(x*s<=x*y/\x*y<=x*r):=by
 rw[Rat.mul_comm x r,Rat.mul_comm x y,Rat.mul_comm x s]
 exact side_r x h1 h2
theorem mnL_low(l:List Rat):∀ p:Rat,hC p l<=p/\∀ x∈l,hC p l<=x:=by
 induction l with
 |nil=>intro p;exact ⟨Rat.le_refl,fun x h=>by cases h⟩
 |cons q l ih=>
  intro p
  have h:hC p (q::l)=hC (min p q) l:=rfl
  obtain ⟨a,b⟩:=ih (min p q)
  rw[h]
  have c1:min p q<=p:=by
   rw[Rat.min_def];split
   ·exact Rat.le_refl
   ·exact Rat.le_of_lt (Rat.not_le.1 (by assumption))
  have c2:min p q<=q:=by
   rw[Rat.min_def];split
   ·assumption
   ·exact Rat.le_refl
  refine ⟨Rat.le_trans a c1,fun x hx=>?_⟩
  rcases List.mem_cons.1 hx with e | e
  ·rw[e];exact Rat.le_trans a c2
  ·exact b x e
theorem mxL_upp(l:List Rat):∀ p:Rat,p<=nY p l/\∀ x∈l,x<=nY p l:=by
 induction l with
 |nil=>intro p;exact ⟨Rat.le_refl,fun x h=>by cases h⟩
 |cons q l ih=>
  intro p
  have h:nY p (q::l)=nY (max p q) l:=rfl
  obtain ⟨a,b⟩:=ih (max p q)
  rw[h]
  have c1:p<=max p q:=by
   rw[Rat.max_def];split
   ·assumption
   ·exact Rat.le_refl
  have c2:q<=max p q:=by
   rw[Rat.max_def];split
   ·exact Rat.le_refl
   ·exact Rat.le_of_lt (Rat.not_le.1 (by assumption))
  refine ⟨Rat.le_trans c1 a,fun x hx=>?_⟩
  rcases List.mem_cons.1 hx with e | e
  ·rw[e];exact Rat.le_trans c2 a
  ·exact b x e
theorem low4(a b c d:Rat):hC a [b,c,d]<=a/\hC a [b,c,d]<=b/\hC a [b,c,d]<=c/\hC a [b,c,d]<=d:=by
 obtain ⟨h,g⟩:=mnL_low [b,c,d] a
 exact ⟨h,g b (by simp),g c (by simp),g d (by simp)⟩
theorem upp4(a b c d:Rat):a<=nY a [b,c,d]/\b<=nY a [b,c,d]/\c<=nY a [b,c,d]/\d<=nY a [b,c,d]:=by
 obtain ⟨h,g⟩:=mxL_upp [b,c,d] a
 exact ⟨h,g b (by simp),g c (by simp),g d (by simp)⟩
theorem mul_between{p q r s x y l h:Rat}(hx1:p<=x)(hx2:x<=q)(hy1:r<=y)(hy2:y<=s)(hl:l<=p*r/\l<=p*s/\l<=q*r/\l<=q*s)(hh:p*r<=h/\p*s<=h/\q*r<=h/\q*s<=h):l<=x*y/\x*y<=h:=by
 obtain ⟨l1,l2,l3,l4⟩:=hl
 obtain ⟨k1,k2,k3,k4⟩:=hh
 have hp:l<=p*y/\p*y<=h:=by
  rcases side_l p hy1 hy2 with ⟨a,b⟩ | ⟨a,b⟩
  ·exact ⟨Rat.le_trans l1 a,Rat.le_trans b k2⟩
  ·exact ⟨Rat.le_trans l2 a,Rat.le_trans b k1⟩
 have hq:l<=q*y/\q*y<=h:=by
  rcases side_l q hy1 hy2 with ⟨a,b⟩ | ⟨a,b⟩
  ·exact ⟨Rat.le_trans l3 a,Rat.le_trans b k4⟩
  ·exact ⟨Rat.le_trans l4 a,Rat.le_trans b k3⟩
 rcases side_r y hx1 hx2 with ⟨a,b⟩ | ⟨a,b⟩
 ·exact ⟨Rat.le_trans hp.1 a,Rat.le_trans b hq.2⟩
 ·exact ⟨Rat.le_trans hq.1 a,Rat.le_trans b hp.2⟩
theorem has_mul{p q r s x y:Rat}(hx:p<=x/\x<=q)(hy:r<=y/\y<=s):hasQ (hC (p*r) [(p*s),(q*r),(q*s)]) (nY (p*r) [(p*s),(q*r),(q*s)]) (x*y)=true:=by
 obtain ⟨a,b⟩:=mul_between hx.1 hx.2 hy.1 hy.2 (low4 _ _ _ _) (upp4 _ _ _ _)
 exact hasQ_of a b
theorem has_add{p q r s x y:Rat}(hx:p<=x/\x<=q)(hy:r<=y/\y<=s):hasQ (p+r) (q+s) (x+y)=true :=
 hasQ_of (Rat.le_trans (Rat.add_le_add_right.2 hx.1) (Rat.add_le_add_left.2 hy.1)) (Rat.le_trans (Rat.add_le_add_right.2 hx.2) (Rat.add_le_add_left.2 hy.2))
theorem inv_anti{a b:Rat}(h:a<=b)(hp:0<a*b)(ha:a≠0)(hb:b≠0):b⁻¹<=a⁻¹:=by
 refine Rat.le_of_mul_le_mul_right (c:=a*b) ?_ hp
 rw[Rat.mul_comm a b,<- Rat.mul_assoc,Rat.inv_mul_cancel b hb,Rat.one_mul,Rat.mul_comm b a,<- Rat.mul_assoc,Rat.inv_mul_cancel a ha,Rat.one_mul]
 exact h
theorem neg_pos_mul{a b:Rat}(ha:a<0)(hb:b<0):0<a*b:=by
 have h:=Rat.mul_pos (a:=-a) (b:=-b) (Rat.neg_zero▸Rat.neg_lt_neg ha) (Rat.neg_zero▸Rat.neg_lt_neg hb)
 rwa [Rat.neg_mul,Rat.mul_neg,Rat.neg_neg] at h
theorem bQ{r s:Rat}(hz:xH r s=false):0<r\/s<0:=by
 unfold xH at hz
 rw[Bool.and_eq_false_iff,decide_eq_false_iff_not,decide_eq_false_iff_not,Rat.not_le,Rat.not_le] at hz
 exact hz
theorem zeroG_in{r s y:Rat}(hz:xH r s=false)(hy:r<=y/\y<=s):y≠0:=by
 intro e
 subst e
 rcases bQ hz with h | h
 ·exact absurd hy.1 (Rat.not_le.2 h)
 ·exact absurd hy.2 (Rat.not_le.2 h)
theorem inv_in{r s y:Rat}(hz:xH r s=false)(hy:r<=y/\y<=s):s⁻¹<=y⁻¹/\y⁻¹<=r⁻¹:=by
 have hy0:=zeroG_in hz hy
 obtain ⟨hr0,hs0⟩:=zeroG_ne (Rat.le_trans hy.1 hy.2) hz
 rcases bQ hz with h | h
 ·have h1:0<y:=Std.lt_of_lt_of_le h hy.1
  have h2:0<s:=Std.lt_of_lt_of_le h1 hy.2
  exact ⟨inv_anti hy.2 (Rat.mul_pos h1 h2) hy0 hs0,inv_anti hy.1 (Rat.mul_pos h h1) hr0 hy0⟩
 ·have h1:y<0:=Std.lt_of_le_of_lt hy.2 h
  have h2:r<0:=Std.lt_of_le_of_lt hy.1 h1
  exact ⟨inv_anti hy.2 (neg_pos_mul h1 h) hy0 hs0,inv_anti hy.1 (neg_pos_mul h2 h1) hr0 hy0⟩
theorem has_div{p q r s x y:Rat}(hz:xH r s=false)(hx:p<=x/\x<=q)(hy:r<=y/\y<=s):hasQ (hC (p / r) [(p / s),(q / r),(q / s)]) (nY (p / r) [(p / s),(q / r),(q / s)]) (x / y)=true:=by
 obtain ⟨i1,i2⟩:=inv_in hz hy
 obtain ⟨a1,a2,a3,a4⟩:=low4 (p / r) (p / s) (q / r) (q / s)
 obtain ⟨b1,b2,b3,b4⟩:=upp4 (p / r) (p / s) (q / r) (q / s)
 obtain ⟨a,b⟩:=mul_between (p:=p) (q:=q) (r:=s⁻¹) (s:=r⁻¹) (x:=x) (y:=y⁻¹) hx.1 hx.2 i1 i2 ⟨a2,a1,a4,a3⟩ ⟨b2,b1,b4,b3⟩
 exact hasQ_of a b
theorem has_sq{p q x:Rat}(hx:p<=x/\x<=q):hasQ (sqL p q) (sqH p q) (x*x)=true:=by
 have lo:=mnL_low [q*q] (p*p)
 have hi:=mxL_upp [q*q] (p*p)
 refine hasQ_of ?_ ?_
 ·unfold sqL
  split
  ·exact rat_sq x
  ·rename_i hz
   rcases bQ (Bool.eq_false_iff.2 hz) with h | h
   ·have h0:0<=x:=Rat.le_trans (Rat.le_of_lt h) hx.1
    refine Rat.le_trans lo.1 (Rat.le_trans (Rat.mul_le_mul_of_nonneg_right hx.1 (Rat.le_of_lt h)) (Rat.mul_le_mul_of_nonneg_left hx.1 h0))
   ·have h0:x<=0:=Rat.le_trans hx.2 (Rat.le_of_lt h)
    exact Rat.le_trans (lo.2 _ (by simp)) (Rat.le_trans (aQ hx.2 (Rat.le_of_lt h)) (mul_anti_l hx.2 h0))
 ·unfold sqH
  rcases Rat.le_total (a:=0) (b:=x) with h | h
  ·exact Rat.le_trans (Rat.le_trans (Rat.mul_le_mul_of_nonneg_left hx.2 h) (Rat.mul_le_mul_of_nonneg_right hx.2 (Rat.le_trans h hx.2))) (hi.2 _ (by simp))
  ·exact Rat.le_trans (Rat.le_trans (aQ hx.1 h) (mul_anti_l hx.1 (Rat.le_trans hx.1 h))) hi.1
def atQ(p q:Rat)(k:Nat):Rat:=p+Rat.divInt ((k % 17:Nat):Int) 16*(q-p)
theorem part_in(k:Nat):0<=Rat.divInt ((k % 17:Nat):Int) 16/\Rat.divInt ((k % 17:Nat):Int) 16<=1:=by
 have h:k % 17<17:=Nat.mod_lt _ (by decide)
 generalize k % 17=m at h
 have h2:∀ m:Fin 17,0<=Rat.divInt ((m.1:Nat):Int) 16/\Rat.divInt ((m.1:Nat):Int) 16<=1:=by decide +kernel
 exact h2 ⟨m,h⟩
theorem at_in{p q:Rat}(h:p<=q)(k:Nat):p<=atQ p q k/\atQ p q k<=q:=by
 obtain ⟨a,b⟩:=part_in k
 have h0:0<=q-p:=(Rat.le_iff_sub_nonneg p q).1 h
 unfold atQ
 generalize Rat.divInt ((k % 17:Nat):Int) 16=t at a b
 constructor
 ·have h1:=Rat.add_le_add_left (c:=p).2 (Rat.mul_nonneg a h0)
  rwa [Rat.add_zero] at h1
 ·have h1:=Rat.add_le_add_left (c:=p).2 (Rat.mul_le_mul_of_nonneg_right b h0)
  rwa [Rat.one_mul,Rat.add_comm p (q-p),Rat.sub_add_cancel] at h1
theorem aE{p q r s:Rat}(h1:p<=q)(h2:r<=s):p+r<=q+s:=Rat.le_trans (Rat.add_le_add_right.2 h1) (Rat.add_le_add_left.2 h2)
theorem sub_valid{p q r s:Rat}(h1:p<=q)(h2:r<=s):p-s<=q-r:=by
 rw[Rat.sub_eq_add_neg,Rat.sub_eq_add_neg];exact aE h1 (Rat.neg_le_neg h2)
theorem ql_at{p q:Rat}{m n:Nat}(k:Nat)(hp:QL p m)(hq:QL q n):QL (atQ p q k) (m+(3+(m+n+1))+1):=by
 unfold atQ
 have h:k % 17<17:=Nat.mod_lt _ (by decide)
 refine mS hp (qD (xX (n:=3) (xS (by omega) (by omega)) (xS)) (eL (k:=m+n+1) hq hp (by omega)) (Nat.le_refl _)) (Nat.le_refl _)
abbrev vi (z:Int):SV:=.d (.val (.int .i64 z))
abbrev jS (n:Nat):SV:=.d (.val (.int .i64 (n:Int)))
abbrev nK (n:Nat):SV:=.d (.val (.int .u64 (n:Int)))
abbrev lF (n:Nat):SV:=.d (.val (.int .u32 (n:Int)))
abbrev vb (b:Bool):SV:=.d (.val (.bool b))
abbrev vl {α:Type} (E z:Nat) (F:α->jZ) (L:List α):SV:=.d (.sl E z (L.map F))
abbrev bm {α:Type} (F:α->jZ) (L:List α):List SV:=L.map (fun g=>SV.d (F g))
section
variable {P:Program} {n:Fr} {ops:Array Oper} {S S':SL} {B B':BS} {l:List Oper} {o:Oper} {news:List Nat} {acc0:List (List Nat × List Nat)}
end
theorem fillL_all{s:Nat}:∀ (ds:List jZ) (k:Nat) (a z:List jZ),a.length=k*s->z.length=ds.length*s->(∀ d∈ds,d.cells.length=s) ->
  iZ (fun i=>some (i*s,s)) (a++z) ((ds.zipIdx k).map fun p=>(p.2,p.1.cells))=some (a++qI ds)
 |[],k,a,z,ha,hz,_=>by
  have:z=[]:=List.eq_nil_of_length_eq_zero (by simpa using hz)
  subst this;simp [iZ,qI]
 |d::ds,k,a,z,ha,hz,hs=>by
  have hd:=hs d (by simp)
  have hz':z.length=s+ds.length*s:=by rw[hz,List.length_cons,Nat.add_mul];omega
  rw[List.zipIdx_cons,List.map_cons]
  simp only[iZ]
  have h1:(Nat.beq d.cells.length s&&Nat.ble (k*s+d.cells.length) (a++z).length)=true:=by
   rw[Bool.and_eq_true]
   refine ⟨by rw[hd];exact Nat.beq_refl s,Nat.ble_eq_true_of_le ?_⟩
   rw[List.length_append,ha,hd];omega
  rw[h1,cond_true]
  have h2:patch (a++z) (k*s) d.cells=(a++d.cells)++z.drop s:=by
   unfold patch
   rw[<- ha,List.take_left,hd]
   congr 1
   rw[List.drop_append,List.drop_of_length_le (by omega),List.nil_append]
   congr 1;omega
  rw[h2,fillL_all ds (k+1) (a++d.cells) (z.drop s) (by rw[List.length_append,ha,hd,Nat.add_mul];omega) (by rw[List.length_drop];omega) (fun x hx=>hs x (by simp [hx])),mY,List.append_assoc]
theorem gC{α:Type}{s:Nat}(F:α->jZ)(L:List α)(hF:∀ g,(F g).cells.length=s):∀ e∈L.map F,e.cells.length=s:=by
 intro e he
 obtain ⟨g,_,rfl⟩:=List.mem_map.1 he
 exact hF g
theorem hZ{α:Type}{s:Nat}(F:α->jZ)(L:List α)(hF:∀ g,(F g).cells.length=s){m:Nat}(h:L.length=m):(yU F L).take (m*s)=(qI (L.map F)).map .d:=by
 refine List.take_of_length_le ?_
 rw[List.length_map,dE F hF,h]
 exact Nat.le_refl _
theorem mnL_self(p:Rat)(l:List Rat):hC p (p::l)=hC p l:=by
 show hC (min p p) l=hC p l
 rw[Rat.min_def];split<;>rfl
theorem mxL_self(p:Rat)(l:List Rat):nY p (p::l)=nY p l:=by
 show nY (max p p) l=nY p l
 rw[Rat.max_def];split<;>rfl
theorem least_start{l:List Rat}(h:0<l.length):l.getD 0 0=hC (l.getD 0 0) (l.take 1):=by
 cases l with
 |nil=>cases h
 |cons p l=>show p=hC p (p::l.take 0);rw[mnL_self];rfl
theorem neg_min(a b:Rat):-(min (-a) (-b))=max a b:=by
 rw[Rat.min_def,Rat.max_def]
 by_cases h:a<=b
 ·rw[if_pos h]
  split
  ·rename_i h2
   rw[Rat.neg_neg]
   exact Rat.le_antisymm h (Rat.neg_le_neg_iff.1 h2)
  ·rw[Rat.neg_neg]
 ·rw[if_neg h,if_pos (Rat.neg_le_neg (Rat.le_of_lt (Rat.not_le.1 h))),Rat.neg_neg]
theorem neg_mnL(l:List Rat):∀ p:Rat,-(hC (-p) (l.map (fun q=>-q)))=nY p l:=by
 induction l with
 |nil=>intro p;exact Rat.neg_neg p
 |cons q l ih=>
  intro p
  show -(hC (min (-p) (-q)) (l.map (fun q=>-q)))=nY (max p q) l
  rw[<- ih (max p q),<- neg_min p q,Rat.neg_neg]
theorem great_eq{l:List Rat}(h:0<l.length):-(hC ((l.map (fun q=>-q)).getD 0 0) (l.map (fun q=>-q)))=nY (l.getD 0 0) l:=by
 cases l with
 |nil=>cases h
 |cons p l=>exact neg_mnL (p::l) p
theorem ql_negs{l:List Rat}{n:Nat}(h:∀ q∈l,QL q n):∀ q∈l.map (fun q=>-q),QL q n:=by
 intro q hq
 obtain ⟨r,hr,rfl⟩:=List.mem_map.1 hq
 exact ql_neg (h r hr)
theorem neg_push{l:List Rat}{i:Nat}{o:List jR}(hi:i<l.length)(h:o=List.map jN (List.map (fun q=>-q) (l.take i))):o++[jN (-(l.getD i 0))]=List.map jN (List.map (fun q=>-q) (l.take (i+1))):=by
 rw[h,take_getD hi,List.map_append,List.map_append];rfl
theorem inside_of{p q r s:Rat}(h:r<=p/\q<=s):(decide (r<=p)&&decide (q<=s))=true:=by rw[decide_eq_true h.1,decide_eq_true h.2];rfl
def insQ(p q r s:Rat):Bool:=decide (r<=p)&&decide (q<=s)
theorem insQ_of{p q r s:Rat}(h1:r<=p)(h2:q<=s):insQ p q r s=true:=inside_of ⟨h1,h2⟩
theorem eN{l:List Rat}{p x:Rat}(h0:x<=p)(h:∀ q∈l,x<=q):x<=hC p l:=by
 rcases mnL_mem l p with e | e
 ·rw[e];exact h0
 ·exact h _ e
theorem cZ{l:List Rat}{p x:Rat}(h0:p<=x)(h:∀ q∈l,q<=x):nY p l<=x:=by
 rcases mxL_mem l p with e | e
 ·rw[e];exact h0
 ·exact h _ e
theorem mono_mul{p q r s a b c d:Rat}(h1:p<=a/\b<=q)(h2:r<=c/\d<=s)(hab:a<=b)(hcd:c<=d) :
  insQ (hC (a*c) [(a*d),(b*c),(b*d)]) (nY (a*c) [(a*d),(b*c),(b*d)]) (hC (p*r) [(p*s),(q*r),(q*s)]) (nY (p*r) [(p*s),(q*r),(q*s)])=true:=by
 have ha:p<=a/\a<=q:=⟨h1.1,Rat.le_trans hab h1.2⟩
 have hb:p<=b/\b<=q:=⟨Rat.le_trans h1.1 hab,h1.2⟩
 have hc:r<=c/\c<=s:=⟨h2.1,Rat.le_trans hcd h2.2⟩
 have hd:r<=d/\d<=s:=⟨Rat.le_trans h2.1 hcd,h2.2⟩
 have m1:=gV.1 (has_mul ha hc)
 have m2:=gV.1 (has_mul ha hd)
 have m3:=gV.1 (has_mul hb hc)
 have m4:=gV.1 (has_mul hb hd)
 refine insQ_of (eN m1.1 ?_) (cZ m1.2 ?_)<;>intro z hz<;>simp at hz<;>rcases hz with e | e | e<;>rw[e]
 ·exact m2.1
 ·exact m3.1
 ·exact m4.1
 ·exact m2.2
 ·exact m3.2
 ·exact m4.2
theorem mono_div{p q r s a b c d:Rat}(hz:xH r s=false)(h1:p<=a/\b<=q)(h2:r<=c/\d<=s)(hab:a<=b)(hcd:c<=d) :
  insQ (hC (a / c) [(a / d),(b / c),(b / d)]) (nY (a / c) [(a / d),(b / c),(b / d)]) (hC (p / r) [(p / s),(q / r),(q / s)]) (nY (p / r) [(p / s),(q / r),(q / s)])=true:=by
 have ha:p<=a/\a<=q:=⟨h1.1,Rat.le_trans hab h1.2⟩
 have hb:p<=b/\b<=q:=⟨Rat.le_trans h1.1 hab,h1.2⟩
 have hc:r<=c/\c<=s:=⟨h2.1,Rat.le_trans hcd h2.2⟩
 have hd:r<=d/\d<=s:=⟨Rat.le_trans h2.1 hcd,h2.2⟩
 have m1:=gV.1 (has_div hz ha hc)
 have m2:=gV.1 (has_div hz ha hd)
 have m3:=gV.1 (has_div hz hb hc)
 have m4:=gV.1 (has_div hz hb hd)
 refine insQ_of (eN m1.1 ?_) (cZ m1.2 ?_)<;>intro z hz<;>simp at hz<;>rcases hz with e | e | e<;>rw[e]
 ·exact m2.1
 ·exact m3.1
 ·exact m4.1
 ·exact m2.2
 ·exact m3.2
 ·exact m4.2
theorem zeroG_sub{r s c d:Rat}(hz:xH r s=false)(h2:r<=c/\d<=s):xH c d=false:=by
 unfold xH
 rw[Bool.and_eq_false_iff,decide_eq_false_iff_not,decide_eq_false_iff_not,Rat.not_le,Rat.not_le]
 rcases bQ hz with h | h
 ·exact .inl (Std.lt_of_lt_of_le h h2.1)
 ·exact .inr (Std.lt_of_le_of_lt h2.2 h)
theorem mono_sq{p q a b:Rat}(h1:p<=a/\b<=q)(hab:a<=b):insQ (sqL a b) (sqH a b) (sqL p q) (sqH p q)=true:=by
 have ha:p<=a/\a<=q:=⟨h1.1,Rat.le_trans hab h1.2⟩
 have hb:p<=b/\b<=q:=⟨Rat.le_trans h1.1 hab,h1.2⟩
 have m1:=gV.1 (has_sq ha)
 have m2:=gV.1 (has_sq hb)
 refine insQ_of ?_ (cZ m1.2 (fun z hz=>by rw[List.mem_singleton] at hz;rw[hz];exact m2.2))
 have low:∀ x:Rat,a<=x/\x<=b->sqL p q<=x*x:=fun x hx=>(gV.1 (has_sq ⟨Rat.le_trans h1.1 hx.1,Rat.le_trans hx.2 h1.2⟩)).1
 show sqL p q<=sqL a b
 by_cases hz:xH a b=true
 ·have h0:=hz
  unfold xH at h0
  rw[Bool.and_eq_true,decide_eq_true_eq,decide_eq_true_eq] at h0
  rw[show sqL a b=_ from if_pos hz]
  have:=low 0 h0
  rwa [Rat.mul_zero] at this
 ·rw[show sqL a b=_ from if_neg hz]
  exact eN (low a ⟨Rat.le_refl,hab⟩) (fun z hz=>by rw[List.mem_singleton] at hz;rw[hz];exact low b ⟨hab,Rat.le_refl⟩)
def iG(x:jR):Bool:=((!x.num.neg&&!x.den.neg)&&(((x.num.gs.length:Nat):Int) == 0))&&(((x.den.gs.length:Nat):Int) == 0)
theorem sameG_self{p q:Rat}(h:p<=q):sameG ⟨jN p,jN q⟩ ⟨jN p,jN q⟩=true:=by rw[sameG_of];simp [h]
theorem neg_valid{p q:Rat}(h:p<=q):-q<=-p:=Rat.neg_le_neg h
theorem hasQ_zero(p q:Rat):hasQ p q ((0:Int):Rat)=xH p q:=rfl
theorem sq_noL{p q:Rat}(h:hasQ p q ((0:Int):Rat)=false):sqL p q=hC (p*p) [q*q]:=if_neg (by rw[<- hasQ_zero,h];simp)
theorem sq_hasL{p q:Rat}(h:hasQ p q ((0:Int):Rat)=true):sqL p q=hC (p*p) [q*q,((0:Int):Rat)]:=by
 rw[hasQ_zero] at h
 rw[show sqL p q=((0:Int):Rat) from if_pos h]
 refine Rat.le_antisymm (eN (rat_sq p) ?_) ((mnL_low [q*q,((0:Int):Rat)] (p*p)).2 _ (by simp))
 intro x hx
 simp at hx
 rcases hx with e | e
 ·rw[e];exact rat_sq q
 ·rw[e];exact Rat.le_refl
theorem sq_hasH(p q:Rat):sqH p q=nY (p*p) [q*q,((0:Int):Rat)]:=by
 have u:=mxL_upp [q*q] (p*p)
 refine Rat.le_antisymm (cZ (mxL_upp [q*q,((0:Int):Rat)] (p*p)).1 (fun x hx=>(mxL_upp [q*q,((0:Int):Rat)] (p*p)).2 x (by simp at hx;simp [hx]))) (cZ u.1 ?_)
 intro x hx
 simp at hx
 rcases hx with e | e
 ·rw[e];exact u.2 _ (by simp)
 ·rw[e];exact Rat.le_trans (rat_sq p) u.1
theorem mn4_perm(a b c d:Rat):hC b [a,d,c]=hC a [b,c,d]:=by
 obtain ⟨l1,l2,l3,l4⟩:=low4 a b c d
 obtain ⟨k1,k2,k3,k4⟩:=low4 b a d c
 exact Rat.le_antisymm (eN k2 (by intro x hx;simp at hx;rcases hx with e | e | e<;>rw[e]<;>assumption)) (eN l2 (by intro x hx;simp at hx;rcases hx with e | e | e<;>rw[e]<;>assumption))
theorem mx4_perm(a b c d:Rat):nY b [a,d,c]=nY a [b,c,d]:=by
 obtain ⟨l1,l2,l3,l4⟩:=upp4 a b c d
 obtain ⟨k1,k2,k3,k4⟩:=upp4 b a d c
 exact Rat.le_antisymm (cZ l2 (by intro x hx;simp at hx;rcases hx with e | e | e<;>rw[e]<;>assumption)) (cZ k2 (by intro x hx;simp at hx;rcases hx with e | e | e<;>rw[e]<;>assumption))
theorem mA(p r:Rat):p*(((1:Int):Rat) / r)=p / r:=by
 rw[Rat.div_def,Rat.div_def,show ((1:Int):Rat)=1 from rfl,Rat.one_mul]
theorem recip_lo(p q r s:Rat):hC (p*(((1:Int):Rat) / s)) [(p*(((1:Int):Rat) / r)),(q*(((1:Int):Rat) / s)),(q*(((1:Int):Rat) / r))]=hC (p / r) [(p / s),(q / r),(q / s)]:=by
 rw[mA,mA,mA,mA];exact mn4_perm _ _ _ _
theorem recip_hi(p q r s:Rat):nY (p*(((1:Int):Rat) / s)) [(p*(((1:Int):Rat) / r)),(q*(((1:Int):Rat) / s)),(q*(((1:Int):Rat) / r))]=nY (p / r) [(p / s),(q / r),(q / s)]:=by
 rw[mA,mA,mA,mA];exact mx4_perm _ _ _ _
def jY(x:Rat × Rat):jL:=⟨jN x.1,jN x.2⟩
def GL(n:Nat)(x:Rat × Rat):Prop:=QL x.1 n/\QL x.2 n/\x.1<=x.2
theorem gokl_up{l:List jL}{m n:Nat}(h:∀ a∈l,GOk m a)(hm:m<=n:=by decide):∀ a∈l,GOk n a:=fun a ha=>zU (h a ha) hm
theorem gok_map{L:List (Rat × Rat)}{n:Nat}(h:∀ x∈L,GL n x):∀ a∈List.map jY L,GOk n a:=by
 intro a ha
 obtain ⟨x,hx,rfl⟩:=List.mem_map.1 ha
 have:=h x hx
 exact ⟨qQ (jW this.1),qQ (jW this.2.1)⟩
theorem valid_map{L:List (Rat × Rat)}{n:Nat}(h:∀ x∈L,GL n x):List.all (List.map jY L) uJ=true:=by
 rw[List.all_eq_true]
 intro a ha
 obtain ⟨x,hx,rfl⟩:=List.mem_map.1 ha
 exact zW (h x hx).2.2
theorem gl_getD{L:List (Rat × Rat)}{n:Nat}(h:∀ x∈L,GL n x)(h1:1<=n)(j:Nat):GL n (L.getD j (0,0)):=by
 rw[List.getD]
 cases hj:L[j]? with
 |none=>exact ⟨qG mX h1,qG mX h1,Rat.le_refl⟩
 |some q=>exact h q (List.mem_of_getElem? hj)
def mulLo(x y:Rat × Rat):Rat:=hC (x.1*y.1) [(x.1*y.2),(x.2*y.1),(x.2*y.2)]
def mulHi(x y:Rat × Rat):Rat:=nY (x.1*y.1) [(x.1*y.2),(x.2*y.1),(x.2*y.2)]
def dotF(L M:List (Rat × Rat)):Nat->Rat × Rat
 |0=>(((0:Int):Rat),((0:Int):Rat))
 |i+1=>((dotF L M i).1+mulLo (L.getD i (0,0)) (M.getD i (0,0)),(dotF L M i).2+mulHi (L.getD i (0,0)) (M.getD i (0,0)))
theorem mul_gl{x y:Rat × Rat}(hx:GL 16 x)(hy:GL 16 y):QL (mulLo x y) 32/\QL (mulHi x y) 32/\mulLo x y<=mulHi x y:=by
 have m1:=qD (k:=32) hx.1 hy.1 (by decide)
 have m2:=qD (k:=32) hx.1 hy.2.1 (by decide)
 have m3:=qD (k:=32) hx.2.1 hy.1 (by decide)
 have m4:=qD (k:=32) hx.2.1 hy.2.1 (by decide)
 have ml:∀ z∈[(x.1*y.2),(x.2*y.1),(x.2*y.2)],QL z 32:=by
  intro z hz;simp at hz;rcases hz with e | e | e<;>rw[e]<;>assumption
 exact ⟨ql_mnL m1 ml,ql_mxL m1 ml,dA _ _⟩
theorem dot_ql1{L M:List (Rat × Rat)}(hL:∀ x∈L,GL 16 x)(hM:∀ x∈M,GL 16 x)(i:Nat):QL (dotF L M i).1 (33*i+1)/\QL (dotF L M i).2 (33*i+1)/\(dotF L M i).1<=(dotF L M i).2:=by
 induction i with
 |zero=>exact ⟨vS (z:=0) (vF) (by decide),vS (z:=0) (vF) (by decide),Rat.le_refl⟩
 |succ i ih=>
  obtain ⟨m1,m2,m3⟩:=mul_gl (gl_getD hL (by decide) i) (gl_getD hM (by decide) i)
  exact ⟨mS ih.1 m1 (by omega),mS ih.2.1 m2 (by omega),aE ih.2.2 m3⟩
structure qB where
 op:Int
 a:Int
 b:Int
 n:jR
def zr:jR:=⟨⟨false,[]⟩,⟨false,[]⟩⟩
def tz:qB:=⟨0,0,0,zr⟩
structure vX where
 value:jL
 grad:List jL
 hess:List (List jL)
structure RMc where
 vars:Int
 order:Int
 places:Int
 jets:List vX
 failed:Bool
abbrev R2:=Rat × Rat
def z2:R2:=(0,0)
def gw(n:Int):R2:=((n:Rat),(n:Rat))
def yX(q:Rat):R2:=(q,q)
def vJ(a b:R2):R2:=(a.1+b.1,a.2+b.2)
def uR(a b:R2):R2:=(a.1-b.2,a.2-b.1)
def gneg(a:R2):R2:=(-a.2,-a.1)
def qP(a b:R2):R2:=(hC (a.1*b.1) [(a.1*b.2),(a.2*b.1),(a.2*b.2)],nY (a.1*b.1) [(a.1*b.2),(a.2*b.1),(a.2*b.2)])
def mN(a b:R2):R2:=(hC (a.1 / b.1) [(a.1 / b.2),(a.2 / b.1),(a.2 / b.2)],nY (a.1 / b.1) [(a.1 / b.2),(a.2 / b.1),(a.2 / b.2)])
def gsq(a:R2):R2:=(sqL a.1 a.2,sqH a.1 a.2)
theorem kW{a:R2}{m n:Nat}(h:GL m a)(hm:m<=n:=by decide):GL n a:=⟨qG h.1 hm,qG h.2.1 hm,h.2.2⟩
theorem fQ{q:Rat}{m:Nat}(h:QL q m):GL m (yX q):=⟨h,h,Rat.le_refl⟩
theorem gl_w{z:Int}(h1:-9223372036854775808<=z)(h2:z<=9223372036854775807):GL 3 (gw z):=⟨vS (xS h1 h2) (by decide),vS (xS h1 h2) (by decide),Rat.le_refl⟩
theorem lY{a b:R2}{m n k:Nat}(ha:GL m a)(hb:GL n b)(h:m+n+1<=k:=by decide):GL k (vJ a b):=⟨mS ha.1 hb.1 h,mS ha.2.1 hb.2.1 h,aE ha.2.2 hb.2.2⟩
theorem aY{a b:R2}{m n k:Nat}(ha:GL m a)(hb:GL n b)(h:m+n+1<=k:=by decide):GL k (uR a b):=⟨eL ha.1 hb.2.1 h,eL ha.2.1 hb.1 h,sub_valid ha.2.2 hb.2.2⟩
theorem gl_neg{a:R2}{m:Nat}(ha:GL m a):GL m (gneg a):=⟨ql_neg ha.2.1,ql_neg ha.1,neg_valid ha.2.2⟩
theorem ql_of4{a b c d:Rat}{k:Nat}(h1:QL a k)(h2:QL b k)(h3:QL c k)(h4:QL d k):QL (hC a [b,c,d]) k/\QL (nY a [b,c,d]) k:=by
 have ml:∀ z∈[b,c,d],QL z k:=by
  intro z hz;simp at hz;rcases hz with e | e | e<;>rw[e]<;>assumption
 exact ⟨ql_mnL h1 ml,ql_mxL h1 ml⟩
theorem xJ{a b:R2}{m n k:Nat}(ha:GL m a)(hb:GL n b)(h:m+n<=k:=by decide):GL k (qP a b):=by
 obtain ⟨h1,h2⟩:=ql_of4 (qD ha.1 hb.1 h) (qD ha.1 hb.2.1 h) (qD ha.2.1 hb.1 h) (qD ha.2.1 hb.2.1 h)
 exact ⟨h1,h2,dA _ _⟩
theorem gl_div{a b:R2}{m n k:Nat}(ha:GL m a)(hb:GL n b)(h:m+n<=k:=by decide):GL k (mN a b):=by
 obtain ⟨h1,h2⟩:=ql_of4 (iC ha.1 hb.1 h) (iC ha.1 hb.2.1 h) (iC ha.2.1 hb.1 h) (iC ha.2.1 hb.2.1 h)
 exact ⟨h1,h2,dA _ _⟩
theorem gl_sq{a:R2}{m k:Nat}(ha:GL m a)(h:m+m<=k:=by decide):GL k (gsq a):=⟨ql_sqL (qD ha.1 ha.1 h) (qD ha.2.1 ha.2.1 h),ql_sqH (qD ha.1 ha.1 h) (qD ha.2.1 ha.2.1 h),sqL_le _ _⟩
theorem kZ{L:List R2}{n:Nat}(h:∀ x∈L,GL n x)(h1:1<=n)(j:Nat):GL n (L.getD j z2):=gl_getD h h1 j
structure JV where
 v:R2
 g:List R2
def jz:JV:=⟨z2,[]⟩
def qW(x:JV):vX:=⟨jY x.v,x.g.map jY,[]⟩
def nZ(N n:Nat)(x:JV):Prop:=GL N x.v/\(∀ y∈x.g,GL N y)/\x.g.length=n
theorem nZ.at{N n:Nat}{x:JV}(h:nZ N n x)(h1:1<=N)(j:Nat):GL N (x.g.getD j z2):=kZ h.2.1 h1 j
theorem cP{α β:Type}(f:α->β)(l:List α)(d:α)(e:β){j:Nat}(h:j<l.length):(l.map f).getD j e=f (l.getD j d):=by
 rw[List.getD_eq_getElem?_getD,List.getElem?_map,List.getD_eq_getElem?_getD,List.getElem?_eq_getElem h];rfl
def jk(V:R2)(G:Nat->R2)(n:Nat):JV:=⟨V,(List.range n).map G⟩
theorem jk_push{G:Nat->R2}{l:List jL}{i:Nat}(h:l=((List.range i).map G).map jY):l++[jY (G i)]=((List.range (i+1)).map G).map jY:=by
 rw[h,List.range_succ,List.map_append,List.map_append];rfl
theorem jk_len{G:Nat->R2}{l:List jL}{i:Nat}(h:l=((List.range i).map G).map jY):l.length=i:=by
 rw[h];simp
theorem jk_ok{V:R2}{G:Nat->R2}{N n:Nat}(hV:GL N V)(hG:∀ i,i<n->GL N (G i)):nZ N n (jk V G n):=by
 refine ⟨hV,fun y hy=>?_,by simp [jk]⟩
 obtain ⟨i,hi,rfl⟩:=List.mem_map.1 hy
 exact hG i (List.mem_range.1 hi)
def jA(L:List JV)(z:Int):JV:=L.getD z.toNat jz
def nV(bx:List R2)(L:List JV)(x:qB):R2 :=
 if x.op=0 then yX (qS x.n)
 else if x.op=1 then bx.getD x.a.toNat z2
 else if x.op=2 then vJ (jA L x.a).v (jA L x.b).v
 else if x.op=3 then uR (jA L x.a).v (jA L x.b).v
 else if x.op=4 then qP (jA L x.a).v (jA L x.b).v
 else if x.op=6 then uR (gw 0) (jA L x.a).v
 else if x.op=7 then gsq (jA L x.a).v
 else mN (jA L x.a).v (jA L x.b).v
def nG(bx:List R2)(L:List JV)(x:qB)(i:Nat):R2 :=
 if x.op=0 then gw 0
 else if x.op=1 then (if (i:Int)=x.a then gw 1 else gw 0)
 else if x.op=2 then vJ ((jA L x.a).g.getD i z2) ((jA L x.b).g.getD i z2)
 else if x.op=3 then uR ((jA L x.a).g.getD i z2) ((jA L x.b).g.getD i z2)
 else if x.op=4 then vJ (qP (jA L x.a).v ((jA L x.b).g.getD i z2)) (qP (jA L x.b).v ((jA L x.a).g.getD i z2))
 else if x.op=6 then uR (gw 0) ((jA L x.a).g.getD i z2)
 else if x.op=7 then qP (gw 2) (qP (jA L x.a).v ((jA L x.a).g.getD i z2))
 else mN (uR ((jA L x.a).g.getD i z2) (qP (nV bx L x) ((jA L x.b).g.getD i z2))) (jA L x.b).v
def nJ(bx:List R2)(L:List JV)(x:qB):JV:=jk (nV bx L x) (nG bx L x) bx.length
def jU(bx:List R2)(t:List qB):Nat->List JV
 |0=>[]
 |k+1=>jU bx t k++[nJ bx (jU bx t k) (t.getD k tz)]
theorem cX(bx:List R2)(t:List qB):∀ k,(jU bx t k).length=k
 |0=>rfl
 |k+1=>by rw[jU,List.length_append,cX bx t k];rfl
end Go.Fid
namespace Go.Proofs.YtnajallgoaiahaaGreatDoor
open Go.Fid
def jX(x:qF):jZ:=.agg [.val (.bool x.neg),.sl 140 1 (x.gs.map jD)]
def jJ(x:jR):jZ:=.agg [.val (.bool x.num.neg),.sl 140 1 (x.num.gs.map jD),.val (.bool x.den.neg),.sl 140 1 (x.den.gs.map jD)]
def jF(x:jL):jZ:=.agg [.val (.bool x.lo.num.neg),.sl 140 1 (x.lo.num.gs.map jD),.val (.bool x.lo.den.neg),.sl 140 1 (x.lo.den.gs.map jD),.val (.bool x.hi.num.neg),.sl 140 1 (x.hi.num.gs.map jD),.val (.bool x.hi.den.neg),.sl 140 1 (x.hi.den.gs.map jD)]
def kS(x:qB):jZ:=.agg [.val (.int .i64 x.op),.val (.int .i64 x.a),.val (.int .i64 x.b),.val (.bool x.n.num.neg),.sl 140 1 (x.n.num.gs.map jD),.val (.bool x.n.den.neg),.sl 140 1 (x.n.den.gs.map jD)]
def uN(l:List (jL)):jZ:=.sl 61 8 (l.map jF)
def jI(x:vX):jZ:=.agg [.val (.bool x.value.lo.num.neg),.sl 140 1 (x.value.lo.num.gs.map jD),.val (.bool x.value.lo.den.neg),.sl 140 1 (x.value.lo.den.gs.map jD),.val (.bool x.value.hi.num.neg),.sl 140 1 (x.value.hi.num.gs.map jD),.val (.bool x.value.hi.den.neg),.sl 140 1 (x.value.hi.den.gs.map jD),.sl 61 8 (x.grad.map jF),.sl 86 1 (x.hess.map uN)]
structure A4 (α:Type) where
 a0:α
 a1:α
 a2:α
 a3:α
def jT(l:List (jR)):jZ:=.sl 45 4 (l.map jJ)
def aF(l:List (qB)):jZ:=.sl 83 7 (l.map kS)
theorem mo:Tryz.prog.follows .mixedOrders=true:=by kernel_rfl
end Go.Proofs.YtnajallgoaiahaaGreatDoor
namespace Go.Fid
open Go.RowKit (Below)
def bR(P:Program)(n:Fr)(c:Code)(Q:Exit->PS->Prop):Nat->PS->Prop
 |0,_=>False
 |m+1,st=>eI P n c (PThen (bR P n c Q m) Q) st
theorem pwp_rounds{P:Program}{n:Fr}{c:Code}{Q:Exit->PS->Prop}{st:PS}(m:Nat)(h:bR P n c Q m st):eI P n (.loop c) Q st:=fun C a w N hn hs=>by
 refine wpIn_loop_rounds m ?_
 have key:∀ m st a w,dF C a w st->bR P n c Q m st->Code.roundsIn (fen n) N P c (fun e a' w'=>∃ st',dF C a' w' st'/\Q e st') m a w:=by
  intro m
  induction m with
  |zero=>intro st a w _ h;exact h.elim
  |succ m ih=>
   intro st a w hs h
   refine wpIn_mono (h C a w N hn hs) fun e a' w' ⟨s,h1,h2⟩=>?_
   cases e with
   |normal=>exact ih s a' w' h1 h2
   |_=>exact ⟨s,h1,h2⟩
 exact key m st a w hs h
theorem pwp_round{P:Program}{n:Fr}{c:Code}{Q:Exit->PS->Prop}{st:PS}{m:Nat}(h:eI P n c (PThen (bR P n c Q m) Q) st):bR P n c Q (m+1) st:=h
theorem aG{P:Program}{n:Fr}{c:Code}{Q:Exit->PS->Prop}{s st:PS}{m:Nat}(hw:vG s st)(h:eI P n c (PThen (bR P n c Q m) Q) st):PThen (bR P n c Q (m+1)) Q .normal s :=
 show eI P n c (PThen (bR P n c Q m) Q) s from fun C a w N hn hs=>h C a w N hn (hw C a w hs)
section
variable {P:Program} {o:Oper} {S:Nat->SV}
theorem e_nckr{x:Operand}{k q:Nat}(ho:o.op=.nilCheck x)(hx:ev S x=.ref k q):vI P o S [] (.ref k q) :=
 vI.same fun a' w D β hop _=>by
  have hp:=hop x (by simp [ho,Op.operands])
  rw[hx] at hp
  obtain ⟨b,h1,h2⟩:=hp
  exact ⟨.pointer (some ⟨b,q,none⟩),by simp [execOp,ho,h2],b,h1,rfl⟩
inductive gA (E:TypeId):jZ->Prop
 |val (v:Value):gA E (.val v)
 |sl {t:TypeId} {s:Nat} {es:List jZ} (h:t≠E) (hs:∀ (i:Nat) d,(qI es)[i]?=some d->gA E d):gA E (.sl t s es)
 |agg {cs:List jZ} (hs:∀ (i:Nat) d,cs[i]?=some d->gA E d):gA E (.agg cs)
 |tup {cs:List jZ} (hs:∀ (i:Nat) d,cs[i]?=some d->gA E d):gA E (.tup cs)
 |cptr {t:TypeId} {cs:List jZ} {off:Nat} (h:t≠E) (hs:∀ (i:Nat) d,cs[i]?=some d->gA E d):gA E (.cptr t cs off)
 |clo {f:FuncId} {caps:List jZ} (hs:∀ (i:Nat) d,caps[i]?=some d->gA E d):gA E (.clo f caps)
theorem avo_nil{E:TypeId}:∀ (i:Nat) d,([]:List jZ)[i]?=some d->gA E d:=fun i d h=>by simp at h
theorem fJ{E:TypeId}{x:jZ}{l:List jZ}(h:gA E x)(hl:∀ (i:Nat) d,l[i]?=some d->gA E d):∀ (i:Nat) d,(x::l)[i]?=some d->gA E d:=fun i d hd=>by
 rcases i with _ | i
 ·simp at hd;subst hd;exact h
 ·exact hl i d (by simpa using hd)
theorem avo_vals{α:Type}{E t:TypeId}{s:Nat}{F:α->Value}(h:t≠E)(l:List α):gA E (.sl t s (l.map fun x=>jZ.val (F x))) :=
 .sl h (fun i d hd=>by
  have:d∈qI (l.map fun x=>jZ.val (F x)):=List.mem_of_getElem? hd
  simp only[qI,List.mem_flatMap,List.mem_map] at this
  obtain ⟨x,⟨y,_,rfl⟩,hx⟩:=this
  simp only[jZ.cells,List.mem_singleton] at hx
  subst hx;exact .val _)
theorem gA.rep{E:TypeId}{w:World}{D D':qU}(hk:∀ t g o,t≠E->D t g o->D' t g o){v:Value}{r:jZ}(ha:gA E r)(h:vL w D v r):vL w D' v r:=by
 induction h with
 |val v=>exact .val v
 |sl g off u hn hc hm hs hao hD hu h1 hr ih=>
  cases ha with
  |sl hne has=>exact .sl g off u hn hc hm hs hao (fun i hi=>hk _ _ _ hne (hD i hi)) hu h1 (fun i d hd=>ih i d hd (has i d hd))
 |agg vs hl h1 hr ih=>
  cases ha with
  |agg has=>exact .agg vs hl h1 (fun i v d hv hd=>ih i v d hv hd (has i d hd))
 |tup vs hl hr ih=>
  cases ha with
  |tup has=>exact .tup vs hl (fun i v d hv hd=>ih i v d hv hd (has i d hd))
 |cptr g o u hD hu h1 hr ih=>
  cases ha with
  |cptr hne has=>exact .cptr g o u (fun i hi=>hk _ _ _ hne (hD i hi)) hu h1 (fun i d hd=>ih i d hd (has i d hd))
 |clo vs hl hr ih=>
  cases ha with
  |clo has=>exact .clo vs hl (fun i v d hv hd=>ih i v d hv hd (has i d hd))
inductive dQ (k:Nat) (E:TypeId) (s q m:Nat) (es:List jZ):List SV->List jZ->Prop
 |nil:dQ k E s q m es [] []
 |d {x:jZ} {zs:List SV} {ds:List jZ} (h:dQ k E s q m es zs ds):dQ k E s q m es (.d x::zs) (x::ds)
 |v {zs:List SV} {ds:List jZ} (h:dQ k E s q m es zs ds):dQ k E s q m es (.view k q m::zs) (.sl E s es::ds)
theorem dQ.len{k E s q m:Nat}{es:List jZ}{zs:List SV}{ds:List jZ}(h:dQ k E s q m es zs ds):zs.length=ds.length:=by
 induction h with
 |nil=>rfl
 |d h ih=>simp [ih]
 |v h ih=>simp [ih]
theorem dQ.rep{k E s q m:Nat}{es:List jZ}{w:World}{D D':qU}{β:qM}(h1:∀ v x,vL w D v x->vL w D' v x)(h2:∀ v,qH w D β v (.view k q m)->vL w D' v (.sl E s es)){zs:List SV}{ds:List jZ}(h:dQ k E s q m es zs ds) :
  ∀ {vs:List Value},vs.length=zs.length->(∀ (i:Nat) v x,vs[i]?=some v->zs[i]?=some x->qH w D β v x)->∀ (i:Nat) v d,vs[i]?=some v->ds[i]?=some d->vL w D' v d:=by
 induction h with
 |nil=>intro vs _ _ i v d _ hd;simp at hd
 |d h ih=>
  intro vs hl hr i v d' hv hd
  rcases vs with _ | ⟨v0,vs⟩
  ·simp at hl
  ·rcases i with _ | i
   ·simp at hv hd;subst hv;subst hd;exact h1 _ _ (hr 0 _ _ rfl rfl)
   ·exact ih (by simpa using hl) (fun i v x h3 h4=>hr (i+1) v x (by simpa using h3) (by simpa using h4)) i v d' (by simpa using hv) (by simpa using hd)
 |v h ih=>
  intro vs hl hr i v d' hv hd
  rcases vs with _ | ⟨v0,vs⟩
  ·simp at hl
  ·rcases i with _ | i
   ·simp at hv hd;subst hv;subst hd;exact h2 _ (hr 0 _ _ rfl rfl)
   ·exact ih (by simpa using hl) (fun i v x h3 h4=>hr (i+1) v x (by simpa using h3) (by simpa using h4)) i v d' (by simpa using hv) (by simpa using hd)
end
end Go.Fid
