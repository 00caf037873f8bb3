/- Part 9 of a proof: rules, plain facts, and functions walked. -/
import Derived.Test.YtciingpdmjepgabGreatDoorM8
set_option linter.all false
namespace Go.Fid
structure kO where
 neg:Bool
 gs:List Nat
structure kP where
 num:kO
 den:kO
abbrev qY:kP:=⟨⟨false,[]⟩,⟨false,[]⟩⟩
structure qB where
 lo:kP
 hi:kP
instance:Inhabited kO:=⟨⟨false,[]⟩⟩
instance:Inhabited kP:=⟨⟨⟨false,[]⟩,⟨false,[]⟩⟩⟩
instance:Inhabited qB:=⟨⟨default,default⟩⟩
def kO.zero:kO:=⟨false,[]⟩
def kP.zero:kP:=⟨.zero,.zero⟩
def qB.zero:qB:=⟨.zero,.zero⟩
def uI(a b:Int):Int:=if a<b then -1 else if b<a then 1 else 0
theorem eT{a b:Int}(h:b<a):uI a b=1:=by unfold uI;rw[if_neg (by omega),if_pos h]
theorem cmpI_eq{a b:Int}(h1:¬ a<b)(h2:¬ b<a):uI a b=0:=by unfold uI;rw[if_neg h1,if_neg h2]
def vC(neg:Bool)(n:Nat):kO:=⟨neg&&n != 0,ofNat n⟩
theorem mkI_zero{neg:Bool}{n:Nat}(h:(((ofNat n).length:Nat):Int)=0):vC neg n=⟨false,[]⟩:=by
 have h1:ofNat n=[]:=List.eq_nil_of_length_eq_zero (by omega)
 have h2:n=0:=ofNat_nil.1 h1
 subst h2
 unfold vC
 rw[h1]
 simp
theorem mkI_pos{neg:Bool}{n:Nat}(h:(((ofNat n).length:Nat):Int)≠0):vC neg n=⟨neg,ofNat n⟩:=by
 have h1:n≠0:=fun e=>by subst e;rw[qS] at h;exact h rfl
 unfold vC
 have:(n != 0)=true:=bne_iff_ne.2 h1
 rw[this,Bool.and_true]
theorem aB(l:List Nat)(j:Nat)(h:j<l.length):val (l.drop (l.length-(j+1)))=l.getD (l.length-1-j) 0+1000000000*val (l.drop (l.length-j)):=by
 have h1:l.length-(j+1)<l.length:=by omega
 rw[List.drop_eq_getElem_cons h1,gG,show l.length-(j+1)+1=l.length-j by omega]
 have h2:l.length-1-j=l.length-(j+1):=by omega
 rw[h2]
 simp [List.getD,List.getElem?_eq_getElem h1]
theorem val_drop_lt{l:List Nat}(hd:Dig l){j:Nat}(h:j<=l.length):val (l.drop (l.length-j))<pw j:=by
 have h1:=uV (hd.drop (l.length-j))
 rw[List.length_drop,show l.length-(l.length-j)=j by omega] at h1
 exact h1
def xG(l:List Nat):Nat:=if l.length<=2 then val l else 0
def gS(l:List Nat):Bool:=decide (l.length<=2)
theorem word_bound{l:List Nat}(hd:Dig l){j:Nat}(h:j<l.length)(h2:l.length<=2):val (l.drop (l.length-j))<1000000000:=by
 have h1:=val_drop_lt hd (Nat.le_of_lt h)
 have h3:pw j<=pw 1:=yK (by omega)
 rw[show (1:Nat)=0+1 from rfl,qZ,nE] at h3
 omega
theorem val_len2{l:List Nat}(hd:Dig l)(h2:l.length<=2):val l<1000000000000000000:=by
 have h1:=uV hd
 have h3:pw l.length<=pw 2:=yK h2
 rw[show (2:Nat)=0+1+1 from rfl,qZ,qZ,nE] at h3
 omega
theorem cmpI_len{a b:List Nat}(ha:zJ a)(hb:zJ b)(h:((a.length:Nat):Int)≠((b.length:Nat):Int)):uI ((a.length:Nat):Int) ((b.length:Nat):Int)=uI ((val a:Nat):Int) ((val b:Nat):Int):=by
 have e1:=can_eq ha
 have e2:=can_eq hb
 by_cases hlt:a.length<b.length
 ·have:val a<val b:=dI (by rw[<- e1,<- e2];exact hlt)
  unfold uI
  rw[if_pos (by omega),if_pos (by omega)]
 ·have:val b<val a:=dI (by rw[<- e1,<- e2];omega)
  rw[eT (by omega),eT (by omega)]
theorem cmpI_top{a b:List Nat}(ha:Dig a)(hb:Dig b)(hl:a.length=b.length){j:Nat}(h:j<a.length)(he:val (a.drop (a.length-j))=val (b.drop (a.length-j)))(hne:((a.getD (a.length-1-j) 0:Nat):Int)≠((b.getD (a.length-1-j) 0:Nat):Int)) :
  uI ((a.getD (a.length-1-j) 0:Nat):Int) ((b.getD (a.length-1-j) 0:Nat):Int)=uI ((val a:Nat):Int) ((val b:Nat):Int):=by
 have h1:=cL a (a.length-(j+1)) (by omega)
 have h2:=cL b (a.length-(j+1)) (by omega)
 rw[aB a j h] at h1
 have h3:=aB b j (by omega)
 rw[<- hl] at h3
 rw[h3,<- he] at h2
 have h4:=uV (ha.take (a.length-(j+1)))
 have h5:=uV (hb.take (a.length-(j+1)))
 rw[List.length_take,Nat.min_eq_left (by omega)] at h4 h5
 generalize a.getD (a.length-1-j) 0=x at *
 generalize b.getD (a.length-1-j) 0=y at *
 generalize val (a.drop (a.length-j))=t at *
 generalize pw (a.length-(j+1))=p at *
 generalize val (a.take (a.length-(j+1)))=u at *
 generalize val (b.take (a.length-(j+1)))=v at *
 rcases Nat.lt_or_gt_of_ne (show x≠y by omega) with hxy | hxy
 ·have h6:p*(x+1000000000*t)+p<=p*(y+1000000000*t):=by
   have:=Nat.mul_le_mul_left p (show x+1000000000*t+1<=y+1000000000*t by omega)
   rw[Nat.mul_add,Nat.mul_one] at this
   exact this
  unfold uI
  rw[if_pos (by omega),if_pos (by omega)]
 ·have h6:p*(y+1000000000*t)+p<=p*(x+1000000000*t):=by
   have:=Nat.mul_le_mul_left p (show y+1000000000*t+1<=x+1000000000*t by omega)
   rw[Nat.mul_add,Nat.mul_one] at this
   exact this
  rw[eT (by omega),eT (by omega)]
theorem cmpI_same{a b:List Nat}(he:val a=val b):uI ((val a:Nat):Int) ((val b:Nat):Int)=0:=by
 rw[he];exact cmpI_eq (by omega) (by omega)
theorem eB{n:Nat}(h:n<18446744073709551616):(ofNat n).length<=3:=qJ (by
 rw[show (3:Nat)=0+1+1+1 from rfl,qZ,qZ,qZ,nE];omega)
theorem split_step{g:List Nat}{m n:Nat}(h:g++ofNat m=ofNat n)(hm:(0:Int)<((m:Nat):Int)):(g++[m % 1000000000])++ofNat (m / 1000000000)=ofNat n:=by
 rw[<- h,yR (n:=m) (by omega),List.append_assoc];rfl
theorem split_len{g:List Nat}{m n:Nat}(h:g++ofNat m=ofNat n)(hn:n<18446744073709551616):g.length<=3:=by
 have:=eB hn
 rw[<- h,List.length_append] at this
 omega
theorem split_end{g:List Nat}{m n:Nat}(h:g++ofNat m=ofNat n)(hm:¬ (0:Int)<((m:Nat):Int)):ofNat n=g:=by
 have:m=0:=by omega
 subst this
 rw[<- h,qS,List.append_nil]
def vN:List Nat->Int
 |[]=>-1
 |d::l=>if 1000000000<=d then 0 else if vN l<0 then -1 else vN l+1
theorem firstBig_none{l:List Nat}:vN l<0↔Dig l:=by
 induction l with
 |nil=>simp [vN,yA]
 |cons d l ih=>
  rw[xS]
  unfold vN
  by_cases h:1000000000<=d
  ·rw[if_pos h];constructor
   ·intro h1;omega
   ·intro h1;omega
  ·rw[if_neg h]
   by_cases h2:vN l<0
   ·rw[if_pos h2];simp [ih.1 h2];omega
   ·rw[if_neg h2];constructor
    ·intro h1;omega
    ·intro h1;exact absurd (ih.2 h1.2) h2
theorem aZ{l:List Nat}(h:Dig l):vN l=-1:=by
 induction l with
 |nil=>rfl
 |cons d l ih=>
  rw[xS] at h
  unfold vN
  rw[if_neg (by omega),if_pos (firstBig_none.2 h.2)]
theorem firstBig_at:∀ {l:List Nat} {i:Nat},i<l.length->Dig (l.take i)->1000000000<=l.getD i 0->vN l=(i:Int)
 |[],i,h,_,_=>by simp at h
 |d::l,0,_,_,hd=>by
  unfold vN
  rw[if_pos (by simpa using hd)];rfl
 |d::l,i+1,h,ht,hd=>by
  rw[List.take_succ_cons,xS] at ht
  have ih:=firstBig_at (l:=l) (i:=i) (by simpa using h) ht.2 (by simpa using hd)
  unfold vN
  rw[if_neg (by omega),ih,if_neg (by omega)]
  omega
theorem dig_take_succ{l:List Nat}{i:Nat}(h:i<l.length)(ht:Dig (l.take i))(hd:l.getD i 0<1000000000):Dig (l.take (i+1)):=by
 rw[List.take_succ_eq_append_getElem h,bB]
 refine ⟨ht,?_⟩
 intro d hx
 simp [List.getD,List.getElem?_eq_getElem h] at hd hx
 rw[hx];exact hd
def qW(x:kO):Bool:=if ((x.gs.length:Nat):Int)=0 then !x.neg else (((((x.gs.getD (x.gs.length-1) 0):Nat):Int) != 0)&&(!(decide (0<=vN x.gs))))
def kJ(x:kO):List Nat:=if qW x=true then x.gs else []
theorem qA(x:kO):zJ (kJ x):=by
 unfold kJ
 split
 ·rename_i h
  unfold qW at h
  split at h
  ·have:x.gs=[]:=List.eq_nil_of_length_eq_zero (by omega)
   rw[this];exact ⟨yA,by simp [Top]⟩
  ·rename_i h0
   simp only[Bool.and_eq_true,Bool.not_eq_true',decide_eq_false_iff_not,bne_iff_ne] at h
   refine ⟨firstBig_none.1 (by omega),fun h1=>h.1 ?_⟩
   have h4:x.gs.length-1<x.gs.length:=by omega
   simp [List.getD,List.getElem?_eq_getElem h4] at h1 ⊢
   exact h1
 ·exact ⟨yA,by simp [Top]⟩
def mO(b:Bool)(n:Nat):Int:=if b then -(n:Int) else n
def jQ(x:kO):Int:=mO x.neg (val (kJ x))
def kD(z:Int):kO:=vC (decide (z<0)) z.natAbs
theorem mZ(b:Bool)(n:Nat):vC b n=kD (mO b n):=by
 unfold kD mO
 cases b with
 |false=>
  rw[if_neg (by simp),Int.natAbs_natCast]
  have:decide ((n:Int)<0)=false:=decide_eq_false (by omega)
  rw[this]
 |true=>
  rw[if_pos rfl,Int.natAbs_neg,Int.natAbs_natCast]
  unfold vC
  by_cases h:n=0
  ·subst h;simp
  ·have h1:decide (-(n:Int)<0)=true:=decide_eq_true (by omega)
   rw[h1]
theorem xR(x:kO):(kJ x).length<=x.gs.length:=by
 unfold kJ;split
 ·exact Nat.le_refl _
 ·exact Nat.zero_le _
theorem add_len{a b:List Nat}(ha:Dig a)(hb:Dig b):(ofNat (val a+val b)).length<=max a.length b.length+1:=qJ (by
 have h1:=uV ha
 have h2:=uV hb
 have h3:pw a.length<=pw (max a.length b.length):=yK (by omega)
 have h4:pw b.length<=pw (max a.length b.length):=yK (by omega)
 rw[qZ];omega)
theorem sub_len{a b:List Nat}(ha:Dig a):(ofNat (val a-val b)).length<=a.length:=qJ (by
 have h1:=uV ha
 omega)
theorem mul_len{a b:List Nat}(ha:Dig a)(hb:Dig b):(ofNat (val a*val b)).length<=a.length+b.length:=qJ (by
 rw[pw_add]
 exact Nat.mul_lt_mul_of_lt_of_le (uV ha) (Nat.le_of_lt (uV hb)) (pw_pos _))
def qO(z:Int):Int:=if z=0 then 0 else if z<0 then -1 else 1
theorem bJ{l:List Nat}(h:zJ l)(h0:val l=0):l=[]:=by rw[can_eq h,h0,qS]
theorem toZ_nil{x:kO}(h:(((kJ x).length:Nat):Int)=0):jQ x=0:=by
 have:kJ x=[]:=List.eq_nil_of_length_eq_zero (by omega)
 unfold jQ mO
 rw[this,val_nil];split<;>rfl
theorem sign_neg{x:kO}(h:(((kJ x).length:Nat):Int)≠0)(hn:x.neg=true):qO (jQ x)=-1:=by
 have h1:val (kJ x)≠0:=fun e=>h (by rw[bJ (qA x) e];rfl)
 unfold qO jQ mO
 rw[if_pos hn,if_neg (by omega),if_pos (by omega)]
theorem sign_pos{x:kO}(h:(((kJ x).length:Nat):Int)≠0)(hn:x.neg=false):qO (jQ x)=1:=by
 have h1:val (kJ x)≠0:=fun e=>h (by rw[bJ (qA x) e];rfl)
 unfold qO jQ mO
 rw[hn]
 simp only[Bool.false_eq_true,if_false]
 rw[if_neg (by omega),if_neg (by omega)]
theorem neg_eq(x:kO):vC (!x.neg) (val (kJ x))=kD (-jQ x):=by
 rw[mZ]
 congr 1
 unfold jQ mO
 cases x.neg<;>simp
theorem sum_same{b c:Bool}(h:b=c)(m n:Nat):vC b (val (ofNat (m+n)))=kD (mO b m+mO c n):=by
 subst h
 rw[mZ,jZ]
 congr 1
 unfold mO
 cases b<;>simp<;>omega
theorem sum_first{b c:Bool}(h:b≠c){m n:Nat}(hn:n<=m):vC b (val (ofNat (m-n)))=kD (mO b m+mO c n):=by
 have h1:c=!b:=by revert h;cases b<;>cases c<;>simp
 subst h1
 rw[mZ,jZ]
 congr 1
 unfold mO
 cases b<;>simp<;>omega
theorem sum_second{b c:Bool}(h:b≠c){m n:Nat}(hn:m<=n):vC c (val (ofNat (n-m)))=kD (mO b m+mO c n):=by
 have h1:c=!b:=by revert h;cases b<;>cases c<;>simp
 subst h1
 rw[mZ,jZ]
 congr 1
 unfold mO
 cases b<;>simp<;>omega
theorem bF{a b:Int}(h:0<=uI a b):b<=a:=by
 unfold uI at h
 split at h
 ·omega
 ·omega
theorem cmpI_lt{a b:Int}(h:¬ 0<=uI a b):a<b:=by
 unfold uI at h
 split at h
 ·assumption
 ·split at h<;>omega
theorem mul_eq{b c:Bool}(m n:Nat):vC (!(b == c)) (val (ofNat (m*n)))=kD (mO b m*mO c n):=by
 rw[mZ,jZ]
 congr 1
 unfold mO
 cases b<;>cases c<;>simp [Int.neg_mul,Int.mul_neg]
theorem conv_u64(n:Int):IntKind.u64.wrap n=(((n % 18446744073709551616).toNat:Nat):Int):=by
 have:IntKind.u64.wrap n=n % 18446744073709551616:=by
  simp [IntKind.wrap,IntKind.bits,IntKind.signed]
 rw[this];omega
theorem neg_u64{n:Int}(h:n<0)(h1:-9223372036854775808<=n):IntKind.u64.wrap (0-(((n % 18446744073709551616).toNat:Nat):Int))=(((-n).toNat:Nat):Int):=by
 have:IntKind.u64.wrap (0-(((n % 18446744073709551616).toNat:Nat):Int))=(0-(((n % 18446744073709551616).toNat:Nat):Int)) % 18446744073709551616:=by
  simp [IntKind.wrap,IntKind.bits,IntKind.signed]
 rw[this];omega
theorem of_neg{n:Int}(h:n<0):vC (decide (n<0)) (val (ofNat (-n).toNat))=kD n:=by
 rw[jZ]
 unfold kD
 congr 1;omega
theorem of_pos{n:Int}(h:¬ n<0)(h1:n<=9223372036854775807):vC (decide (n<0)) (val (ofNat (n % 18446744073709551616).toNat))=kD n:=by
 rw[jZ]
 unfold kD
 congr 1;omega
theorem zG(z:Int):(qO z=0/\z=0)\/(qO z=-1/\z<0)\/(qO z=1/\0<z):=by
 unfold qO
 split
 ·left;omega
 ·split<;>omega
theorem cmp_sign{a b:Int}(h:qO a≠qO b):uI (qO a) (qO b)=uI a b:=by
 rcases zG a with ⟨h1,h2⟩ | ⟨h1,h2⟩ | ⟨h1,h2⟩<;>rcases zG b with ⟨h3,h4⟩ | ⟨h3,h4⟩ | ⟨h3,h4⟩<;>first | exact absurd (h1.trans h3.symm) h | (rw[h1,h3];unfold uI;first | rw[if_pos (by omega),if_pos (by omega)] | rw[if_neg (by omega),if_pos (by omega),if_neg (by omega),if_pos (by omega)])
theorem cmp_neg{x y:kO}(h:qO (jQ x)=qO (jQ y))(hn:x.neg=true):-(uI ((val (kJ x):Nat):Int) ((val (kJ y):Nat):Int))=uI (jQ x) (jQ y):=by
 have hx:jQ x=-((val (kJ x):Nat):Int):=by unfold jQ mO;rw[if_pos hn]
 have hy:jQ y=-((val (kJ y):Nat):Int)\/jQ y=((val (kJ y):Nat):Int):=by unfold jQ mO;split<;>simp
 rcases zG (jQ x) with ⟨h1,h2⟩ | ⟨h1,h2⟩ | ⟨h1,h2⟩<;>rcases zG (jQ y) with ⟨h3,h4⟩ | ⟨h3,h4⟩ | ⟨h3,h4⟩<;>first | (exfalso;omega) | skip
 ·have e1:((val (kJ x):Nat):Int)=0:=by omega
  have e2:((val (kJ y):Nat):Int)=0:=by omega
  rw[e1,e2,h2,h4];rfl
 ·have e2:jQ y=-((val (kJ y):Nat):Int):=by omega
  rw[hx,e2]
  unfold uI
  split<;>split<;>first | rfl | omega | (split<;>first | rfl | omega)
theorem cmp_pos{x y:kO}(h:qO (jQ x)=qO (jQ y))(hn:x.neg=false):uI ((val (kJ x):Nat):Int) ((val (kJ y):Nat):Int)=uI (jQ x) (jQ y):=by
 have hx:jQ x=((val (kJ x):Nat):Int):=by unfold jQ mO;rw[hn];rfl
 have hy:jQ y=-((val (kJ y):Nat):Int)\/jQ y=((val (kJ y):Nat):Int):=by unfold jQ mO;split<;>simp
 rcases zG (jQ x) with ⟨h1,h2⟩ | ⟨h1,h2⟩ | ⟨h1,h2⟩<;>rcases zG (jQ y) with ⟨h3,h4⟩ | ⟨h3,h4⟩ | ⟨h3,h4⟩<;>first | (exfalso;omega) | skip
 ·have e1:((val (kJ x):Nat):Int)=0:=by omega
  have e2:((val (kJ y):Nat):Int)=0:=by omega
  rw[e1,e2,h2,h4]
 ·have e2:jQ y=((val (kJ y):Nat):Int):=by omega
  rw[hx,e2]
theorem cmpI_range(a b:Int):-1<=uI a b/\uI a b<=1:=by
 unfold uI;split<;>(try split)<;>omega
theorem drop_set_self(q:List Nat)(i e:Nat)(h:i<q.length):(q.set i e).drop i=e::q.drop (i+1):=by
 rw[List.drop_eq_getElem_cons (by simpa using h),List.getElem_set_self,List.drop_set_of_lt (by omega)]
theorem mG(q:List Nat)(i e:Nat)(h:i<q.length):val ((q.set i e).drop i)=e+1000000000*val (q.drop (i+1)):=by
 rw[drop_set_self q i e h,gG]
theorem short_step{a q:List Nat}{d vH j n:Nat}(hj:j<a.length)(hq:q.length=a.length)
  (hv:val (a.drop (a.length-j))=val (q.drop (a.length-j))*d+vH) (hn:n=vH*1000000000+a.getD (a.length-1-j) 0) :
  val (a.drop (a.length-(j+1)))=val ((q.set (a.length-1-j) (n / d)).drop (a.length-(j+1)))*d+n % d:=by
 have h1:a.length-(j+1)=a.length-1-j:=by omega
 have h2:a.length-1-j+1=a.length-j:=by omega
 rw[aB a j hj,hv,h1,mG q _ _ (by omega),h2]
 have h3:=Nat.div_add_mod n d
 rw[Nat.add_mul,Nat.mul_comm (n / d) d]
 generalize val (q.drop (a.length-j))=Q at *
 have h4:1000000000*Q*d=1000000000*(Q*d):=Nat.mul_assoc _ _ _
 omega
theorem short_bound{d vH g:Nat}(hr:vH<d)(hd:d<=1000000000)(hg:g<1000000000):vH*1000000000+g<1000000000000000000/\(vH*1000000000+g) / d<1000000000:=by
 have h1:vH*1000000000+g<d*1000000000:=by omega
 refine ⟨by omega,?_⟩
 rw[Nat.div_lt_iff_lt_mul (by omega)]
 omega
theorem short_end{a q:List Nat}{d vH:Nat}(hv:val (a.drop (a.length-a.length))=val (q.drop (a.length-a.length))*d+vH)(hr:vH<d):val q=val a / d/\vH=val a % d:=by
 rw[Nat.sub_self,List.drop_zero,List.drop_zero] at hv
 rw[hv]
 have h0:0<d:=by omega
 constructor
 ·rw[Nat.mul_comm,Nat.mul_add_div h0,Nat.div_eq_of_lt hr,Nat.add_zero]
 ·rw[Nat.mul_comm,Nat.mul_add_mod,Nat.mod_eq_of_lt hr]
def cB(b:List Nat):Nat:=1000000000 / (b.getD (b.length-1) 0+1)
theorem bN{b:List Nat}(hb:zJ b)(h:0<b.length):0<b.getD (b.length-1) 0/\b.getD (b.length-1) 0<1000000000:=by
 refine ⟨?_,hb.1.getD _⟩
 have h1:=hb.2
 unfold Top at h1
 have h2:b.length-1<b.length:=by omega
 simp [List.getD,List.getElem?_eq_getElem h2] at h1 ⊢
 omega
theorem aC{b:List Nat}(hb:zJ b)(h:0<b.length):1<=cB b/\cB b<=500000000/\cB b*(b.getD (b.length-1) 0+1)<=1000000000:=by
 obtain ⟨h1,h2⟩:=bN hb h
 unfold cB
 generalize b.getD (b.length-1) 0=t at *
 refine ⟨?_,?_,Nat.div_mul_le_self _ _⟩
 ·rw[Nat.le_div_iff_mul_le (by omega)];omega
 ·have:1000000000 / (t+1)<=1000000000 / 2:=Nat.div_le_div_left (by omega) (by decide)
  omega
theorem pw_pred{n:Nat}(h:0<n):pw n=1000000000*pw (n-1):=by
 obtain ⟨m,rfl⟩:∃ m,n=m+1:=⟨n-1,by omega⟩
 rw[qZ];rfl
theorem val_top{b:List Nat}(h:Dig b)(hl:0<b.length):b.getD (b.length-1) 0*pw (b.length-1)<=val b/\val b<(b.getD (b.length-1) 0+1)*pw (b.length-1):=by
 have h1:=val_take_succ b (b.length-1)
 rw[show b.length-1+1=b.length by omega,List.take_length] at h1
 have h2:=uV (h.take (b.length-1))
 rw[List.length_take,Nat.min_eq_left (by omega)] at h2
 rw[Nat.mul_comm] at h1
 rw[Nat.add_mul,Nat.one_mul]
 omega
theorem scl_len{b:List Nat}(hb:zJ b)(h:0<b.length):(ofNat (val b*cB b)).length=b.length:=by
 obtain ⟨h1,h2,h3⟩:=aC hb h
 obtain ⟨h4,h5⟩:=val_top hb.1 h
 have h6:val b*cB b<pw b.length:=by
  rw[pw_pred h]
  have h7:val b*cB b<(b.getD (b.length-1) 0+1)*pw (b.length-1)*cB b:=Nat.mul_lt_mul_of_pos_right h5 (by omega)
  have h8:(b.getD (b.length-1) 0+1)*pw (b.length-1)*cB b=cB b*(b.getD (b.length-1) 0+1)*pw (b.length-1):=by
   rw[Nat.mul_comm,<- Nat.mul_assoc]
  have h9:=Nat.mul_le_mul_right (pw (b.length-1)) h3
  omega
 have h7:=qJ h6
 have h8:¬ (ofNat (val b*cB b)).length<b.length:=fun hlt=>by
  have h9:b.length=(ofNat (val b)).length:=congrArg List.length (can_eq hb)
  rw[h9] at hlt
  have:=dI hlt
  have h10:val b*1<=val b*cB b:=Nat.mul_le_mul_left _ h1
  omega
 omega
theorem vK{m n:Nat}(h:m<=n):(ofNat m).length<=(ofNat n).length:=by
 by_cases hlt:(ofNat n).length<(ofNat m).length
 ·have:=dI hlt;omega
 ·omega
theorem ofNat_lt_pw(n:Nat):n<pw (ofNat n).length:=by
 have:=uV (kB n)
 rwa [jZ] at this
theorem cP{n:Nat}(h:0<n):0<(ofNat n).length:=by
 rw[yR (by omega)];simp
theorem scl_lenA{a b:List Nat}(ha:zJ a)(hb:zJ b)(h:0<b.length):a.length<=(ofNat (val a*cB b)).length/\(ofNat (val a*cB b)).length<=a.length+1:=by
 obtain ⟨h1,h2,h3⟩:=aC hb h
 constructor
 ·have h4:=vK (m:=val a) (n:=val a*cB b) (by
   have:=Nat.mul_le_mul_left (val a) h1;omega)
  rwa [<- can_eq ha] at h4
 ·refine qJ ?_
  have h4:=uV ha.1
  rw[qZ]
  have h5:val a*cB b<=val a*1000000000:=Nat.mul_le_mul_left _ (by omega)
  have h6:val a*1000000000<pw a.length*1000000000:=Nat.mul_lt_mul_of_pos_right h4 (by decide)
  omega
theorem len_of_le{a b:List Nat}(ha:zJ a)(hb:zJ b)(h:val b<=val a):b.length<=a.length:=by
 have h1:=vK h
 rwa [<- can_eq ha,<- can_eq hb] at h1
theorem guess_first{W V v1 r1 p top:Nat}(hV:v1*p<=V)(hW:W<(top+1)*p)(hv:0<v1)(hr:r1=top / v1):W / V<=r1:=by
 by_cases hV0:V=0
 ·subst hV0;rw[Nat.div_zero];exact Nat.zero_le _
 refine Nat.le_of_lt_succ ((Nat.div_lt_iff_lt_mul (by omega)).2 ?_)
 have h1:top+1<=(r1+1)*v1:=by
  subst hr
  have:=Nat.lt_div_mul_add (a:=top) hv
  rw[Nat.add_mul,Nat.one_mul];omega
 have h2:=Nat.mul_le_mul_right p h1
 have h3:=Nat.mul_le_mul_left (r1+1) hV
 have h4:(r1+1)*v1*p=(r1+1)*(v1*p):=Nat.mul_assoc _ _ _
 show W<(r1+1)*V
 omega
theorem guess_less{W V v1 v2 u2 G R p top:Nat}(hp:0<p)(hV:(v1*1000000000+v2)*p<=V)(hW:W<(top*1000000000+u2+1)*p)(htop:G*v1+R=top)(hG:W / V<=G)(hv:0<v1)(hlt:W<1000000000*V)
  (ht:1000000000<=G\/R*1000000000+u2<G*v2):W / V<=G-1/\0<G:=by
 have hVp:0<V:=Nat.lt_of_lt_of_le (Nat.mul_pos (by omega) hp) hV
 have hq:W / V<1000000000:=(Nat.div_lt_iff_lt_mul hVp).2 hlt
 rcases ht with h | h
 ·omega
 ·have hG0:0<G:=by
   rcases Nat.eq_zero_or_pos G with h0 | h0
   ·subst h0;rw[Nat.zero_mul] at h;omega
   ·exact h0
  refine ⟨?_,hG0⟩
  have hne:W / V≠G:=fun e=>by
   have h1:G*V<=W:=by rw[<- e];exact Nat.div_mul_le_self _ _
   have h2:=Nat.mul_le_mul_left G hV
   have h3:G*((v1*1000000000+v2)*p)=G*(v1*1000000000+v2)*p:=(Nat.mul_assoc _ _ _).symm
   have h4:G*(v1*1000000000+v2)*p<(top*1000000000+u2+1)*p:=by omega
   have h5:=Nat.lt_of_mul_lt_mul_right h4
   rw[Nat.mul_add,<- Nat.mul_assoc] at h5
   rw[<- htop,Nat.add_mul] at h5
   omega
  omega
theorem guess_near{W V v1 v2 u2 G R p top:Nat}(hV:V<(v1*1000000000+v2+1)*p)(hW:(top*1000000000+u2)*p<=W)(htop:G*v1+R=top)(hv:0<v1)(hz:0<V)(hG:G<1000000000)(ht:G*v2<=R*1000000000+u2):G<=W / V+1:=by
 rcases Nat.eq_zero_or_pos G with h0 | h0
 ·rw[h0];exact Nat.zero_le _
 have h1:(G-1)*V<=W:=by
  have h2:=Nat.mul_le_mul_left (G-1) (Nat.le_of_lt hV)
  refine Nat.le_trans h2 (Nat.le_trans ?_ hW)
  rw[<- Nat.mul_assoc]
  refine Nat.mul_le_mul_right p ?_
  obtain ⟨g,rfl⟩:∃ g,G=g+1:=⟨G-1,by omega⟩
  rw[Nat.add_sub_cancel]
  rw[<- htop]
  have e1:g*(v1*1000000000+v2+1)=g*v1*1000000000+g*v2+g:=by
   rw[Nat.mul_add,Nat.mul_add,Nat.mul_one,<- Nat.mul_assoc]
  have e2:((g+1)*v1+R)*1000000000=g*v1*1000000000+v1*1000000000+R*1000000000:=by
   rw[Nat.add_mul,Nat.add_mul,Nat.add_mul,Nat.one_mul]
  have e3:(g+1)*v2=g*v2+v2:=by rw[Nat.add_mul,Nat.one_mul]
  rw[e1,e2]
  omega
 have h3:G-1<=W / V:=(Nat.le_div_iff_mul_le hz).2 h1
 exact Nat.le_add_of_sub_le h3
theorem msub_step{u u' v:List Nat}{i j n L G carry borrow p e borrow':Nat}(hj:j+n<L)(hi:i<n)(hl:u'.length=L)(hlu:u.length=L)(hd:Dig u')(h1:u'.take j=u.take j)(h2:u'.drop (j+i)=u.drop (j+i))
  (hv:val ((u'.drop j).take i)+G*val (v.take i)=val ((u.drop j).take i)+pw i*(carry+borrow)) (hp:p=G*v.getD i 0+carry) (he:e<1000000000) (hs:e+borrow+p % 1000000000=u'.getD (i+j) 0+1000000000*borrow') :
  (u'.set (i+j) e).length=L/\Dig (u'.set (i+j) e)/\(u'.set (i+j) e).take j=u.take j/\(u'.set (i+j) e).drop (j+(i+1))=u.drop (j+(i+1)) /\
  val (((u'.set (i+j) e).drop j).take (i+1))+G*val (v.take (i+1))=val ((u.drop j).take (i+1))+pw (i+1)*(p / 1000000000+borrow'):=by
 have e0:u'.getD (i+j) 0=(u.drop j).getD i 0:=by
  have h3:(u'.drop (j+i)).getD 0 0=(u.drop (j+i)).getD 0 0:=by rw[h2]
  simp only[List.getD,List.getElem?_drop,Nat.add_zero] at h3 ⊢
  rw[Nat.add_comm i j];exact h3
 refine ⟨by simpa using hl,hd.set _ he,by rw[List.take_set_of_le (by omega)];exact h1,?_,?_⟩
 ·rw[List.drop_set_of_lt (by omega)]
  have h3:(u'.drop (j+i)).drop 1=(u.drop (j+i)).drop 1:=by rw[h2]
  rw[List.drop_drop,List.drop_drop] at h3
  exact h3
 ·have e1:(u'.set (i+j) e).drop j=(u'.drop j).set i e:=by
   rw[List.drop_set,if_neg (by omega)];congr 1;omega
  rw[e1,dG _ _ _ (by rw[List.length_drop];omega),val_take_succ,val_take_succ,<- e0,qZ]
  have e2:=Nat.mod_add_div p 1000000000
  generalize val ((u'.drop j).take i)=A at *
  generalize val ((u.drop j).take i)=Y at *
  generalize val (v.take i)=X at *
  generalize v.getD i 0=vi at *
  generalize u'.getD (i+j) 0=d0 at *
  generalize pw i=P at *
  generalize p / 1000000000=c' at *
  generalize p % 1000000000=x at *
  have e3:G*(X+P*vi)=G*X+P*(G*vi):=by rw[Nat.mul_add,Nat.mul_left_comm]
  have e4:P*e+P*(G*vi)+P*(carry+borrow)=P*d0+1000000000*P*(c'+borrow'):=by
   have e5:e+G*vi+(carry+borrow)=d0+1000000000*(c'+borrow'):=by omega
   have e6:=congrArg (P*·) e5
   simp only[Nat.mul_add] at e6
   have e7:1000000000*P*(c'+borrow')=P*(1000000000*c')+P*(1000000000*borrow'):=by
    rw[Nat.mul_comm 1000000000 P,Nat.mul_assoc,Nat.mul_add,Nat.mul_add]
   rw[e7,Nat.mul_add]
   omega
  rw[e3]
  omega
theorem addb_step{u u' v:List Nat}{i j n L c s e c':Nat}(hj:j+n<L)(hi:i<n)(hl:u'.length=L)(hlu:u.length=L)(hd:Dig u')(h1:u'.take j=u.take j)(h2:u'.drop (j+i)=u.drop (j+i))
  (hv:val ((u'.drop j).take i)+pw i*c=val ((u.drop j).take i)+val (v.take i)) (hs:s=u'.getD (i+j) 0+v.getD i 0+c) (he:e<1000000000) (hc:e+1000000000*c'=s) :
  (u'.set (i+j) e).length=L/\Dig (u'.set (i+j) e)/\(u'.set (i+j) e).take j=u.take j/\(u'.set (i+j) e).drop (j+(i+1))=u.drop (j+(i+1)) /\
  val (((u'.set (i+j) e).drop j).take (i+1))+pw (i+1)*c'=val ((u.drop j).take (i+1))+val (v.take (i+1)):=by
 have e0:u'.getD (i+j) 0=(u.drop j).getD i 0:=by
  have h3:(u'.drop (j+i)).getD 0 0=(u.drop (j+i)).getD 0 0:=by rw[h2]
  simp only[List.getD,List.getElem?_drop,Nat.add_zero] at h3 ⊢
  rw[Nat.add_comm i j];exact h3
 refine ⟨by simpa using hl,hd.set _ he,by rw[List.take_set_of_le (by omega)];exact h1,?_,?_⟩
 ·rw[List.drop_set_of_lt (by omega)]
  have h3:(u'.drop (j+i)).drop 1=(u.drop (j+i)).drop 1:=by rw[h2]
  rw[List.drop_drop,List.drop_drop] at h3
  exact h3
 ·have e1:(u'.set (i+j) e).drop j=(u'.drop j).set i e:=by
   rw[List.drop_set,if_neg (by omega)];congr 1;omega
  rw[e1,dG _ _ _ (by rw[List.length_drop];omega),val_take_succ,val_take_succ,<- e0,qZ]
  generalize val ((u'.drop j).take i)=A at *
  generalize val ((u.drop j).take i)=Y at *
  generalize val (v.take i)=X at *
  generalize v.getD i 0=vi at *
  generalize u'.getD (i+j) 0=d0 at *
  generalize pw i=P at *
  have e4:P*e+1000000000*P*c'=P*d0+P*vi+P*c:=by
   have e5:e+1000000000*c'=d0+vi+c:=by omega
   have e6:=congrArg (P*·) e5
   simp only[Nat.mul_add] at e6
   rw[Nat.mul_comm 1000000000 P,Nat.mul_assoc]
   omega
  omega
theorem yG(u:List Nat)(j n:Nat):val (u.drop j)=val ((u.drop j).take n)+pw n*val (u.drop (j+n)):=by
 by_cases h:n<=(u.drop j).length
 ·rw[cL (u.drop j) n h,List.drop_drop]
 ·rw[List.take_of_length_le (by omega),List.drop_eq_nil_of_le (i:=j+n) (by rw[List.length_drop] at h;omega),val_nil,Nat.mul_zero,Nat.add_zero]
theorem vM(u:List Nat)(j:Nat):val (u.drop j)=u.getD j 0+1000000000*val (u.drop (j+1)):=by
 by_cases h:j<u.length
 ·rw[List.drop_eq_getElem_cons h,gG];simp [List.getD,List.getElem?_eq_getElem h]
 ·rw[List.drop_eq_nil_of_le (by omega),List.drop_eq_nil_of_le (by omega),val_nil];simp [List.getD,List.getElem?_eq_none (by omega:u.length<=j)]
theorem window{u v:List Nat}{j n:Nat}(hv:Dig v)(hn:v.length=n)(h:val (u.drop (j+1))<val v):val (u.drop (j+n+1))=0/\val (u.drop j)=val ((u.drop j).take n)+pw n*u.getD (j+n) 0:=by
 have h1:=uV hv
 rw[hn] at h1
 have h2:=yG u (j+1) n
 have h3:val (u.drop (j+1+n))=0:=by
  rcases Nat.eq_zero_or_pos (val (u.drop (j+1+n))) with h4 | h4
  ·exact h4
  ·have:=Nat.mul_le_mul_left (pw n) h4
   omega
 rw[show j+1+n=j+n+1 by omega] at h3
 refine ⟨h3,?_⟩
 rw[yG u j n,vM u (j+n),h3,Nat.mul_zero,Nat.add_zero]
theorem window_tops{u v:List Nat}{j n:Nat}(hu:Dig u)(hv:Dig v)(hn:v.length=n)(h2:2<=n)(h:val (u.drop (j+1))<val v) :
  u.getD (j+n) 0<=v.getD (n-1) 0/\val (u.drop j)<1000000000*val v /\
  ((u.getD (j+n) 0*1000000000+u.getD (j+n-1) 0)*1000000000+u.getD (j+n-2) 0)*pw (n-2)<=val (u.drop j) /\
  val (u.drop j)<((u.getD (j+n) 0*1000000000+u.getD (j+n-1) 0)*1000000000+u.getD (j+n-2) 0+1)*pw (n-2) /\
  (v.getD (n-1) 0*1000000000+v.getD (n-2) 0)*pw (n-2)<=val v/\val v<(v.getD (n-1) 0*1000000000+v.getD (n-2) 0+1)*pw (n-2):=by
 obtain ⟨m,rfl⟩:∃ m,n=m+2:=⟨n-2,by omega⟩
 obtain ⟨w1,w2⟩:=window hv hn h
 have p1:pw (m+1)=1000000000*pw m:=qZ m
 have p2:pw (m+2)=1000000000*(1000000000*pw m):=by rw[qZ,qZ]
 have a1:=val_take_succ v (m+1)
 have a2:=val_take_succ v m
 rw[show m+1+1=v.length by omega,List.take_length] at a1
 have a3:=uV (hv.take m)
 rw[List.length_take,Nat.min_eq_left (by omega)] at a3
 have b1:=yG u j m
 have b2:=vM u (j+m)
 have b3:=vM u (j+m+1)
 have b4:=vM u (j+m+2)
 rw[show j+m+2+1=j+(m+2)+1 by omega,w1] at b4
 have b5:val ((u.drop j).take m)<pw m:=by
  have:=uV ((hu.drop j).take m)
  exact Nat.lt_of_lt_of_le this (yK (by rw[List.length_take];exact Nat.min_le_left _ _))
 have c1:=yG u (j+1) (m+1)
 rw[show j+1+(m+1)=j+m+2 by omega,b4] at c1
 have g1:=hu.getD j
 have g2:=hv.getD m
 have e1:j+(m+2)-1=j+m+1:=by omega
 have e2:j+(m+2)-2=j+m:=by omega
 have e3:j+(m+2)=j+m+2:=by omega
 have e4:m+2-1=m+1:=by omega
 have e5:m+2-2=m:=by omega
 have e6:=vM u j
 rw[e1,e2,e3,e4,e5]
 rw[e3] at w1 w2
 generalize u.getD (j+m+2) 0=t2 at *
 generalize u.getD (j+m+1) 0=t1 at *
 generalize u.getD (j+m) 0=t0 at *
 generalize v.getD (m+1) 0=v1 at *
 generalize v.getD m 0=v0 at *
 generalize val ((u.drop j).take m)=low at *
 generalize val (v.take m)=vl at *
 generalize pw m=P at *
 rw[p1] at a1 c1
 have hW:val (u.drop j)=low+P*(t0+1000000000*(t1+1000000000*t2)):=by rw[b1,b2,b3,b4];simp
 have hV:val v=vl+P*(v0+1000000000*v1):=by
  rw[a1,a2,Nat.mul_add,Nat.add_assoc]
  congr 2
  rw[Nat.mul_comm 1000000000 P,Nat.mul_assoc]
 refine ⟨?_,by omega,?_,?_,?_,?_⟩
 ·rcases Nat.lt_or_ge v1 t2 with hlt | hge
  ·exfalso
   have h5:1000000000*P*(v1+1)<=1000000000*P*t2:=Nat.mul_le_mul_left _ hlt
   have h6:P*v0+P<=1000000000*P:=by
    have h7:v0+1<=1000000000:=by
     omega
    have:=Nat.mul_le_mul_left P h7
    rw[Nat.mul_add,Nat.mul_one] at this
    omega
   rw[Nat.mul_add,Nat.mul_one] at h5
   rw[hV] at h
   rw[Nat.mul_add,show P*(1000000000*v1)=1000000000*P*v1 by rw[Nat.mul_comm 1000000000 P,Nat.mul_assoc]] at h
   simp at c1
   omega
  ·exact hge
 ·have:(t2*1000000000+t1)*1000000000+t0=t0+1000000000*(t1+1000000000*t2):=by omega
  rw[hW,this,Nat.mul_comm _ P];omega
 ·have:(t2*1000000000+t1)*1000000000+t0+1=t0+1000000000*(t1+1000000000*t2)+1:=by omega
  rw[hW,this,Nat.mul_comm _ P,Nat.mul_add _ _ 1,Nat.mul_one];omega
 ·have:v1*1000000000+v0=v0+1000000000*v1:=by omega
  rw[hV,this,Nat.mul_comm _ P];omega
 ·have:v1*1000000000+v0+1=v0+1000000000*v1+1:=by omega
  rw[hV,this,Nat.mul_comm _ P,Nat.mul_add _ _ 1,Nat.mul_one];omega
theorem getD_of_drop{u u2:List Nat}{m:Nat}(h:u2.drop m=u.drop m):u2.getD m 0=u.getD m 0:=by
 have h3:(u2.drop m).getD 0 0=(u.drop m).getD 0 0:=by rw[h]
 simpa only [List.getD,List.getElem?_drop,Nat.add_zero] using h3
theorem take_window_lt{u:List Nat}(h:Dig u)(j n:Nat):val ((u.drop j).take n)<pw n :=
 Nat.lt_of_lt_of_le (uV ((h.drop j).take n)) (yK (by rw[List.length_take];exact Nat.min_le_left _ _))
theorem msub_end{u u2 v:List Nat}{j n G C:Nat}(hu:Dig u)(hu2:Dig u2)(hv:Dig v)(hn:v.length=n)(hW:val (u.drop (j+1))<val v)(hG1:val (u.drop j) / val v<=G)(hG2:G<=val (u.drop j) / val v+1)
  (h2:u2.drop (j+n)=u.drop (j+n)) (hval:val ((u2.drop j).take n)+G*val (v.take n)=val ((u.drop j).take n)+pw n*C) :
  u2.getD (j+n) 0=u.getD (j+n) 0 /\
  (u.getD (j+n) 0<C->u.getD (j+n) 0+1=C/\0<G/\∃ r,r<val v/\val (u.drop j)=r+(G-1)*val v/\val ((u2.drop j).take n)+val v=pw n+r) /\
  (C<=u.getD (j+n) 0->u.getD (j+n) 0=C/\val ((u2.drop j).take n)<val v/\val (u.drop j)=val ((u2.drop j).take n)+G*val v):=by
 obtain ⟨w1,w2⟩:=window hv hn hW
 have hV:=uV hv
 rw[hn] at hV
 have hX:=take_window_lt hu2 j n
 rw[<- hn,List.take_length,hn] at hval
 have hVp:0<val v:=by omega
 have d1:=Nat.div_mul_le_self (val (u.drop j)) (val v)
 have d2:=Nat.lt_div_mul_add (a:=val (u.drop j)) hVp
 refine ⟨getD_of_drop h2,?_,?_⟩
 all_goals generalize hQ:val (u.drop j) / val v=Q at *
 all_goals generalize u.getD (j+n) 0=t at *
 all_goals generalize val ((u.drop j).take n)=Y at *
 all_goals generalize val ((u2.drop j).take n)=X at *
 all_goals generalize val (u.drop j)=W at *
 all_goals generalize val v=V at *
 all_goals generalize pw n=P at *
 ·intro hlt
  have m1:P*(t+1)<=P*C:=Nat.mul_le_mul_left _ hlt
  rw[Nat.mul_add,Nat.mul_one] at m1
  rcases Nat.lt_or_ge Q G with hq | hq
  ·have e:G=Q+1:=by omega
   subst e
   rw[Nat.add_mul,Nat.one_mul] at hval
   have m2:C=t+1:=by
    rcases Nat.lt_or_ge (t+1) C with h5 | h5
    ·exfalso
     have m3:P*(t+2)<=P*C:=Nat.mul_le_mul_left _ h5
     rw[Nat.mul_add] at m3
     omega
    ·omega
   subst m2
   rw[Nat.mul_add,Nat.mul_one] at hval
   refine ⟨rfl,by omega,W-Q*V,by omega,?_,by omega⟩
   rw[Nat.add_sub_cancel];omega
  ·exfalso
   have e:G=Q:=by omega
   subst e
   omega
 ·intro hge
  rcases Nat.lt_or_ge Q G with hq | hq
  ·exfalso
   have e:G=Q+1:=by omega
   subst e
   rw[Nat.add_mul,Nat.one_mul] at hval
   have m1:P*C<=P*t:=Nat.mul_le_mul_left _ hge
   omega
  ·have e:G=Q:=by omega
   subst e
   have m2:C=t:=by
    rcases Nat.lt_or_ge C t with h5 | h5
    ·exfalso
     have m3:P*(C+1)<=P*t:=Nat.mul_le_mul_left _ h5
     rw[Nat.mul_add,Nat.mul_one] at m3
     omega
    ·omega
   subst m2
   exact ⟨rfl,by omega,by omega⟩
theorem val_window_set{u v:List Nat}{u2:List Nat}{j n d:Nat}(hj:j+n<u2.length)(h2:u2.drop (j+n+1)=u.drop (j+n+1))(hz:val (u.drop (j+n+1))=0):(u2.set (j+n) d).take j=u2.take j/\val ((u2.set (j+n) d).drop j)=val ((u2.drop j).take n)+pw n*d:=by
 refine ⟨List.take_set_of_le (by omega),?_⟩
 rw[yG _ j n,mG _ _ _ hj,h2,hz,Nat.mul_zero,Nat.add_zero]
 congr 2
 have e1:(u2.set (j+n) d).drop j=(u2.drop j).set n d:=by
  rw[List.drop_set,if_neg (by omega)];congr 1;omega
 rw[e1,List.take_set_of_le (Nat.le_refl _)]
theorem bC{u u2:List Nat}{m:Nat}(h:u2.drop m=u.drop m):u2.drop (m+1)=u.drop (m+1):=by
 have h3:(u2.drop m).drop 1=(u.drop m).drop 1:=by rw[h]
 rwa [List.drop_drop,List.drop_drop] at h3
theorem round_end{u un q:List Nat}{V U j g r:Nat}(hj:j<q.length)(hju:j<=u.length)(hln:un.length=u.length)(ht:un.take j=u.take j)(hr:val (un.drop j)=r)(hW:val (u.drop j)=r+g*V)(hU:val u+V*(pw (j+1)*val (q.drop (j+1)))=U) :
  val un+V*(pw j*val ((q.set j g).drop j))=U:=by
 rw[cL un j (by omega),ht,hr,mG q j g hj]
 rw[cL u j hju,hW,qZ] at hU
 rw[<- hU]
 generalize val (u.take j)=T
 generalize val (q.drop (j+1))=Q
 generalize pw j=P
 have e1:P*(g+1000000000*Q)=P*g+P*(1000000000*Q):=Nat.mul_add _ _ _
 have e2:V*(P*g)=P*(g*V):=by rw[<- Nat.mul_assoc,Nat.mul_comm V P,Nat.mul_assoc,Nat.mul_comm V g]
 have e3:V*(P*(1000000000*Q))=V*(1000000000*P*Q):=by rw[<- Nat.mul_assoc P,Nat.mul_comm P 1000000000]
 rw[e1,Nat.mul_add V,e2,e3,Nat.mul_add P r]
 omega
theorem pos_end{u u2 v q:List Nat}{j n G U:Nat}(hu:Dig u)(hv:Dig v)(hn:v.length=n)(hj:j+n<u.length)(hjq:j<q.length)(hl:u2.length=u.length)(h1:u2.take j=u.take j)(h2:u2.drop (j+n)=u.drop (j+n))(hW:val (u.drop (j+1))<val v)
  (hx:val ((u2.drop j).take n)<val v) (he:val (u.drop j)=val ((u2.drop j).take n)+G*val v) (hU:val u+val v*(pw (j+1)*val (q.drop (j+1)))=U) :
  val (u2.set (j+n) 0)+val v*(pw j*val ((q.set j G).drop j))=U/\val ((u2.set (j+n) 0).drop j)<val v:=by
 obtain ⟨w1,_⟩:=window hv hn hW
 obtain ⟨a1,a2⟩:=val_window_set (v:=v) (d:=0) (by omega) (bC h2) w1
 rw[Nat.mul_zero,Nat.add_zero] at a2
 exact ⟨round_end hjq (by omega) (by simpa using hl) (a1.trans h1) a2 he hU,by rw[a2];exact hx⟩
theorem neg_end{u u2 u3 v q:List Nat}{j n G c r U:Nat}(hu3:Dig u3)(hv:Dig v)(hn:v.length=n)(hj:j+n<u.length)(hjq:j<q.length)(hl:u2.length=u.length)(hl3:u3.length=u.length)(h1:u2.take j=u.take j)(h2:u2.drop (j+n)=u.drop (j+n))(hW:val (u.drop (j+1))<val v)(hc:c<=1)
  (h31:u3.take j=(u2.set (j+n) 999999999).take j) (h32:u3.drop (j+n)=(u2.set (j+n) 999999999).drop (j+n)) (h3:val ((u3.drop j).take n)+pw n*c=val (((u2.set (j+n) 999999999).drop j).take n)+val (v.take n))
  (hr:r<val v) (he:val (u.drop j)=r+(G-1)*val v) (hx:val ((u2.drop j).take n)+val v=pw n+r) (hU:val u+val v*(pw (j+1)*val (q.drop (j+1)))=U) :
  val (u3.set (j+n) ((u3.getD (j+n) 0+c) % 1000000000))+val v*(pw j*val ((q.set j (G-1)).drop j))=U/\val ((u3.set (j+n) ((u3.getD (j+n) 0+c) % 1000000000)).drop j)<val v:=by
 obtain ⟨w1,_⟩:=window hv hn hW
 have hV:=uV hv
 rw[hn] at hV
 have e1:(u2.set (j+n) 999999999).drop j=(u2.drop j).set n 999999999:=by
  rw[List.drop_set,if_neg (by omega)];congr 1;omega
 have e2:((u2.set (j+n) 999999999).drop j).take n=(u2.drop j).take n:=by rw[e1,List.take_set_of_le (Nat.le_refl _)]
 rw[e2,<- hn,List.take_length,hn] at h3
 have h4:=take_window_lt hu3 j n
 have e3:u3.getD (j+n) 0=999999999:=by
  rw[getD_of_drop h32,getD_set _ _ _ _ (by omega),if_pos rfl]
 have e4:u3.drop (j+n+1)=u.drop (j+n+1):=by
  rw[bC h32,List.drop_set_of_lt (by omega),bC h2]
 have hc1:c=1:=by
  rcases Nat.lt_or_ge c 1 with h5 | h5
  ·have:c=0:=by omega
   subst this
   rw[Nat.mul_zero] at h3
   omega
  ·omega
 subst hc1
 rw[Nat.mul_one] at h3
 have e5:(u3.getD (j+n) 0+1) % 1000000000=0:=by rw[e3]
 rw[e5]
 obtain ⟨a1,a2⟩:=val_window_set (u:=u) (v:=v) (u2:=u3) (j:=j) (n:=n) (d:=0) (by omega) e4 w1
 rw[Nat.mul_zero,Nat.add_zero] at a2
 have e6:val ((u3.drop j).take n)=r:=by omega
 rw[e6] at a2
 have e7:u3.take j=u.take j:=by rw[h31,List.take_set_of_le (by omega)];exact h1
 exact ⟨round_end hjq (by omega) (by simpa using hl3) (a1.trans e7) a2 he hU,by rw[a2];exact hr⟩
theorem long_start{u0 v:List Nat}{n:Nat}(hu:Dig u0)(hn:v.length=n)(h2:2<=n)(hl:n<=u0.length)(hv:pw (n-1)<=val v):val ((u0++[0]).drop (u0.length+1-n))<val v:=by
 rw[List.drop_append_of_le_length (by omega),cK]
 have h3:=uV (hu.drop (u0.length+1-n))
 rw[List.length_drop] at h3
 have h4:pw (u0.length-(u0.length+1-n))=pw (n-1):=by congr 1;omega
 rw[h4] at h3
 simp only[val,Nat.mul_zero,Nat.add_zero]
 omega
theorem scl_div{a b q u:List Nat}(hb:zJ b)(h0:0<b.length)(hU:val u+val b*cB b*(pw 0*val (q.drop 0))=val a*cB b)(hr:val (u.drop 0)<val b*cB b):val q=val a / val b/\val u / cB b=val a % val b:=by
 rw[nE,Nat.one_mul,List.drop_zero] at hU
 rw[List.drop_zero] at hr
 have hs:=(aC hb h0).1
 generalize cB b=s at *
 have h1:s*(val b*val q)<=s*val a:=by
  have e:val b*s*val q=s*(val b*val q):=by rw[Nat.mul_comm (val b) s,Nat.mul_assoc]
  rw[e,Nat.mul_comm (val a) s] at hU;omega
 have h2:val b*val q<=val a:=Nat.le_of_mul_le_mul_left h1 hs
 have h3:val u=s*(val a-val b*val q):=by
  rw[Nat.mul_sub]
  have e:val b*s*val q=s*(val b*val q):=by rw[Nat.mul_comm (val b) s,Nat.mul_assoc]
  rw[e,Nat.mul_comm (val a) s] at hU;omega
 have h4:val a-val b*val q<val b:=by
  rw[h3,Nat.mul_comm (val b) s] at hr
  exact Nat.lt_of_mul_lt_mul_left hr
 have hb0:0<val b:=by omega
 have h5:val a=val b*val q+(val a-val b*val q):=by omega
 constructor
 ·rw[h5,Nat.mul_add_div hb0,Nat.div_eq_of_lt h4,Nat.add_zero]
 ·rw[h3,Nat.mul_div_cancel_left _ hs]
  conv=>rhs;rw[h5]
  rw[Nat.mul_add_mod,Nat.mod_eq_of_lt h4]
theorem guess_first0{W V v1 v2 u2 p top:Nat}(hV:(v1*1000000000+v2)*p<=V)(hW:W<(top*1000000000+u2+1)*p)(hv:0<v1)(hu:u2<1000000000):W / V<=top / v1:=by
 refine guess_first (p:=1000000000*p) (top:=top) ?_ ?_ hv rfl
 ·refine Nat.le_trans ?_ hV
  rw[<- Nat.mul_assoc]
  exact Nat.mul_le_mul_right p (by omega)
 ·refine Nat.lt_of_lt_of_le hW ?_
  rw[<- Nat.mul_assoc]
  exact Nat.mul_le_mul_right p (by omega)
theorem guess_top{v1 t2 t1:Nat}(hv:0<v1)(h:t2<=v1)(h1:t1<1000000000):(t2*1000000000+t1) / v1<=1999999999:=by
 refine Nat.div_le_of_le_mul ?_
 omega
theorem guess_dec{G v1 R top:Nat}(h0:0<G)(h:G*v1+R=top):(G-1)*v1+(R+v1)=top:=by
 obtain ⟨g,rfl⟩:∃ g,G=g+1:=⟨G-1,by omega⟩
 rw[Nat.add_mul,Nat.one_mul] at h
 rw[Nat.add_sub_cancel];omega
theorem guess_break{g v1 R t2 t1:Nat}(h:g*v1+R=t2*1000000000+t1)(h2:t2<=v1)(h1:t1<1000000000)(hR:1000000000<=R):g<1000000000:=by
 rcases Nat.lt_or_ge g 1000000000 with h3 | h3
 ·exact h3
 ·exfalso
  have:=Nat.mul_le_mul_right v1 h3
  omega
theorem val_take_of_lt{u:List Nat}{n:Nat}(h:val u<pw n):val (u.take n)=val u:=by
 by_cases hn:n<=u.length
 ·have h1:=cL u n hn
  rcases Nat.eq_zero_or_pos (val (u.drop n)) with h2 | h2
  ·rw[h2,Nat.mul_zero,Nat.add_zero] at h1;exact h1.symm
  ·have:=Nat.mul_le_mul_left (pw n) h2
   omega
 ·rw[List.take_of_length_le (by omega)]
theorem ofNat_val_len{l:List Nat}(hd:Dig l):(ofNat (val l)).length<=l.length:=qJ (uV hd)
end Go.Fid
