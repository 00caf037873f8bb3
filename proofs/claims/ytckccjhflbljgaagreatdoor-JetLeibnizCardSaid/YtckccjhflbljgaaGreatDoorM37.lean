/- Part 37 of a proof: rules, plain facts, and functions walked. -/
import Derived.Test.YtckccjhflbljgaaGreatDoorM35
import Derived.Test.YtckccjhflbljgaaGreatDoorM34
import Derived.Test.YtckccjhflbljgaaGreatDoorM17
import Derived.Test.YtckccjhflbljgaaGreatDoorM36
import Derived.Test.YtckccjhflbljgaaGreatDoorM29
import Derived.Test.YtckccjhflbljgaaGreatDoorM18
import Derived.Test.YtckccjhflbljgaaGreatDoorM32
import Derived.Test.YtckccjhflbljgaaGreatDoorM26
import Derived.Test.YtckccjhflbljgaaGreatDoorM30
set_option linter.all false
set_option maxRecDepth 4000
namespace Go.Fid
def rdL:List UInt8->Nat->Nat
 |[],a=>a
 |c::l,a=>rdL l (10*a+(c.toNat-48))
def dec(a:Nat)(l:List UInt8):Nat:=rdL l a
theorem dec_nil(a:Nat):dec a []=a:=by unfold dec;rw[rdL]
theorem dec_cons(a:Nat)(c:UInt8)(l:List UInt8):dec a (c::l)=dec (10*a+(c.toNat-48)) l:=by unfold dec;rw[rdL]
theorem dec_app:∀ (l m:List UInt8) (a:Nat),dec a (l++m)=dec (dec a l) m
 |[],_,_=>by rw[dec_nil,List.nil_append]
 |c::l,m,a=>by rw[List.cons_append,dec_cons,dec_cons];exact dec_app l m _
def Dgt(c:UInt8):Prop:=48<=c.toNat/\c.toNat<=57
theorem dg_byte:∀ n:Nat,n<10->(UInt8.ofNat (48+n)).toNat=48+n:=by decide
theorem dg_dgt{n:Nat}(h:n<10):Dgt (UInt8.ofNat (48+n)):=by
 unfold Dgt;rw[dg_byte n h];omega
theorem dgs_dgt:∀ (f n:Nat),∀ c∈dgs f n,Dgt c
 |0,_,c,hc=>by simp [dgs] at hc
 |f+1,n,c,hc=>by
  unfold dgs at hc
  by_cases h:n<10
  ·rw[if_pos h,List.mem_singleton] at hc;subst hc;exact dg_dgt h
  ·rw[if_neg h,List.mem_append,List.mem_singleton] at hc
   rcases hc with hc | hc
   ·exact dgs_dgt f _ c hc
   ·subst hc;exact dg_dgt (Nat.mod_lt _ (by decide))
theorem dec_one(a:Nat)(c:UInt8):dec a [c]=10*a+(c.toNat-48):=by rw[dec_cons,dec_nil]
theorem dgs_val:∀ (f n a:Nat),n<10 ^ f->dec a (dgs f n)=a*10 ^ (dgs f n).length+n
 |0,n,a,h=>by
  have:n=0:=Nat.lt_one_iff.1 h
  subst this
  show dec a []=a*1+0
  rw[dec_nil];omega
 |f+1,n,a,h=>by
  unfold dgs
  by_cases h9:n<10
  ·rw[if_pos h9,dec_one,dg_byte n h9,List.length_singleton,Nat.pow_one]
   omega
  ·have h2:n / 10<10 ^ f:=by rw[Nat.pow_succ] at h;exact Nat.div_lt_of_lt_mul (by rw[Nat.mul_comm];exact h)
   have h3:=dgs_val f (n / 10) a h2
   have h4:=Nat.mod_lt n (show 0<10 by decide)
   rw[if_neg h9,dec_app,h3,dec_one,dg_byte _ h4,List.length_append,List.length_singleton,Nat.pow_succ]
   have e:a*(10 ^ (dgs f (n / 10)).length*10)=10*(a*10 ^ (dgs f (n / 10)).length):=by rw[<- Nat.mul_assoc,Nat.mul_comm]
   rw[e]
   generalize a*10 ^ (dgs f (n / 10)).length=X
   clear h h2 h3 e
   omega
theorem dgs_lenk:∀ (f k n:Nat),1<=k->n<10 ^ k->(dgs f n).length<=k
 |0,k,n,h,_=>by simp [dgs]
 |f+1,k,n,h,hn=>by
  unfold dgs
  by_cases h9:n<10
  ·rw[if_pos h9];exact h
  ·rw[if_neg h9,List.length_append,List.length_singleton]
   match k,h,hn with
   |1,_,hn=>exact absurd (by simpa using hn) h9
   |k+2,_,hn=>
    have:=dgs_lenk f (k+1) (n / 10) (by omega) (by rw[Nat.pow_succ] at hn;omega)
    omega
theorem itN_val{n:Nat}(h:n<1000000000)(a:Nat):dec a (itN n)=a*10 ^ (itN n).length+n:=dgs_val 20 n a (Nat.lt_of_lt_of_le h (by decide))
theorem itN_le{n:Nat}(h:n<1000000000):(itN n).length<=9:=dgs_lenk 20 9 n (by decide) h
theorem dec_zeros:∀ (k a:Nat),dec a (List.replicate k 48)=a*10 ^ k
 |0,a=>by rw[List.replicate_zero,dec_nil,Nat.pow_zero,Nat.mul_one]
 |k+1,a=>by
  have e:(48:UInt8).toNat-48=0:=rfl
  rw[List.replicate_succ,dec_cons,e,Nat.add_zero,dec_zeros k,Nat.pow_succ,Nat.mul_comm 10 a,Nat.mul_assoc,Nat.mul_comm 10]
theorem padN_val{n:Nat}(h:n<1000000000)(a:Nat):dec a (iU n)=a*1000000000+n:=by
 unfold iU
 rw[dec_app,dec_zeros,itN_val h,Nat.mul_assoc,<- Nat.pow_add,Nat.sub_add_cancel (itN_le h)]
theorem pads_val:∀ (l:List Nat) (a:Nat),(∀ d∈l,d<1000000000)->dec a ((l.map iU).flatten)=l.foldl (fun a d=>a*1000000000+d) a
 |[],a,_=>by rw[List.map_nil,List.flatten_nil,dec_nil];rfl
 |d::l,a,h=>by
  rw[List.map_cons,List.flatten_cons,dec_app,padN_val (h d (by simp)),pads_val l _ (fun x hx=>h x (by simp [hx]))];rfl
theorem foldl_val:∀ l:List Nat,l.reverse.foldl (fun a d=>a*1000000000+d) 0=val l
 |[]=>rfl
 |x::l=>by
  rw[List.reverse_cons,List.foldl_append,foldl_val l,nM]
  show val l*1000000000+x=_
  omega
theorem txG_val{l:List Nat}(h:∀ d∈l,d<1000000000)(hl:l≠[]):dec 0 (txG l)=l.foldl (fun a d=>a*1000000000+d) 0:=by
 cases l with
 |nil=>exact absurd rfl hl
 |cons d l=>
  show dec 0 (itN d++(l.map iU).flatten)=_
  rw[dec_app,itN_val (h d (by simp)),pads_val l _ (fun x hx=>h x (by simp [hx]))]
  simp
theorem txN_val(n:Nat):dec 0 (txN n)=n:=by
 unfold txN
 by_cases h:(ofNat n).length=0
 ·rw[if_pos h]
  have:n=0:=iA.1 (List.eq_nil_of_length_eq_zero h)
  subst this;rfl
 ·rw[if_neg h,txG_val (fun d hd=>kE n d (List.mem_reverse.1 hd)) (fun e=>h (by have:=congrArg List.length e;simpa using this)),foldl_val,kD]
theorem txN_dgt(n:Nat):(∀ c∈txN n,Dgt c)/\txN n≠[]:=by
 unfold txN
 by_cases h:(ofNat n).length=0
 ·rw[if_pos h]
  refine ⟨fun c hc=>?_,by simp⟩
  rw[List.mem_singleton] at hc;subst hc;exact ⟨by decide,by decide⟩
 ·rw[if_neg h]
  generalize hg:(ofNat n).reverse=l
  cases l with
  |nil=>exact absurd (by have:=congrArg List.length hg;simpa using this) h
  |cons d l=>
   refine ⟨fun c hc=>?_,fun e=>?_⟩
   ·have hc:c∈itN d++(l.map iU).flatten:=hc
    rw[List.mem_append] at hc
    rcases hc with hc | hc
    ·exact dgs_dgt 20 d c hc
    ·obtain ⟨y,hy,hc⟩:=List.mem_flatten.1 hc
     obtain ⟨x,_,rfl⟩:=List.mem_map.1 hy
     unfold iU at hc
     rw[List.mem_append] at hc
     rcases hc with hc | hc
     ·rw[(List.mem_replicate.1 hc).2];exact ⟨by decide,by decide⟩
     ·exact dgs_dgt 20 x c hc
   ·have e:itN d++(l.map iU).flatten=[]:=e
    have e2:=(List.append_eq_nil_iff.1 e).1
    unfold itN dgs at e2
    split at e2<;>simp at e2
theorem txZ_ok(z:Int):∀ c∈aF z,c≠47:=fun c hc e=>by
 subst e
 unfold aF at hc
 have hd:=(txN_dgt z.natAbs).1
 split at hc
 ·rw[List.mem_cons] at hc
  rcases hc with hc | hc
  ·cases hc
  ·have:=(hd _ hc).1;revert this;decide
 ·have:=(hd _ hc).1;revert this;decide
theorem txZ_inj{z y:Int}(h:aF z=aF y):z=y:=by
 have hz:=txN_dgt z.natAbs
 have hy:=txN_dgt y.natAbs
 have no:∀ n:Nat,∀ l,txN n≠45::l:=fun n l e=>by
  have:=((txN_dgt n).1 45 (by rw[e];simp)).1
  revert this;decide
 unfold aF at h
 by_cases h1:z<0
 ·rw[if_pos h1] at h
  by_cases h2:y<0
  ·rw[if_pos h2] at h
   have e:=congrArg (dec 0) (List.cons.inj h).2
   rw[txN_val,txN_val] at e;omega
  ·rw[if_neg h2] at h;exact absurd h.symm (no _ _)
 ·rw[if_neg h1] at h
  by_cases h2:y<0
  ·rw[if_pos h2] at h;exact absurd h (no _ _)
  ·rw[if_neg h2] at h
   have e:=congrArg (dec 0) h
   rw[txN_val,txN_val] at e;omega
theorem split47:∀ (a b r s:List UInt8),(∀ c∈a,c≠47)->(∀ c∈b,c≠47)->(r=[]\/∃ l,r=47::l)->(s=[]\/∃ l,s=47::l)->a++r=b++s->a=b/\r=s
 |[],[],r,s,_,_,_,_,h=>⟨rfl,h⟩
 |[],y::b,r,s,_,hb,hr,hs,h=>by
  rcases hr with rfl | ⟨l,rfl⟩
  ·cases h
  ·have h:=(List.cons.inj h).1
   exact absurd h.symm (hb y (by simp))
 |x::a,[],r,s,ha,_,hr,hs,h=>by
  rcases hs with rfl | ⟨l,rfl⟩
  ·cases h
  ·have h:=(List.cons.inj h).1
   exact absurd h (ha x (by simp))
 |x::a,y::b,r,s,ha,hb,hr,hs,h=>by
  obtain ⟨h1,h2⟩:=List.cons.inj h
  obtain ⟨e1,e2⟩:=split47 a b r s (fun c hc=>ha c (by simp [hc])) (fun c hc=>hb c (by simp [hc])) hr hs h2
  exact ⟨by rw[h1,e1],e2⟩
theorem txQ_inj{p q:Rat}(h:txQ p=txQ q):p=q:=by
 have form:∀ q:Rat,∃ r,(if q.den=1 then aF q.num else aF q.num++47::aF q.den)=aF q.num++r/\((q.den=1/\r=[])\/(q.den≠1/\r=47::aF q.den)):=fun q=>by
  by_cases h:q.den=1
  ·exact ⟨[],by rw[if_pos h,List.append_nil],.inl ⟨h,rfl⟩⟩
  ·exact ⟨_,if_neg h,.inr ⟨h,rfl⟩⟩
 unfold txQ at h
 obtain ⟨r,e1,c1⟩:=form p
 obtain ⟨s,e2,c2⟩:=form q
 rw[e1,e2] at h
 have h:aF p.num++r=aF q.num++s:=by
  have:=congrArg (fun b:ByteArray=>b.data.toList) h
  simpa using this
 obtain ⟨a,b⟩:=split47 _ _ _ _ (txZ_ok _) (txZ_ok _) (by rcases c1 with c | c;exact .inl c.2;exact .inr ⟨_,c.2⟩) (by rcases c2 with c | c;exact .inl c.2;exact .inr ⟨_,c.2⟩) h
 have en:=txZ_inj a
 have ed:p.den=q.den:=by
  rcases c1 with ⟨c,d⟩ | ⟨c,d⟩
  ·rcases c2 with ⟨c',d'⟩ | ⟨c',d'⟩
   ·rw[c,c']
   ·rw[d,d'] at b;cases b
  ·rcases c2 with ⟨c',d'⟩ | ⟨c',d'⟩
   ·rw[d,d'] at b;cases b
   ·rw[d,d'] at b
    have:=txZ_inj (List.cons.inj b).2;omega
 exact Rat.ext en ed
theorem txI:TxI:=fun p q _ _ h=>txQ_inj h
end Go.Fid
namespace Go.Proofs.YtckccjhflbljgaaGreatDoor
open Go.Fid
section
variable {xs:List Rat} {q:List (List kT)} {ts:List (List jO)} {i:Nat}
end
end Go.Proofs.YtckccjhflbljgaaGreatDoor
namespace Go.Fid
end Go.Fid
namespace Go.Proofs.YtckccjhflbljgaaGreatDoor
open Go.Fid
section
variable (F:Nat->Nat->kT) {r c i j p q:Nat}
end
def sm(f:Nat->Rat):Nat->Rat
 |0=>0
 |n+1=>sm f n+f n
end Go.Proofs.YtckccjhflbljgaaGreatDoor
namespace Go.Proofs.YtckccjhflbljgaaGreatDoor
open Go.Fid
def bC(d:Nat)(x:jO):jO:=⟨x.op,if 1<=kZ x.op then x.a+(d:Int) else x.a,if kZ x.op=2 then x.b+(d:Int) else x.b,x.n⟩
theorem aI{α:Type}{A B:List α}{d:α}{z:Int}(h:0<=z):(A++B).getD (z+(A.length:Int)).toNat d=B.getD z.toNat d:=by
 rw[show (z+(A.length:Int)).toNat=A.length+z.toNat by omega,List.getD_eq_getElem?_getD,List.getElem?_append_right (by omega),Nat.add_sub_cancel_left,List.getD_eq_getElem?_getD]
theorem app_l{α:Type}{A B:List α}{d:α}{k:Nat}(h:k<A.length):(A++B).getD k d=A.getD k d:=by
 rw[List.getD_eq_getElem?_getD,List.getElem?_append_left h,<- List.getD_eq_getElem?_getD]
structure Gd (z:Int) (k:Nat) (x:jO):Prop where
 bad:¬ cM x
 ord:¬ dJ ((k:Nat):Int) x
 rng:¬ lN z x
theorem Gd.a{z:Int}{k:Nat}{x:jO}(h:Gd z k x)(h1:1<=kZ x.op):0<=x.a/\x.a<k:=by
 have:=h.ord;unfold dJ at this;omega
theorem Gd.b{z:Int}{k:Nat}{x:jO}(h:Gd z k x)(h1:kZ x.op=2):0<=x.b/\x.b<k:=by
 have:=h.ord;unfold dJ at this;omega
theorem Gd.kd{z:Int}{k:Nat}{x:jO}(h:Gd z k x):(kZ x.op=0/\(x.op=0\/x.op=1))\/(kZ x.op=1/\(x.op=6\/x.op=7))\/(kZ x.op=2/\(x.op=2\/x.op=3\/x.op=4\/x.op=5)):=by
 rcases xS x.op with h1 | h1 | h1 | h1
 ·exact .inl h1
 ·exact .inr (.inl h1)
 ·exact .inr (.inr h1)
 ·exact absurd (Or.inl (by omega)) h.bad
theorem gd_of{z:Int}{ss:List Int}{x:jO}{k:Nat}(h:ndC z ss x=0)(hk:ss.length=k):Gd z k x:=by
 obtain ⟨h1,h2,h3,_⟩:=nd_0 h
 rw[hk] at h2;exact ⟨h1,h2,h3⟩
theorem szN_sh{z:Int}{A B:List Int}{x:jO}{k:Nat}(h:Gd z k x):gN (A++B) (bC A.length x)=gN B x:=by
 have ho:(bC A.length x).op=x.op:=rfl
 have gA:1<=kZ x.op->(A++B).getD (bC A.length x).a.toNat 0=B.getD x.a.toNat 0:=fun h1=>by
  rw[show (bC A.length x).a=x.a+(A.length:Int) from if_pos h1];exact aI (h.a h1).1
 have gB:kZ x.op=2->(A++B).getD (bC A.length x).b.toNat 0=B.getD x.b.toNat 0:=fun h1=>by
  rw[show (bC A.length x).b=x.b+(A.length:Int) from if_pos h1];exact aI (h.b h1).1
 unfold gN
 rw[ho]
 rcases h.kd with ⟨e,f⟩ | ⟨e,f⟩ | ⟨e,f⟩
 ·rw[if_pos e,if_pos e]
 ·have n0:¬ kZ x.op=0:=by omega
  rw[gA (by omega),if_neg n0,if_neg n0]
  rcases f with f | f
  ·rw[if_pos f,if_pos f]
  ·have n6:¬ x.op=6:=by omega
   rw[if_neg n6,if_neg n6,if_pos f,if_pos f]
 ·rw[gA (by omega),gB e]
theorem gd_sh{z:Int}{d k:Nat}{x:jO}(h:Gd z k x):Gd z (d+k) (bC d x):=by
 have ho:(bC d x).op=x.op:=rfl
 have hn:(bC d x).n=x.n:=rfl
 have hA:(bC d x).a=if 1<=kZ x.op then x.a+(d:Int) else x.a:=rfl
 have hB:(bC d x).b=if kZ x.op=2 then x.b+(d:Int) else x.b:=rfl
 have h1:=h.bad;have h2:=h.ord;have h3:=h.rng
 refine ⟨?_,?_,?_⟩
 ·unfold cM at *
  rw[ho,hn,hA,hB]
  rcases h.kd with ⟨e,f⟩ | ⟨e,f⟩ | ⟨e,f⟩
  ·rw[if_neg (by omega),if_neg (by omega)];exact h1
  ·rw[if_neg (show ¬ kZ x.op=2 by omega)]
   rintro (h | h | h | h)
   ·omega
   ·exact h1 (.inr (.inl h))
   ·omega
   ·exact h1 (.inr (.inr (.inr h)))
  ·rintro (h | h | h | h)
   ·omega
   ·omega
   ·omega
   ·exact h1 (.inr (.inr (.inr h)))
 ·unfold dJ at *
  rw[ho,hA,hB]
  rcases h.kd with ⟨e,f⟩ | ⟨e,f⟩ | ⟨e,f⟩
  ·omega
  ·rw[if_pos (show 1<=kZ x.op by omega)];omega
  ·rw[if_pos (show 1<=kZ x.op by omega),if_pos e];omega
 ·unfold lN at *
  rw[ho,hA]
  rcases h.kd with ⟨e,f⟩ | ⟨e,f⟩ | ⟨e,f⟩
  ·rw[if_neg (by omega)];exact h3
  ·omega
  ·omega
structure Sm (bx:List R2) (s:List jO):Prop where
 t:eR bx s
 h:∀ k,k<s.length->gN (vZ s k) (s.getD k tz)<=70
 l:s.length<=100
theorem szU_at{t:List jO}{k:Nat}:∀ {n},k<n->(vZ t n).getD k 0=gN (vZ t k) (t.getD k tz)
 |0,h=>by omega
 |n+1,h=>by
  have hl:=qM t n
  rw[vZ]
  rcases Nat.lt_or_ge k n with h1 | h1
  ·rw[app_l (by omega)];exact szU_at h1
  ·obtain rfl:k=n:=by omega
   rw[List.getD_eq_getElem?_getD,List.getElem?_append_right (by omega),hl,Nat.sub_self];rfl
section
variable {bx:List R2} {s t:List jO}
theorem dz_no{w:List jO}(h:dzT bx w=false){k:Nat}(hk:k<w.length):dzB bx w k=false:=by
 unfold dzT at h
 rw[List.any_eq_false] at h
 have:=h k (List.mem_range.2 hk)
 simpa using this
end
def plO(o:Int)(d m:Nat):jO:=⟨o,(d:Int)-1,((d+m:Nat):Int)-1,zr⟩
theorem plO_op(o:Int)(d m:Nat):(plO o d m).op=o:=rfl
theorem plO_kd{o:Int}(ho:o=2\/o=4)(d m:Nat):kZ (plO o d m).op=2:=by rw[plO_op];rcases ho with rfl | rfl<;>decide
def dM(o:Int)(s t:List jO):List jO:=s++(t.map (bC s.length)++[plO o s.length t.length])
theorem jn_len(o:Int)(s t:List jO):(dM o s t).length=s.length+t.length+1:=by unfold dM;simp;omega
theorem jn_s{o:Int}{s t:List jO}{k:Nat}(h:k<s.length):(dM o s t).getD k tz=s.getD k tz:=by
 unfold dM
 rw[List.getD_eq_getElem?_getD,List.getElem?_append_left h,<- List.getD_eq_getElem?_getD]
theorem jn_t{o:Int}{s t:List jO}{k:Nat}(h:k<t.length):(dM o s t).getD (s.length+k) tz=bC s.length (t.getD k tz):=by
 unfold dM
 rw[List.getD_eq_getElem?_getD,List.getElem?_append_right (by omega),show s.length+k-s.length=k by omega,List.getElem?_append_left (by rw[List.length_map];exact h),List.getElem?_map,List.getElem?_eq_getElem h,List.getD_eq_getElem?_getD,List.getElem?_eq_getElem h];rfl
theorem jn_e(o:Int)(s t:List jO):(dM o s t).getD (s.length+t.length) tz=plO o s.length t.length:=by
 unfold dM
 rw[List.getD_eq_getElem?_getD,List.getElem?_append_right (by omega),List.getElem?_append_right (by rw[List.length_map];omega),show s.length+t.length-s.length-(t.map (bC s.length)).length=0 by rw[List.length_map];omega];rfl
theorem jn_split{o:Int}{s t:List jO}{k:Nat}(h:k<(dM o s t).length):k<s.length\/(∃ j,j<t.length/\k=s.length+j)\/k=s.length+t.length:=by
 rw[jn_len] at h
 rcases Nat.lt_or_ge k s.length with h1 | h1
 ·exact .inl h1
 ·rcases Nat.lt_or_ge (k-s.length) t.length with h2 | h2
  ·exact .inr (.inl ⟨k-s.length,h2,by omega⟩)
  ·exact .inr (.inr (by omega))
theorem jnS{o:Int}{s t:List jO}:∀ {k},k<=s.length->vZ (dM o s t) k=vZ s k
 |0,_=>rfl
 |k+1,h=>by rw[vZ,vZ,jnS (o:=o) (s:=s) (t:=t) (k:=k) (by omega),jn_s (by omega)]
theorem jnU{o:Int}{s t:List jO}{z:Int}(ht:dD z t t.length):∀ {k},k<=t.length->vZ (dM o s t) (s.length+k)=vZ s s.length++vZ t k
 |0,_=>by rw[Nat.add_zero,jnS (Nat.le_refl _)];exact (List.append_nil _).symm
 |k+1,h=>by
  have h1:=jnU (o:=o) (s:=s) ht (k:=k) (by omega)
  have hg:=gd_of (ht k (by omega)) (qM t k)
  rw[show s.length+(k+1)=s.length+k+1 by omega,vZ,vZ,h1,jn_t (by omega)]
  have e1:=szN_sh (A:=vZ s s.length) (B:=vZ t k) hg
  rw[qM] at e1
  rw[e1,List.append_assoc]
section
variable {bx:List R2} {s t:List jO}
theorem jn_sz{o:Int}(ho:o=2\/o=4)(hs:Sm bx s)(ht:Sm bx t):1<=gN (vZ (dM o s t) (s.length+t.length)) (plO o s.length t.length)/\gN (vZ (dM o s t) (s.length+t.length)) (plO o s.length t.length)<=140:=by
 have h1:=mQ hs.t.c0
 have h2:=mQ ht.t.c0
 have e:=jnU (o:=o) (s:=s) h2.2.2.2.2 (Nat.le_refl _)
 have l1:=qM s s.length
 have l2:=qM t t.length
 have ea:(vZ (dM o s t) (s.length+t.length)).getD (plO o s.length t.length).a.toNat 0=gN (vZ s (s.length-1)) (s.getD (s.length-1) tz):=by
  rw[e,show (plO o s.length t.length).a.toNat=s.length-1 by unfold plO;dsimp only;omega,app_l (by omega)];exact szU_at (by omega)
 have eb:(vZ (dM o s t) (s.length+t.length)).getD (plO o s.length t.length).b.toNat 0=gN (vZ t (t.length-1)) (t.getD (t.length-1) tz):=by
  rw[e,show (plO o s.length t.length).b.toNat=((t.length:Int)-1+((vZ s s.length).length:Int)).toNat by unfold plO;dsimp only;omega,aI (by omega),show ((t.length:Int)-1).toNat=t.length-1 by omega];exact szU_at (by omega)
 have g1:=hs.h (s.length-1) (by omega)
 have g2:=ht.h (t.length-1) (by omega)
 have p1:=(sz_rng h1.2.2.2.2 (s.length-1) (by omega)).1
 have p2:=(sz_rng h2.2.2.2.2 (t.length-1) (by omega)).1
 rw[szU_at (by omega)] at p1 p2
 have e2:gN (vZ (dM o s t) (s.length+t.length)) (plO o s.length t.length)=(vZ (dM o s t) (s.length+t.length)).getD (plO o s.length t.length).a.toNat 0+(vZ (dM o s t) (s.length+t.length)).getD (plO o s.length t.length).b.toNat 0:=by
  unfold gN
  rw[plO_kd ho,plO_op,if_neg (by decide),if_neg (show ¬ o=6 by omega),if_neg (show ¬ o=7 by omega)]
 rw[e2,ea,eb];omega
theorem jn_tame{o:Int}(ho:o=2\/o=4)(hs:Sm bx s)(ht:Sm bx t):eR bx (dM o s t):=by
 have h1:=mQ hs.t.c0
 have h2:=mQ ht.t.c0
 have hz:=jn_sz ho hs ht
 have hsl:=hs.l;have htl:=ht.l
 have up:dD ((bx.length:Nat):Int) (dM o s t) (dM o s t).length:=fun k hk=>by
  rcases jn_split hk with h | ⟨j,h,rfl⟩ | rfl
  ·rw[jnS (o:=o) (t:=t) (Nat.le_of_lt h),jn_s h];exact h1.2.2.2.2 k h
  ·have hn:=h2.2.2.2.2 j h
   have hg:=gd_of hn (qM t j)
   have e1:=szN_sh (A:=vZ s s.length) (B:=vZ t j) hg
   rw[qM] at e1
   have h4:=(nd_0 hn).2.2.2
   have g2:=gd_sh (d:=s.length) hg
   rw[jnU (o:=o) (s:=s) h2.2.2.2.2 (Nat.le_of_lt h),jn_t h]
   exact nd_y g2.bad (by rw[List.length_append,qM,qM];exact g2.ord) g2.rng (by rw[e1];omega)
  ·rw[jn_e]
   refine nd_y ?_ ?_ ?_ (by omega)
   ·unfold cM
    rw[plO_kd ho,plO_op]
    rintro (h | h | h | h)
    ·exact absurd h (by decide)
    ·exact absurd h.1 (by decide)
    ·omega
    ·exact absurd (show unsB zr=false from h.2) (by decide)
   ·rw[qM]
    unfold dJ
    rw[plO_kd ho]
    unfold plO
    dsimp only
    omega
   ·unfold lN
    rw[plO_op]
    rintro ⟨h,_⟩
    omega
 refine ⟨(tm_yes (by omega) (by rw[jn_len];omega) (by rw[jn_len];omega) up).1,fun x hx=>?_,hs.t.b,fun k hk=>?_⟩
 ·unfold dM at hx
  rcases List.mem_append.1 hx with h | h
  ·exact hs.t.q x h
  ·rcases List.mem_append.1 h with h | h
   ·obtain ⟨y,hy,rfl⟩:=List.mem_map.1 h
    exact ht.t.q y hy
   ·rw[List.mem_singleton.1 h]
    show yX zr (vC zr) 8
    exact iY (by decide) (by decide) (by decide)
 ·rcases jn_split hk with h | ⟨j,h,rfl⟩ | rfl
  ·rw[jnS (o:=o) (t:=t) (Nat.le_of_lt h),jn_s h];exact hs.t.s k h
  ·have hg:=gd_of (h2.2.2.2.2 j h) (qM t j)
   have e1:=szN_sh (A:=vZ s s.length) (B:=vZ t j) hg
   rw[qM] at e1
   rw[jnU (o:=o) (s:=s) h2.2.2.2.2 (Nat.le_of_lt h),jn_t h,e1];exact ht.t.s j h
  ·rw[jn_e];exact hz.2
end
section
variable {A:Type} {d:A} {f:Nf A}
theorem nf_sh(hf:NfOk f){z:Int}{P Q:List A}{x:jO}{k:Nat}(h:Gd z k x):nfV d f (P++Q) (bC P.length x)=nfV d f Q x:=by
 have ho:(bC P.length x).op=x.op:=rfl
 have hn:(bC P.length x).n=x.n:=rfl
 unfold nfV
 rw[ho,hn]
 rcases fC x.op with e | e | e
 ·rw[show (bC P.length x).a=x.a from if_neg (by omega)];exact hf.k0 _ _ _ _ _ _ _ e
 ·rw[show (bC P.length x).a=x.a+(P.length:Int) from if_pos (by omega),aI (h.a (by omega)).1];exact hf.k1 _ _ _ _ _ _ _ e
 ·rw[show (bC P.length x).a=x.a+(P.length:Int) from if_pos (by omega),aI (h.a (by omega)).1,show (bC P.length x).b=x.b+(P.length:Int) from if_pos e,aI (h.b e).1];exact hf.k2 _ _ _ _ _ _ e
theorem jnN{o:Int}{s t:List jO}{z:Int}(hf:NfOk f)(ht:dD z t t.length):∀ {k},k<=t.length->cU d f (dM o s t) (s.length+k)=cU d f s s.length++cU d f t k
 |0,_=>by rw[Nat.add_zero];unfold dM;rw[nfU_app s _ _ (Nat.le_refl _)];exact (List.append_nil _).symm
 |k+1,h=>by
  have h1:=jnN (o:=o) (s:=s) hf ht (k:=k) (by omega)
  have hg:=gd_of (ht k (by omega)) (qM t k)
  rw[show s.length+(k+1)=s.length+k+1 by omega,cU,cU,h1,jn_t (by omega)]
  have e1:=nf_sh (d:=d) hf (P:=cU d f s s.length) (Q:=cU d f t k) hg
  rw[iX] at e1
  rw[e1,List.append_assoc]
theorem dfU_app(i:Int)(t l:List jO):∀ k,k<=t.length->iZ d f i (t++l) k=iZ d f i t k
 |0,_=>rfl
 |k+1,h=>by
  rw[iZ,iZ,dfU_app i t l k (by omega),nfU_app t l k (by omega),gU (show k<t.length by omega)]
theorem dfN_sh{i:Int}{D:Nat}{x:jO}{va vb da db q:A}:dfN d f i (bC D x) va vb da db q=dfN d f i x va vb da db q:=by
 unfold dfN
 rw[show (bC D x).op=x.op from rfl]
 by_cases h0:x.op=0
 ·rw[if_pos h0,if_pos h0]
 ·rw[if_neg h0,if_neg h0]
  by_cases h1:x.op=1
  ·rw[if_pos h1,if_pos h1,show (bC D x).a=x.a from if_neg (by rw[h1];decide)]
  ·rw[if_neg h1,if_neg h1]
theorem jnD{o:Int}{s t:List jO}{z i:Int}(hf:NfOk f)(ht:dD z t t.length):∀ {k},k<=t.length->iZ d f i (dM o s t) (s.length+k)=iZ d f i s s.length++iZ d f i t k
 |0,_=>by rw[Nat.add_zero];unfold dM;rw[dfU_app i s _ _ (Nat.le_refl _)];exact (List.append_nil _).symm
 |k+1,h=>by
  have h1:=jnD (o:=o) (s:=s) (i:=i) hf ht (k:=k) (by omega)
  have h2:=jnN (o:=o) (s:=s) (d:=d) hf ht (k:=k) (by omega)
  have hn:=ht k (by omega)
  have hg:=gd_of hn (qM t k)
  rw[show s.length+(k+1)=s.length+k+1 by omega,iZ,iZ,h1,h2,jn_t (by omega)]
  have e1:=nf_sh (d:=d) hf (P:=cU d f s s.length) (Q:=cU d f t k) hg
  rw[iX] at e1
  rw[e1,List.append_assoc]
  congr 2
  have l1:=iX (d:=d) (f:=f) s s.length
  have l2:=dfU_len (d:=d) (f:=f) i s s.length
  have ha:0<kZ (t.getD k tz).op->(bC s.length (t.getD k tz)).a=(t.getD k tz).a+(s.length:Int):=fun q=>if_pos (by omega)
  have hb:1<kZ (t.getD k tz).op->(bC s.length (t.getD k tz)).b=(t.getD k tz).b+(s.length:Int):=fun q=>if_pos (by rcases fC (t.getD k tz).op with e | e | e<;>omega)
  have o07:0<=(t.getD k tz).op/\(t.getD k tz).op<=7:=by rcases hg.kd with ⟨_,q⟩ | ⟨_,q⟩ | ⟨_,q⟩<;>omega
  have c:=dfN_congr (d:=d) (f:=f) (i:=i) (x:=t.getD k tz) (q:=nfV d f (cU d f t k) (t.getD k tz)) (q':=nfV d f (cU d f t k) (t.getD k tz))
   (va:=(cU d f s s.length++cU d f t k).getD (bC s.length (t.getD k tz)).a.toNat d) (vb:=(cU d f s s.length++cU d f t k).getD (bC s.length (t.getD k tz)).b.toNat d) (da:=(iZ d f i s s.length++iZ d f i t k).getD (bC s.length (t.getD k tz)).a.toNat d) (db:=(iZ d f i s s.length++iZ d f i t k).getD (bC s.length (t.getD k tz)).b.toNat d)
   (va':=(cU d f t k).getD (t.getD k tz).a.toNat d) (vb':=(cU d f t k).getD (t.getD k tz).b.toNat d) (da':=(iZ d f i t k).getD (t.getD k tz).a.toNat d) (db':=(iZ d f i t k).getD (t.getD k tz).b.toNat d)
   (fun q=>by
    have q1:=(hg.a (by omega)).1
    rw[ha q]
    exact ⟨by have:=aI (A:=cU d f s s.length) (B:=cU d f t k) (d:=d) q1;rwa [l1] at this,by have:=aI (A:=iZ d f i s s.length) (B:=iZ d f i t k) (d:=d) q1;rwa [l2] at this⟩)
   (fun q=>by
    have q1:=(hg.b (by rcases fC (t.getD k tz).op with e | e | e<;>omega)).1
    rw[hb q]
    exact ⟨by have:=aI (A:=cU d f s s.length) (B:=cU d f t k) (d:=d) q1;rwa [l1] at this,by have:=aI (A:=iZ d f i s s.length) (B:=iZ d f i t k) (d:=d) q1;rwa [l2] at this⟩)
   rfl o07.1 o07.2
  rw[<- c]
  exact congrArg (fun z=>[z]) dfN_sh
theorem jn_D{o:Int}(ho:o=2\/o=4){s t:List jO}{z i:Int}(hf:NfOk f)(ht:dD z t t.length)(hs1:1<=s.length)(ht1:1<=t.length) :
  (iZ d f i (dM o s t) (dM o s t).length).getD ((dM o s t).length-1) d=dfN d f i (plO o s.length t.length) ((cU d f s s.length).getD (s.length-1) d) ((cU d f t t.length).getD (t.length-1) d) ((iZ d f i s s.length).getD (s.length-1) d) ((iZ d f i t t.length).getD (t.length-1) d)
   (nfV d f (cU d f (dM o s t) (s.length+t.length)) (plO o s.length t.length)):=by
 have h1:=jnN (o:=o) (s:=s) (d:=d) hf ht (Nat.le_refl _)
 have h2:=jnD (o:=o) (s:=s) (d:=d) (i:=i) hf ht (Nat.le_refl _)
 have l1:=iX (d:=d) (f:=f) s s.length
 have l2:=dfU_len (d:=d) (f:=f) i s s.length
 have pa:(plO o s.length t.length).a.toNat=s.length-1:=by show ((s.length:Int)-1).toNat=_;omega
 have pb:∀ n:Nat,n=s.length->(plO o s.length t.length).b.toNat=((t.length:Int)-1+(n:Int)).toNat:=fun n hn=>by subst hn;show (((s.length+t.length:Nat):Int)-1).toNat=_;omega
 have tn:((t.length:Int)-1).toNat=t.length-1:=by omega
 rw[jn_len,Nat.add_sub_cancel,iZ,uO,dfU_len,if_neg (Nat.lt_irrefl _),if_pos rfl,jn_e,h1,h2,pa]
 have a1:(cU d f s s.length++cU d f t t.length).getD (s.length-1) d=(cU d f s s.length).getD (s.length-1) d:=app_l (by omega)
 have a2:(iZ d f i s s.length++iZ d f i t t.length).getD (s.length-1) d=(iZ d f i s s.length).getD (s.length-1) d:=app_l (by omega)
 have b1:(cU d f s s.length++cU d f t t.length).getD (plO o s.length t.length).b.toNat d=(cU d f t t.length).getD (t.length-1) d:=by
  rw[pb _ l1,aI (by omega),tn]
 have b2:(iZ d f i s s.length++iZ d f i t t.length).getD (plO o s.length t.length).b.toNat d=(iZ d f i t t.length).getD (t.length-1) d:=by
  rw[pb _ l2,aI (by omega),tn]
 rw[a1,a2,b1,b2]
end
def derV(xs:List Rat)(i:Int)(t:List jO):Rat:=(iZ 0 (fR xs) i t t.length).getD (t.length-1) 0
theorem op_of{n:Int}{t:List jO}(h0:zP n t=0)(hq:∀ x∈t,yX x.n (vC x.n) 8):∀ j,j<t.length->0<=(t.getD j tz).op/\(t.getD j tz).op<=7:=fun j hj=>(nd_k h0 (fun x hx=>jW (hq x hx) (by decide)) hj).2.2
theorem lastV_nf{xs:List Rat}{t:List jO}(h0:zP ((xs.length:Nat):Int) t=0)(hq:∀ x∈t,yX x.n (vC x.n) 8):(cU 0 (fR xs) t t.length).getD (t.length-1) 0=xA xs t:=by
 unfold xA;rw[vU_fR xs t t.length (op_of h0 hq)]
theorem der_sum{xs:List Rat}{s t:List jO}{i:Int}(hs:zP ((xs.length:Nat):Int) s=0)(ht:zP ((xs.length:Nat):Int) t=0):derV xs i (dM 2 s t)=derV xs i s+derV xs i t:=by
 have h1:=mQ hs;have h2:=mQ ht
 unfold derV
 rw[jn_D (.inl rfl) (fR_alg xs).ok h2.2.2.2.2 (by omega) (by omega)]
 rfl
theorem der_mul{xs:List Rat}{s t:List jO}{i:Int}(hs:zP ((xs.length:Nat):Int) s=0)(ht:zP ((xs.length:Nat):Int) t=0)(hqs:∀ x∈s,yX x.n (vC x.n) 8)(hqt:∀ x∈t,yX x.n (vC x.n) 8):derV xs i (dM 4 s t)=derV xs i s*xA xs t+xA xs s*derV xs i t:=by
 have h1:=mQ hs;have h2:=mQ ht
 have e:=jn_D (d:=(0:Rat)) (i:=i) (s:=s) (.inr rfl) (fR_alg xs).ok h2.2.2.2.2 (by omega) (by omega)
 rw[lastV_nf hs hqs,lastV_nf ht hqt] at e
 unfold derV
 rw[e]
 show xA xs s*_+xA xs t*_=_
 rw[Rat.mul_comm (xA xs t),Rat.add_comm]
theorem jn_run{o:Int}(ho:o=2\/o=4){xs:List Rat}{s t:List jO}(hs:Sm (List.map gpt xs) s)(ht:Sm (List.map gpt xs) t)(rs:iB xs s)(rt:iB xs t):iB xs (dM o s t):=by
 have hT:=jn_tame ho hs ht
 have c0:=hT.c0
 rw[List.length_map] at c0
 have h2:=mQ rt.c0
 have os:=op_of rs.c0 hs.t.q
 have ot:=op_of rt.c0 ht.t.q
 have oj:=op_of c0 hT.q
 refine ⟨c0,⟨fun k hk=>hT.vq hk,fun k hk h5=>?_⟩⟩
 rcases jn_split hk with h | ⟨j,h,rfl⟩ | rfl
 ·rw[jn_s h] at h5 ⊢
  have e:vU xs (dM o s t) k=vU xs s k:=by
   rw[vU_fR xs _ k (fun j hj=>oj j (by omega)),vU_fR xs s k (fun j hj=>os j (by omega))]
   unfold dM;exact nfU_app s _ _ (by omega)
  rw[e];exact rs.up.dz k h h5
 ·rw[jn_t h] at h5 ⊢
  have hg:=gd_of (h2.2.2.2.2 j h) (qM t j)
  have h5':(t.getD j tz).op=5:=h5
  have k2:kZ (t.getD j tz).op=2:=by rw[h5'];rfl
  have e:vU xs (dM o s t) (s.length+j)=vU xs s s.length++vU xs t j:=by
   rw[vU_fR xs _ _ (fun q hq=>oj q (by omega)),vU_fR xs s _ (fun q hq=>os q hq),vU_fR xs t j (fun q hq=>ot q (by omega))]
   exact jnN (fR_alg xs).ok h2.2.2.2.2 (by omega)
  have l1:=eU xs s s.length
  have eb:(bC s.length (t.getD j tz)).b=(t.getD j tz).b+((vU xs s s.length).length:Int):=by rw[l1];exact if_pos k2
  rw[e,eb,aI (hg.b k2).1]
  exact rt.up.dz j h h5'
 ·rw[jn_e] at h5
  rcases ho with rfl | rfl<;>cases h5
theorem jn_le{o:Int}(ho:o=2\/o=4){s t:List jO}{z m:Int}(hs:dD z s s.length)(ht:dD z t t.length)(hs1:1<=s.length)(ht1:1<=t.length)(a:∀ k,k<s.length->gN (vZ s k) (s.getD k tz)<=m)(b:∀ k,k<t.length->gN (vZ t k) (t.getD k tz)<=m)(hm:0<=m) :
  ∀ k,k<(dM o s t).length->gN (vZ (dM o s t) k) ((dM o s t).getD k tz)<=2*m:=fun k hk=>by
 rcases jn_split hk with h | ⟨j,h,rfl⟩ | rfl
 ·rw[jnS (o:=o) (t:=t) (Nat.le_of_lt h),jn_s h];have:=a k h;omega
 ·have hg:=gd_of (ht j h) (qM t j)
  have e1:=szN_sh (A:=vZ s s.length) (B:=vZ t j) hg
  rw[qM] at e1
  rw[jnU (o:=o) (s:=s) ht (Nat.le_of_lt h),jn_t h,e1];have:=b j h;omega
 ·have e:=jnU (o:=o) (s:=s) ht (Nat.le_refl _)
  have l1:=qM s s.length
  have ea:(vZ (dM o s t) (s.length+t.length)).getD (plO o s.length t.length).a.toNat 0=gN (vZ s (s.length-1)) (s.getD (s.length-1) tz):=by
   rw[e,show (plO o s.length t.length).a.toNat=s.length-1 by unfold plO;dsimp only;omega,app_l (by omega)];exact szU_at (by omega)
  have eb:(vZ (dM o s t) (s.length+t.length)).getD (plO o s.length t.length).b.toNat 0=gN (vZ t (t.length-1)) (t.getD (t.length-1) tz):=by
   rw[e,show (plO o s.length t.length).b.toNat=((t.length:Int)-1+((vZ s s.length).length:Int)).toNat by unfold plO;dsimp only;omega,aI (by omega),show ((t.length:Int)-1).toNat=t.length-1 by omega];exact szU_at (by omega)
  have e2:gN (vZ (dM o s t) (s.length+t.length)) (plO o s.length t.length)=(vZ (dM o s t) (s.length+t.length)).getD (plO o s.length t.length).a.toNat 0+(vZ (dM o s t) (s.length+t.length)).getD (plO o s.length t.length).b.toNat 0:=by
   unfold gN
   rw[plO_kd ho,plO_op,if_neg (by decide),if_neg (show ¬ o=6 by omega),if_neg (show ¬ o=7 by omega)]
  have:=a (s.length-1) (by omega);have:=b (t.length-1) (by omega)
  rw[jn_e,e2,ea,eb];omega
def dvC(x:jO):Bool:=decide (x.op=5)||decide (x.op=7)
def dvN(t:List jO):Nat->Nat
 |0=>0
 |k+1=>if dvC (t.getD k tz)=true then dvN t k+1 else dvN t k
theorem dR(t:List jO):∀ k,dvN t k<=k
 |0=>Nat.le_refl _
 |k+1=>by have:=dR t k;rw[dvN];split<;>omega
theorem sm_of2{n m:Nat}{bx:List R2}{t:List jO}(h:gP n m t=true)(hn:n<=100)(hm:m<=70)(h8:bx.length<=8)(hb:∀ y∈bx,GL 24 y)(hc:zP ((bx.length:Nat):Int) t=0):Sm bx t:=by
 obtain ⟨h1,h2,h3⟩:=mF h
 have hc8:zP 8 t=0:=tm_mono (by omega) (by decide) hc
 refine ⟨tame_of h (by omega) h8 hb hc,fun k hk=>?_,by omega⟩
 have h4:=h3 hc8 (gN (vZ t k) (t.getD k tz)) (by unfold tmL;rw[if_pos hc8];exact szU_mem hk)
 omega
theorem few_sz{n m:Nat}{t:List jO}{z:Nat}(h:gP n m t=true)(h8:z<=8)(hc:zP ((z:Nat):Int) t=0):∀ k,k<t.length->gN (vZ t k) (t.getD k tz)<=(m:Int):=fun k hk=>by
 have hc8:zP 8 t=0:=tm_mono (by omega) (by decide) hc
 exact (mF h).2.2 hc8 _ (by unfold tmL;rw[if_pos hc8];exact szU_mem hk)
theorem dvN_y{t:List jO}{k:Nat}(h:((t.getD k tz).op == ((5:Nat):Int)||(t.getD k tz).op == ((7:Nat):Int))=true):dvN t (k+1)=dvN t k+1:=by
 rw[dvN];exact if_pos (by unfold dvC;simpa using h)
theorem dvN_n{t:List jO}{k:Nat}(h:((t.getD k tz).op == ((5:Nat):Int)||(t.getD k tz).op == ((7:Nat):Int))=false):dvN t (k+1)=dvN t k:=by
 rw[dvN];exact if_neg (by unfold dvC;simpa using h)
theorem sh_b{d:Nat}{x:jO}(h:kZ x.op=2):jO.mk x.op (x.a+((d:Nat):Int)) (x.b+((d:Nat):Int)) x.n=bC d x:=by
 unfold bC;rw[if_pos (show 1<=kZ x.op by omega),if_pos h]
theorem sh_u{d:Nat}{x:jO}(h:kZ x.op=1):jO.mk x.op (x.a+((d:Nat):Int)) x.b x.n=bC d x:=by
 unfold bC;rw[if_pos (show 1<=kZ x.op by omega),if_neg (show ¬ kZ x.op=2 by omega)]
theorem sh_0{d:Nat}{x:jO}(h:kZ x.op=0):jO.mk x.op x.a x.b x.n=bC d x:=by
 unfold bC;rw[if_neg (show ¬ 1<=kZ x.op by omega),if_neg (show ¬ kZ x.op=2 by omega)]
theorem gd_0{z:Int}{k:Nat}{x:jO}(h:Gd z k x)(h2:¬ x.op=((2:Nat):Int))(h3:¬ x.op=((3:Nat):Int))(h4:¬ x.op=((4:Nat):Int))(h5:¬ x.op=((5:Nat):Int))(h6:¬ x.op=((6:Nat):Int))(h7:¬ x.op=((7:Nat):Int)):kZ x.op=0:=by
 rcases h.kd with ⟨e,_⟩ | ⟨_,f⟩ | ⟨_,f⟩
 ·exact e
 ·omega
 ·omega
theorem sh_step{s r:List jO}{i d:Nat}(h:i<r.length):s++(r.take i).map (bC d)++[bC d (r.getD i tz)]=s++(r.take (i+1)).map (bC d):=by
 rw[List.append_assoc,List.take_succ,List.map_append,List.getElem?_eq_getElem h,List.getD_eq_getElem?_getD,List.getElem?_eq_getElem h];rfl
theorem jn_end{s r o:List jO}{i:Nat}(q:Int)(ho:o=s++(r.take i).map (bC s.length))(hi:i=r.length)(h1:1<=s.length)(h2:1<=r.length):o++[jO.mk q (((s.length-1):Nat):Int) (((o.length-1):Nat):Int) zr]=dM q s r:=by
 have hl:o.length=s.length+r.length:=by rw[ho,hi,List.take_length,List.length_append,List.length_map]
 have e:jO.mk q (((s.length-1):Nat):Int) (((o.length-1):Nat):Int) zr=plO q s.length r.length:=by
  unfold plO
  rw[show (((s.length-1):Nat):Int)=(s.length:Int)-1 by omega,show (((o.length-1):Nat):Int)=((s.length+r.length:Nat):Int)-1 by omega]
 rw[e,ho,hi,List.take_length,List.append_assoc];rfl
theorem x_join(o:Int)(s:List jO)(hts:uL 1048576 s)(r:List jO)(htr:uL 1048576 r)(m:Nat)(hup2:dD ((m:Nat):Int) r r.length)(hs1:1<=s.length)(hr1:1<=r.length)(hsl:s.length<=1000)(hrl:r.length<=1000):jQ Tryz.prog 21 [(.val (.int .i64 (o))),(.sl 72 7 (List.map jK s)),(.sl 72 7 (List.map jK r))] (.sl 72 7 (List.map jK (dM o s r))):=by
 refine uR Tryz.func21 ?_
 refine jB<|kx [] [] (zE (aY 72 7)<|zZ) ?_
 refine jB<|kf [(7,(.own 0 72 7 (([]++s).length)))] [(0,some (uK jK ([]++s)))] (zN (oBo 0 vE mD dH)<|zM<|zAS jK [] s rfl vE mD by72<|zM<|zF) ?_
 refine jB<|jB<|kx [(13,(vl 72 7 jK r)),(14,(kF r.length)),(15,(kF 0))] [] (zM<|zE (xW vE)<|zM<|zZ) ?_
 refine jH<|kO (α:=Nat × List jO) (fun (i,w)=>⟨[(0,(vi o)),(1,(vl 72 7 jK s)),(7,(.own 0 72 7 w.length)),(13,(vl 72 7 jK r)),(14,(kF r.length)),(15,(kF i))],[(0,some (uK jK w))]⟩) (fun (i,w)=>i<=r.length/\w=s++(r.take i).map (bC s.length)) (fun (i,w)=>r.length-i) (0,s) wk ⟨Nat.zero_le _,by simp⟩ ?_
 rintro ⟨i,w⟩ ⟨hi,ho⟩
 have hol:w.length=s.length+i:=by rw[ho,List.length_append,List.length_map,List.length_take];omega
 refine jB<|kx [(16,(vb (decide (((i:Nat):Int)<((r.length:Nat):Int)))))] [] (zE gZ<|zZ) ?_
 refine jB<|jE rfl (fun h1=>?_) (fun h1=>?_)
 ·replace h1:=vY h1
  have hg:=gd_of (hup2 i (by omega)) (qM r i)
  refine jD<|jB<|jH<|jB<|kx [(9,(.ref 1 0))] [(1,some (bx (jK (r.getD i tz))))] (zE (cT vE i (tz:jO))<|zE (eJ cN)<|zH (vH 1 mD dH)<|zT (qJ cN)<|zZ) ?_
  refine pwp_meet (α:=Int × Int) (fun (a1,b1)=>⟨[(0,(vi o)),(1,(vl 72 7 jK s)),(7,(.own 0 72 7 w.length)),(9,(.ref 1 0)),(13,(vl 72 7 jK r)),(14,(kF r.length)),(15,(kF i))],[(0,some (uK jK w)),(1,some (bx (jK (jO.mk (r.getD i tz).op a1 b1 (r.getD i tz).n))))]⟩) (fun (a1,b1)=>jO.mk (r.getD i tz).op a1 b1 (r.getD i tz).n=bC s.length (r.getD i tz)) ?_ ?_
  ·refine jB<|kx [(20,(vi ((r.getD i tz).op)))] [] (zE (kI xV)<|zR (qH dG)<|zZ) ?_
   refine jH<|jB<|jB<|kx [(21,(vb ((r.getD i tz).op == ((2:Nat):Int))))] [] (zE xU<|zM<|zZ) ?_
   refine jE (b:=((r.getD i tz).op == ((2:Nat):Int))) rfl (fun h2=>?_) (fun h2=>?_)
   ·replace h2:=eq_of_beq h2
    obtain ⟨ha0,ha1⟩:=hg.a (by rw[h2];decide)
    obtain ⟨hb0,hb1⟩:=hg.b (by rw[h2];decide)
    refine jD<|jE rfl (fun _=>?_) (fun h=>absurd (Eq.trans (Eq.symm (show (((r.getD i tz).op == ((2:Nat):Int)))=true from beq_iff_eq.2 h2)) h) (by decide))
    refine kx [] [(1,some (bx (jK (jO.mk ((r.getD i tz).op) ((r.getD i tz).a+((s.length:Nat):Int)) ((r.getD i tz).b+((s.length:Nat):Int)) ((r.getD i tz).n)))))] (zE (kI kV)<|zR (qH qZ)<|zM<|zE (xW vE)<|zE (zAd ((r.getD i tz).a+((s.length:Nat):Int)))<|zE (kI qW)<|zR (qH qZ)<|zM<|zE (xW vE)<|zE (zAd ((r.getD i tz).b+((s.length:Nat):Int)))<|zE (kI kV)<|zT (qJ qZ)<|zE (kI qW)<|zT (qJ qZ)<|zZ) ?_
    exact met ((r.getD i tz).a+((s.length:Nat):Int),(r.getD i tz).b+((s.length:Nat):Int)) wk (sh_b (by rw[h2];decide))
   ·replace h2:=ne_of_beq_false h2
    refine jB<|kx [(21,(vb ((r.getD i tz).op == ((3:Nat):Int))))] [] (zE xU<|zM<|zZ) ?_
    refine jE (b:=((r.getD i tz).op == ((3:Nat):Int))) rfl (fun h3=>?_) (fun h3=>?_)
    ·replace h3:=eq_of_beq h3
     obtain ⟨ha0,ha1⟩:=hg.a (by rw[h3];decide)
     obtain ⟨hb0,hb1⟩:=hg.b (by rw[h3];decide)
     refine jD<|jE rfl (fun _=>?_) (fun h=>absurd (Eq.trans (Eq.symm (show (((r.getD i tz).op == ((3:Nat):Int)))=true from beq_iff_eq.2 h3)) h) (by decide))
     refine kx [] [(1,some (bx (jK (jO.mk ((r.getD i tz).op) ((r.getD i tz).a+((s.length:Nat):Int)) ((r.getD i tz).b+((s.length:Nat):Int)) ((r.getD i tz).n)))))] (zE (kI kV)<|zR (qH qZ)<|zM<|zE (xW vE)<|zE (zAd ((r.getD i tz).a+((s.length:Nat):Int)))<|zE (kI qW)<|zR (qH qZ)<|zM<|zE (xW vE)<|zE (zAd ((r.getD i tz).b+((s.length:Nat):Int)))<|zE (kI kV)<|zT (qJ qZ)<|zE (kI qW)<|zT (qJ qZ)<|zZ) ?_
     exact met ((r.getD i tz).a+((s.length:Nat):Int),(r.getD i tz).b+((s.length:Nat):Int)) wk (sh_b (by rw[h3];decide))
    ·replace h3:=ne_of_beq_false h3
     refine jB<|kx [(21,(vb ((r.getD i tz).op == ((4:Nat):Int))))] [] (zE xU<|zM<|zZ) ?_
     refine jE (b:=((r.getD i tz).op == ((4:Nat):Int))) rfl (fun h4=>?_) (fun h4=>?_)
     ·replace h4:=eq_of_beq h4
      obtain ⟨ha0,ha1⟩:=hg.a (by rw[h4];decide)
      obtain ⟨hb0,hb1⟩:=hg.b (by rw[h4];decide)
      refine jD<|jE rfl (fun _=>?_) (fun h=>absurd (Eq.trans (Eq.symm (show (((r.getD i tz).op == ((4:Nat):Int)))=true from beq_iff_eq.2 h4)) h) (by decide))
      refine kx [] [(1,some (bx (jK (jO.mk ((r.getD i tz).op) ((r.getD i tz).a+((s.length:Nat):Int)) ((r.getD i tz).b+((s.length:Nat):Int)) ((r.getD i tz).n)))))] (zE (kI kV)<|zR (qH qZ)<|zM<|zE (xW vE)<|zE (zAd ((r.getD i tz).a+((s.length:Nat):Int)))<|zE (kI qW)<|zR (qH qZ)<|zM<|zE (xW vE)<|zE (zAd ((r.getD i tz).b+((s.length:Nat):Int)))<|zE (kI kV)<|zT (qJ qZ)<|zE (kI qW)<|zT (qJ qZ)<|zZ) ?_
      exact met ((r.getD i tz).a+((s.length:Nat):Int),(r.getD i tz).b+((s.length:Nat):Int)) wk (sh_b (by rw[h4];decide))
     ·replace h4:=ne_of_beq_false h4
      refine kx [(21,(vb ((r.getD i tz).op == ((5:Nat):Int))))] [] (zE xU<|zM<|zZ) ?_
      refine jE (b:=((r.getD i tz).op == ((5:Nat):Int))) rfl (fun h5=>?_) (fun h5=>?_)
      ·replace h5:=eq_of_beq h5
       obtain ⟨ha0,ha1⟩:=hg.a (by rw[h5];decide)
       obtain ⟨hb0,hb1⟩:=hg.b (by rw[h5];decide)
       refine kx [] [(1,some (bx (jK (jO.mk ((r.getD i tz).op) ((r.getD i tz).a+((s.length:Nat):Int)) ((r.getD i tz).b+((s.length:Nat):Int)) ((r.getD i tz).n)))))] (zE (kI kV)<|zR (qH qZ)<|zM<|zE (xW vE)<|zE (zAd ((r.getD i tz).a+((s.length:Nat):Int)))<|zE (kI qW)<|zR (qH qZ)<|zM<|zE (xW vE)<|zE (zAd ((r.getD i tz).b+((s.length:Nat):Int)))<|zE (kI kV)<|zT (qJ qZ)<|zE (kI qW)<|zT (qJ qZ)<|zZ) ?_
       exact met ((r.getD i tz).a+((s.length:Nat):Int),(r.getD i tz).b+((s.length:Nat):Int)) wk (sh_b (by rw[h5];decide))
      ·replace h5:=ne_of_beq_false h5
       refine jB<|jB<|kx [(38,(vb ((r.getD i tz).op == ((6:Nat):Int))))] [] (zE xU<|zM<|zZ) ?_
       refine jE (b:=((r.getD i tz).op == ((6:Nat):Int))) rfl (fun h6=>?_) (fun h6=>?_)
       ·replace h6:=eq_of_beq h6
        obtain ⟨ha0,ha1⟩:=hg.a (by rw[h6];decide)
        refine jD<|jE rfl (fun _=>?_) (fun h=>absurd (Eq.trans (Eq.symm (show (((r.getD i tz).op == ((6:Nat):Int)))=true from beq_iff_eq.2 h6)) h) (by decide))
        refine kx [] [(1,some (bx (jK (jO.mk ((r.getD i tz).op) ((r.getD i tz).a+((s.length:Nat):Int)) ((r.getD i tz).b) ((r.getD i tz).n)))))] (zE (kI kV)<|zR (qH qZ)<|zM<|zE (xW vE)<|zE (zAd ((r.getD i tz).a+((s.length:Nat):Int)))<|zE (kI kV)<|zT (qJ qZ)<|zZ) ?_
        exact met ((r.getD i tz).a+((s.length:Nat):Int),(r.getD i tz).b) wk (sh_u (by rw[h6];decide))
       ·replace h6:=ne_of_beq_false h6
        refine kx [(38,(vb ((r.getD i tz).op == ((7:Nat):Int))))] [] (zE xU<|zM<|zZ) ?_
        refine jE (b:=((r.getD i tz).op == ((7:Nat):Int))) rfl (fun h7=>?_) (fun h7=>?_)
        ·replace h7:=eq_of_beq h7
         obtain ⟨ha0,ha1⟩:=hg.a (by rw[h7];decide)
         refine kx [] [(1,some (bx (jK (jO.mk ((r.getD i tz).op) ((r.getD i tz).a+((s.length:Nat):Int)) ((r.getD i tz).b) ((r.getD i tz).n)))))] (zE (kI kV)<|zR (qH qZ)<|zM<|zE (xW vE)<|zE (zAd ((r.getD i tz).a+((s.length:Nat):Int)))<|zE (kI kV)<|zT (qJ qZ)<|zZ) ?_
         exact met ((r.getD i tz).a+((s.length:Nat):Int),(r.getD i tz).b) wk (sh_u (by rw[h7];decide))
        ·replace h7:=ne_of_beq_false h7
         refine jD ?_
         exact met ((r.getD i tz).a,(r.getD i tz).b) wk (sh_0 (gd_0 hg h2 h3 h4 h5 h6 h7))
  ·rintro ⟨a1,b1⟩ hab
   refine kf [(7,(.own 0 72 7 ((w++[(jO.mk (r.getD i tz).op a1 b1 (r.getD i tz).n)]).length)))] [(0,some (uK jK (w++[(jO.mk (r.getD i tz).op a1 b1 (r.getD i tz).n)])))] (zM<|zR (kP cN)<|zE (eY vE mD dH)<|zAS jK w [(jO.mk (r.getD i tz).op a1 b1 (r.getD i tz).n)] rfl vE mD by72<|zM<|zF) ?_
   refine kx [(15,(kF (i+1)))] [] (zE (vT (i+1))<|zM<|zZ) ?_
   exact ⟨(i+1,w++[jO.mk (r.getD i tz).op a1 b1 (r.getD i tz).n]),wk,⟨by omega,by rw[ho,hab];exact sh_step (by omega)⟩,(by first|omega|(dsimp only;omega))⟩
 ·replace h1:=xC h1
  refine kL<|jB<|kf [(6,(.own 0 72 7 ((w++[(jO.mk o (((s.length-1):Nat):Int) (((w.length-1):Nat):Int) uG)]).length))),(7,.junk)] [(0,some (uK jK (w++[(jO.mk o (((s.length-1):Nat):Int) (((w.length-1):Nat):Int) uG)])))] (zM<|zM<|zM<|zE (xW vE)<|zE (oSb (s.length-1))<|zM<|zE (oLo vE)<|zE (oSb (w.length-1))<|zE (oBd pl72 mD dH)<|zE (eY vE mD dH)<|zAS jK w [(jO.mk o (((s.length-1):Nat):Int) (((w.length-1):Nat):Int) uG)] rfl vE mD by72<|zM<|zF) ?_
  refine qG (yG (t:=6) (k:=0) (es:=List.map jK (w++[(jO.mk o (((s.length-1):Nat):Int) (((w.length-1):Nat):Int) uG)])) rfl rfl (fP _ _ (fun _=>rfl)) (xR _ _ rfl) (bO jK (w++[(jO.mk o (((s.length-1):Nat):Int) (((w.length-1):Nat):Int) uG)]) (fun _=>rfl) rfl)) ?_
  refine jF ⟨_,(.tmp (d:=(.sl 72 7 (List.map jK (w++[(jO.mk o (((s.length-1):Nat):Int) (((w.length-1):Nat):Int) uG)])))) rfl .nil),?_⟩
  have e:=jn_end o ho (show i=r.length by omega) hs1 hr1
  unfold zr at e
  rw[e];rfl
theorem x_div(t:List jO)(ht:uL 1048576 t)(htl:t.length<=1000000):jQ Tryz.prog 20 [(.sl 72 7 (List.map jK t))] (.val (.int .i64 ((((dvN t t.length):Nat):Int)))):=by
 have hdl:=dR t
 refine uR Tryz.func20 ?_
 refine jB<|kx [] [] (zM<|zZ) ?_
 refine jB<|kx [(3,(kF 0))] [] (zM<|zZ) ?_
 refine jB<|jB<|kx [(6,(vl 72 7 jK t)),(7,(kF t.length)),(8,(kF 0))] [] (zM<|zE (xW vE)<|zM<|zZ) ?_
 refine jH<|kO (α:=Nat × Nat) (fun (k,v)=>⟨[(3,(kF v)),(6,(vl 72 7 jK t)),(7,(kF t.length)),(8,(kF k))],[]⟩) (fun (k,v)=>k<=t.length/\v=dvN t k) (fun (k,v)=>t.length-k) (0,0) wk ⟨Nat.zero_le _,rfl⟩ ?_
 rintro ⟨k,v⟩ ⟨hk,hv⟩
 have hvk:v<=k:=by rw[hv];exact dR t k
 refine jB<|kx [(9,(vb (decide (((k:Nat):Int)<((t.length:Nat):Int)))))] [] (zE gZ<|zZ) ?_
 refine jB<|jE rfl (fun h1=>?_) (fun h1=>?_)
 ·replace h1:=vY h1
  have hdk:=hdl k
  refine jD<|jB<|jH<|jB<|kx [(5,(.ref 0 0))] [(0,some (bx (jK (t.getD k tz))))] (zE (cT vE k (tz:jO))<|zE (eJ cN)<|zN (vH 0 mD dH)<|zT (qJ cN)<|zZ) ?_
  refine jB<|kx [(19,(vb (((t.getD k tz).op == ((5:Nat):Int))||((t.getD k tz).op == ((7:Nat):Int)))))] [] ?_ ?_
  ·refine zE (kI xV)<|zR (qH dG)<|zE xU<|zE (oV (vb ((t.getD k tz).op == ((5:Nat):Int))) (kW (by kernel_rfl)))<|?_
   rcases hb2:((t.getD k tz).op == ((5:Nat):Int)) with _ | _
   ·replace hb2:=ne_of_beq_false hb2
    exact zE (kI xV)<|zR (qH dG)<|zE xU<|zE aC<|zZ
   ·replace hb2:=eq_of_beq hb2
    exact zK<|zK<|zK<|zE yH<|zZ
  refine jE rfl (fun h3=>?_) (fun h3=>?_)
  ·refine kx [(3,(kF (v+1)))] [] (zM<|zE (vT (v+1))<|zM<|zZ) ?_
   refine kx [(8,(kF (k+1)))] [] (zE (vT (k+1))<|zM<|zZ) ?_
   exact ⟨(k+1,v+1),wk,⟨by omega,by rw[dvN_y h3,hv]⟩,(by first|omega|(dsimp only;omega))⟩
  ·refine jD<|kx [(8,(kF (k+1)))] [] (zE (vT (k+1))<|zM<|zZ) ?_
   exact ⟨(k+1,v),wk,⟨by omega,by rw[dvN_n h3,hv]⟩,(by first|omega|(dsimp only;omega))⟩
 ·replace h1:=xC h1
  refine kL<|jB<|kx [(2,(kF v))] [] (zM<|zM<|zZ) ?_
  refine jF ⟨_,(.tmp (d:=(.val (.int .i64 (((v:Nat):Int))))) rfl .nil),?_⟩
  rw[hv,show k=t.length by omega];rfl
end Go.Proofs.YtckccjhflbljgaaGreatDoor
