/- Part 32 of a proof: rules, plain facts, and functions walked. -/
import Derived.Test.YtckccjhflbljgaaGreatDoorM10
import Derived.Test.YtckccjhflbljgaaGreatDoorM11
import Derived.Test.YtckccjhflbljgaaGreatDoorM19
import Derived.Test.YtckccjhflbljgaaGreatDoorM26
import Derived.Test.YtckccjhflbljgaaGreatDoorM16
import Derived.Test.YtckccjhflbljgaaGreatDoorM18
import Derived.Test.YtckccjhflbljgaaGreatDoorM17
import Derived.Test.YtckccjhflbljgaaGreatDoorM30
import Derived.Test.YtckccjhflbljgaaGreatDoorM25
set_option linter.all false
set_option maxRecDepth 4000
namespace Go.Fid
inductive LOk (n:Nat):List kS->List Int->Prop
 |nil:LOk n [] []
 |cons {x:kS} {z:Int} {l:List kS} {zs:List Int} (h:dP x z n) (t:LOk n l zs):LOk n (x::l) (z::zs)
theorem iok_nilN(n:Nat):dP ⟨false,[]⟩ 0 n:=⟨by decide,Nat.zero_le _⟩
theorem LOk.len{n:Nat}{l:List kS}{zs:List Int}(h:LOk n l zs):l.length=zs.length:=by
 induction h with
 |nil=>rfl
 |cons h t ih=>simp [ih]
theorem LOk.get{n:Nat}{l:List kS}{zs:List Int}(h:LOk n l zs)(i:Nat):dP (l.getD i ⟨false,[]⟩) (zs.getD i 0) n:=by
 induction h generalizing i with
 |nil=>exact iok_nilN n
 |cons h t ih=>
  rcases i with _ | i
  ·exact h
  ·exact ih i
theorem LOk.all{n:Nat}{l:List kS}{zs:List Int}(h:LOk n l zs):∀ z∈zs,dE z<=n:=by
 induction h with
 |nil=>simp
 |cons h t ih=>
  intro z hz
  rcases List.mem_cons.1 hz with rfl | hz
  ·exact h.ln
  ·exact ih z hz
theorem LOk.up{m n:Nat}{l:List kS}{zs:List Int}(h:LOk m l zs)(hm:m<=n):LOk n l zs:=by
 induction h with
 |nil=>exact .nil
 |cons h t ih=>exact .cons (cO h hm) ih
theorem LOk.map{n:Nat}{l:List kS}{zs:List Int}(h:LOk n l zs):l.map jV=zs:=by
 induction h with
 |nil=>rfl
 |cons h t ih=>rw[List.map_cons,ih,h.v]
theorem all_nil{l:List kS}(h:∀ x∈l,x=kS.mk false [])(i:Nat):l.getD i (kS.mk false [])=kS.mk false []:=by
 rw[List.getD]
 cases hj:l[i]? with
 |none=>rfl
 |some q=>exact h q (List.mem_of_getElem? hj)
end Go.Fid
namespace Go.Proofs.YtckccjhflbljgaaGreatDoor
open Go.Fid
def RowOk(n:Nat)(l:List kT):Prop:=(∀ a∈l,yX a (vC a) n)/\l.length<=140737488355328
def vRow(l:List kT):Bool:=l.all kM
theorem qok_at{l:List kT}{n j:Nat}{d:kT}(h:∀ a∈l,yX a (vC a) n)(hj:j<l.length):yX (l.getD j d) (vC (l.getD j d)) n:=by
 rw[List.getD_eq_getElem?_getD,List.getElem?_eq_getElem hj];exact h _ (List.getElem_mem hj)
theorem row_up{n k:Nat}{l:List kT}(h:RowOk n l)(hk:n<=k:=by decide):RowOk k l:=⟨fun a ha=>jW (h.1 a ha) hk,h.2⟩
theorem take_all{α:Type}{f:α->Bool}{l:List α}{i:Nat}{d:α}(h:i<l.length):(l.take (i+1)).all f=((l.take i).all f&&f (l.getD i d)):=by
 rw[List.getD_eq_getElem?_getD,List.getElem?_eq_getElem h,List.take_succ_eq_append_getElem h,List.all_append]
 simp
structure MRect (m:List (List kT)) (r c:Nat):Prop where
 hr:m.length=r
 hc:∀ l∈m,l.length=c/\vRow l=true
 r1:1<=r
 r64:r<=64
 c1:1<=c
 c64:c<=64
theorem MRect.at{m:List (List kT)}{r c:Nat}(h:MRect m r c){i:Nat}(hi:i<r):(m.getD i []).length=c/\vRow (m.getD i [])=true:=by
 have:=h.hr
 rw[List.getD_eq_getElem?_getD,List.getElem?_eq_getElem (by omega)];exact h.hc _ (List.getElem_mem _)
theorem MRect.le{m:List (List kT)}{r c:Nat}(h:MRect m r c):∀ l∈m,l.length<=64:=fun l hl=>by
 have h1:=(h.hc l hl).1
 have h2:=h.c64
 omega
theorem ql_getD{xs:List Rat}{n:Nat}(h:∀ q∈xs,QL q n)(h1:1<=n)(j:Nat):QL (xs.getD j 0) n:=by
 rcases Nat.lt_or_ge j xs.length with hj | hj
 ·rw[List.getD_eq_getElem?_getD,List.getElem?_eq_getElem hj];exact h _ (List.getElem_mem _)
 ·rw[List.getD_eq_getElem?_getD,List.getElem?_eq_none (by omega)];exact uE fE h1
theorem nE{xs:List Rat}{n:Nat}(h:∀ q∈xs,QL q n)(hl:xs.length<=1000000):RowOk n (List.map jM xs):=by
 refine ⟨fun a ha=>?_,by rw[List.length_map];omega⟩
 obtain ⟨q,hq,rfl⟩:=List.mem_map.1 ha
 rw[nI];exact kC (h q hq)
theorem mapt_step{α β:Type}{f:α->β}{l:List α}{d:α}{i:Nat}(h:i<l.length):(l.take i).map f++[f (l.getD i d)]=(l.take (i+1)).map f:=by
 rw[List.take_succ_eq_append_getElem h,List.map_append,List.getD_eq_getElem?_getD,List.getElem?_eq_getElem h];rfl
end Go.Proofs.YtckccjhflbljgaaGreatDoor
namespace Go.Fid
theorem zeroR_uns(x:kT):zeroR x=unsB x:=rfl
def unuB(x:jO):Bool:=if x.op=0 then (((x.a != 0)||(x.b != 0))||!(kM x.n)) else ((decide (kZ x.op<0)||(decide (kZ x.op<2)&&(x.b != 0)))||!(zeroR x.n))
theorem unu_iff{x:jO}:unuB x=true↔cM x:=by
 unfold unuB cM
 by_cases h:x.op=0
 ·rw[if_pos h,h]
  simp only[Bool.or_eq_true,bne_iff_ne,Bool.not_eq_true',ne_eq,not_true_eq_false,false_and,or_false,true_and,show kZ 0=0 by decide]
  constructor
  ·rintro ((h1 | h1) | h1)
   ·exact .inr (.inr (.inl h1))
   ·exact .inr (.inl ⟨by decide,h1⟩)
   ·exact .inr (.inr (.inr h1))
  ·rintro (h1 | ⟨_,h1⟩ | h1 | h1)
   ·exact absurd h1 (by decide)
   ·exact .inl (.inr h1)
   ·exact .inl (.inl h1)
   ·exact .inr h1
 ·rw[if_neg h]
  simp only[Bool.or_eq_true,Bool.and_eq_true,decide_eq_true_eq,bne_iff_ne,Bool.not_eq_true',ne_eq,h,not_false_eq_true,false_and,false_or,true_and,zeroR_uns]
  exact or_assoc
theorem unu_bad(x:jO):unuB x=badB x:=by
 cases h:unuB x with
 |true=>exact (bR.2 (unu_iff.1 h)).symm
 |false=>
  cases h2:badB x with
  |false=>rfl
  |true=>rw[unu_iff.2 (bR.1 h2)] at h;cases h
def orD(k:Int)(x:jO):Bool:=((decide (1<=kZ x.op)&&(decide (x.a<0)||decide (k<=x.a)))||((kZ x.op == 2)&&(decide (x.b<0)||decide (k<=x.b))))
theorem orD_eq(k:Int)(x:jO):orD k x=ordB k x:=by
 unfold orD ordB
 rcases xS x.op with ⟨e,_⟩ | ⟨e,_⟩ | ⟨e,_⟩ | ⟨e,_⟩<;>rw[e]<;>rfl
theorem NdR.a2{z:Int}{t:List jO}{k:Nat}(h:NdR z t k)(h0:1<=kZ (t.getD k tz).op):0<=(t.getD k tz).a/\(t.getD k tz).a.toNat<k/\1<=(vZ t k).getD (t.getD k tz).a.toNat 0/\(vZ t k).getD (t.getD k tz).a.toNat 0<=4096:=by
 have h2:=h.ord
 unfold dJ at h2
 have ha:(t.getD k tz).a.toNat<k:=by omega
 exact ⟨by omega,ha,sz_rng h.tm.up _ ha⟩
theorem NdR.b2{z:Int}{t:List jO}{k:Nat}(h:NdR z t k)(h0:kZ (t.getD k tz).op=2):0<=(t.getD k tz).b/\(t.getD k tz).b.toNat<k/\1<=(vZ t k).getD (t.getD k tz).b.toNat 0/\(vZ t k).getD (t.getD k tz).b.toNat 0<=4096:=by
 have h2:=h.ord
 unfold dJ at h2
 have ha:(t.getD k tz).b.toNat<k:=by omega
 exact ⟨by omega,ha,sz_rng h.tm.up _ ha⟩
theorem NdR.nx{z:Int}{t:List jO}{k:Nat}(h:NdR z t k){v:Int}(hv:v=gN (vZ t k) (t.getD k tz))(hb:¬ 4096<v):dD z t (k+1)/\vZ t k++[v]=vZ t (k+1):=by
 rw[hv] at hb
 exact ⟨szUp_s h.tm.up (nd_y h.bad (by rw[qM];exact h.ord) h.rng hb),by rw[hv];rfl⟩
theorem NdR.bg{z:Int}{t:List jO}{k:Nat}(h:NdR z t k){v:Int}(hv:v=gN (vZ t k) (t.getD k tz))(hb:4096<v):zP z t=3/\tmL z t=[]:=by
 rw[hv] at hb
 have e:=nd_3 (z:=z) (ss:=vZ t k) h.bad (by rw[qM];exact h.ord) h.rng hb
 have:=tm_no h.tm.z0 h.tm.kl h.tm.tl h.tm.up (by rw[e];decide)
 rwa [e] at this
theorem kd_7{o:Int}(h:o=7):kZ o=1:=by rw[h];decide
theorem szD_c{ss:List Int}{x:jO}(hb:¬ cM x)(h:¬ 1<=kZ x.op):(1:Int)=gN ss x:=szN_c (by unfold cM at hb;omega)
theorem szD_n{ss:List Int}{x:jO}(h:1<=kZ x.op)(h7:x.op≠7)(h2:kZ x.op≠2):ss.getD x.a.toNat 0=gN ss x:=szN_n (by omega) (by rcases xS x.op with ⟨e,f⟩ | ⟨e,f⟩ | ⟨e,f⟩ | ⟨e,f⟩<;>omega) rfl
theorem szD_q{ss:List Int}{x:jO}(h:1<=kZ x.op)(h7:x.op=7):2*ss.getD x.a.toNat 0=gN ss x:=szN_q (by omega) h7 rfl
theorem szD_b{ss:List Int}{x:jO}(h2:kZ x.op=2):ss.getD x.a.toNat 0+ss.getD x.b.toNat 0=gN ss x:=szN_b (by omega) (by intro h;rw[h] at h2;revert h2;decide) (by intro h;rw[h] at h2;revert h2;decide) rfl rfl
theorem szD_all{ss:List Int}{x:jO}(hb:¬ cM x){v w:Int}(h1:(¬ 1<=kZ x.op->v=1)/\(1<=kZ x.op->v=ss.getD x.a.toNat 0))(h2:(x.op=7->w=2*v)/\(x.op≠7->w=v)) :
  (kZ x.op=2->w+ss.getD x.b.toNat 0=gN ss x)/\(kZ x.op≠2->w=gN ss x):=by
 refine ⟨fun hk=>?_,fun hk=>?_⟩
 ·rw[h2.2 (fun e=>by have:=kd_7 e;omega),h1.2 (by omega)];exact szD_b hk
 ·by_cases h7:x.op=7
  ·have:=kd_7 h7
   rw[h2.1 h7,h1.2 (by omega)];exact szD_q (by omega) h7
  ·rw[h2.2 h7]
   by_cases hk1:1<=kZ x.op
   ·rw[h1.2 hk1];exact szD_n hk1 h7 hk
   ·rw[h1.1 hk1];exact szD_c hb hk1
theorem tm_end2{z:Int}{t:List jO}{k:Nat}(h:(decide (z<0)||decide (64<z))=false)(h0:((t.length:Nat):Int)≠0)(h4:¬ 400<((t.length:Nat):Int))(hk:k<=t.length)(h5:¬ ((k:Nat):Int)<((t.length:Nat):Int))(hu:dD z t k):zP z t=0/\tmL z t=vZ t k:=by
 obtain rfl:k=t.length:=by omega
 exact tm_yes (zb_f h) (by omega) (by omega) hu
theorem vV_0{xs L:List Rat}{x:jO}(h:x.op=0):vV xs L x=vC x.n:=by unfold vV;simp [h]
theorem vV_1{xs L:List Rat}{x:jO}(h:x.op=1):vV xs L x=xs.getD x.a.toNat 0:=by unfold vV;simp [h]
theorem vV_2{xs L:List Rat}{x:jO}(h:x.op=2):vV xs L x=L.getD x.a.toNat 0+L.getD x.b.toNat 0:=by unfold vV;simp [h]
theorem vV_3{xs L:List Rat}{x:jO}(h:x.op=3):vV xs L x=L.getD x.a.toNat 0-L.getD x.b.toNat 0:=by unfold vV;simp [h]
theorem vV_4{xs L:List Rat}{x:jO}(h:x.op=4):vV xs L x=L.getD x.a.toNat 0*L.getD x.b.toNat 0:=by unfold vV;simp [h]
theorem vV_6{xs L:List Rat}{x:jO}(h:x.op=6):vV xs L x=-(L.getD x.a.toNat 0):=by unfold vV;simp [h]
theorem vV_7{xs L:List Rat}{x:jO}(h:x.op=7):vV xs L x=L.getD x.a.toNat 0*L.getD x.a.toNat 0:=by unfold vV;simp [h]
theorem vV_5{xs L:List Rat}{x:jO}(h:x.op=5):vV xs L x=L.getD x.a.toNat 0 / L.getD x.b.toNat 0:=by unfold vV;simp [h]
theorem nd_at{z:Int}{t:List jO}{k:Nat}(h:zP z t=0)(hk:k<t.length):NdR z t k:=by
 have h0:=mQ h
 obtain ⟨h1,h2,h3,_⟩:=nd_0 (h0.2.2.2.2 k hk)
 rw[qM] at h2
 exact ⟨⟨by omega,hk,by omega,fun i hi=>h0.2.2.2.2 i (by omega)⟩,h1,h2,h3⟩
theorem NdR.var{z:Int}{t:List jO}{k:Nat}(h:NdR z t k)(h1:(t.getD k tz).op=1):0<=(t.getD k tz).a/\(t.getD k tz).a<z:=by
 have:=h.rng
 unfold lN at this
 omega
theorem NdR.con{z:Int}{t:List jO}{k:Nat}(h:NdR z t k)(h1:(t.getD k tz).op=0):kM (t.getD k tz).n=true:=by
 have:=h.bad
 unfold cM at this
 cases hv:kM (t.getD k tz).n with
 |true=>rfl
 |false=>exact absurd (.inr (.inr (.inl ⟨h1,.inr hv⟩))) this
theorem NdR.op{z:Int}{t:List jO}{k:Nat}(h:NdR z t k):(t.getD k tz).op=0\/(t.getD k tz).op=1\/(t.getD k tz).op=2\/(t.getD k tz).op=3\/(t.getD k tz).op=4\/(t.getD k tz).op=5\/(t.getD k tz).op=6\/(t.getD k tz).op=7:=by
 have:=h.kd
 rcases xS (t.getD k tz).op with ⟨e,f⟩ | ⟨e,f⟩ | ⟨e,f⟩ | ⟨e,f⟩<;>omega
theorem NdR.bin{z:Int}{t:List jO}{k:Nat}(h:NdR z t k)(h1:(t.getD k tz).op=2\/(t.getD k tz).op=3\/(t.getD k tz).op=4\/(t.getD k tz).op=5):(0<=(t.getD k tz).a/\(t.getD k tz).a<k)/\0<=(t.getD k tz).b/\(t.getD k tz).b<k:=by
 have e:kZ (t.getD k tz).op=2:=by rcases h1 with h1 | h1 | h1 | h1<;>rw[h1]<;>decide
 have a:=h.a2 (by omega)
 have b:=h.b2 e
 omega
theorem NdR.un{z:Int}{t:List jO}{k:Nat}(h:NdR z t k)(h1:(t.getD k tz).op=6\/(t.getD k tz).op=7):0<=(t.getD k tz).a/\(t.getD k tz).a<k:=by
 have e:kZ (t.getD k tz).op=1:=by rcases h1 with h1 | h1<;>rw[h1]<;>decide
 have a:=h.a2 (by omega)
 omega
theorem aZ{xs:List Rat}{t:List jO}{k:Nat}{v:Rat}(h:vV xs (vU xs t k) (t.getD k tz)=v):List.map jM (vU xs t k)++[jM v]=List.map jM (vU xs t (k+1)):=by
 rw[vU,List.map_append,h];rfl
theorem vU_nc{xs:List Rat}{t:List jO}{k:Nat}(h:vV xs (vU xs t k) (t.getD k tz)=vC (t.getD k tz).n)(hv:kM (t.getD k tz).n=true):List.map jM (vU xs t k)++[(t.getD k tz).n]=List.map jM (vU xs t (k+1)):=by
 rw[vU,List.map_append,h,List.map_singleton,ofQ_toQ hv]
structure VEnd (xs:List Rat) (t:List jO) (k0:Nat):Prop where
 c0:zP ((xs.length:Nat):Int) t=0
 hk:k0<=t.length
 up:VUp xs t k0
 en:k0<t.length->(t.getD k0 tz).op=5/\(vU xs t k0).getD (t.getD k0 tz).b.toNat 0=0
theorem iB.fin{xs:List Rat}{t:List jO}(h:iB xs t):VEnd xs t t.length:=⟨h.c0,Nat.le_refl _,h.up,fun h=>absurd h (Nat.lt_irrefl _)⟩
theorem VFail.fin{xs:List Rat}{t:List jO}{k:Nat}(h:VFail xs t k):VEnd xs t k:=⟨h.c0,Nat.le_of_lt h.hk,h.up,fun _=>⟨h.op,h.z⟩⟩
def vlR(xs:List Rat)(t:List jO)(k:Nat):kT:=if k=t.length then jM (xA xs t) else zr
def vlC(t:List jO)(k:Nat):Int:=if k=t.length then ((0:Nat):Int) else ((14:Nat):Int)
theorem vlR_y{xs:List Rat}{t:List jO}:vlR xs t t.length=jM (xA xs t):=if_pos rfl
theorem vlC_y{t:List jO}:vlC t t.length=((0:Nat):Int):=if_pos rfl
theorem VEnd.no2{xs:List Rat}{t:List jO}{k:Nat}(h:VEnd xs t k)(hk:k<t.length):vlR xs t k=zr/\vlC t k=((14:Nat):Int):=⟨if_neg (by omega),if_neg (by omega)⟩
theorem VEnd.eq{xs:List Rat}{t:List jO}{k0 k:Nat}(h:VEnd xs t k0)(hk:k<=k0)(hn:decide (k<k0)=false):k0=k:=by
 have:=of_decide_eq_false hn
 omega
theorem VEnd.at{xs:List Rat}{t:List jO}{k0 k:Nat}(h:VEnd xs t k0)(hk:k<=k0)(hl:k<t.length)(hn:decide (k<k0)=false):(vU xs t k).getD (t.getD k tz).b.toNat 0=0:=by
 have e:=h.eq hk hn
 subst e
 exact (h.en hl).2
theorem VEnd.no{xs:List Rat}{t:List jO}{k0 k:Nat}(h:VEnd xs t k0)(hk:k<=k0)(hl:k<t.length)(hn:decide (k<k0)=false):vlR xs t k0=zr/\vlC t k0=((14:Nat):Int):=by
 have e:=h.eq hk hn
 subst e
 exact h.no2 hl
theorem VEnd.lt{xs:List Rat}{t:List jO}{k0 k:Nat}(h:VEnd xs t k0)(hk:k<=k0)(hl:k<t.length)(ho:(t.getD k tz).op≠5):k<k0:=by
 rcases Nat.lt_or_ge k k0 with h1 | h1
 ·exact h1
 ·obtain rfl:k=k0:=by omega
  exact absurd (h.en hl).1 ho
structure CrLaw (xs:List Rat) (ls:List (List Int)) (n:Nat):Prop where
 ok:CrOk ls n
 hx:∀ q∈xs,QL q 3
 hl:xs.length=9
 hb:∀ a∈ls,∀ z∈a,¬ (8<z/\z<64)
theorem CrLaw.le{xs:List Rat}{ls:List (List Int)}{n:Nat}(h:CrLaw xs ls n){a:List Int}(ha:a∈ls):okL ((xs.length:Nat):Int) n a:=h.ok.le ha (h.hb a ha) (by rw[h.hl];rfl)
end Go.Fid
namespace Go.Proofs.YtckccjhflbljgaaGreatDoor
open Go.Fid
theorem u_uns(x:jO)(hx:yX x.n (vC x.n) 1048576):jQ Tryz.prog 79 [(jK x)] (.val (.bool ((unuB x)))):=by
 refine uR Tryz.func79 ?_
 refine jB<|kx [(1,(.ref 0 0))] [(0,some (bx (jK x)))] (zN (xO 0)<|zM<|zZ) ?_
 refine jB<|kx [(3,(vi (kZ x.op)))] [] (zE (kI xV)<|zR (qH dG)<|zE (jY (r_kids x.op))<|zM<|zZ) ?_
 refine jB<|jB<|kx [(9,(vb (x.op == 0)))] [] (zE (kI xV)<|zR (qH dG)<|zE xU<|zZ) ?_
 refine jE (b:=(x.op == 0)) rfl (fun h1=>?_) (fun h1=>?_)
 ·replace h1:=eq_of_beq h1
  refine jB<|kx [(2,(vb (((x.a != 0)||(x.b != 0))||!(kM x.n))))] [] ?_ ?_
  ·refine zE (kI kV)<|zR (qH qZ)<|zE cK<|zE (oV (vb (x.a != 0)) (kW (by kernel_rfl)))<|?_
   rcases hb2:(x.a != 0) with _ | _
   ·replace hb2:=bne_eq_false_iff_eq.1 hb2
    refine zE (kI qW)<|zR (qH qZ)<|zE cK<|zE aC<|zE (oV (vb (false||(x.b != 0))) (kW (by kernel_rfl)))<|?_
    rcases hb3:(false||(x.b != 0)) with _ | _
    ·exact zE (kI nR)<|zR (kP jT)<|zE (jY (lM x.n (vC x.n) (jW hx)))<|zE yT<|zE aC<|zM<|zZ
    ·exact zK<|zK<|zK<|zK<|zE yH<|zM<|zZ
   ·replace hb2:=bne_iff_ne.1 hb2
    exact zK<|zK<|zK<|zE yH<|zM<|zK<|zK<|zK<|zK<|zE yH<|zM<|zZ
  refine jF ⟨_,(.tmp (d:=(.val (.bool ((((x.a != 0)||(x.b != 0))||!(kM x.n)))))) rfl .nil),?_⟩
  rw[show unuB x=_ from if_pos h1];rfl
 ·replace h1:=ne_of_beq_false h1
  refine jD<|jB<|kx [(2,(vb ((decide ((kZ x.op)<0)||(decide ((kZ x.op)<2)&&(x.b != 0)))||!(zeroR x.n))))] [] ?_ ?_
  ·refine zM<|zE gZ<|zE (oV (vb (decide ((kZ x.op)<0))) (kW (by kernel_rfl)))<|?_
   rcases hb4:(decide ((kZ x.op)<0)) with _ | _
   ·replace hb4:=xC hb4
    refine zM<|zE gZ<|zE (oV (vb (decide ((kZ x.op)<2))) (kW (by kernel_rfl)))<|?_
    rcases hb5:(decide ((kZ x.op)<2)) with _ | _
    ·replace hb5:=xC hb5
     exact zK<|zK<|zK<|zE vL<|zE vL<|zM<|zE (kI nR)<|zR (kP jT)<|zE (jY (g_zero x.n (vC x.n) (jW hx)))<|zE yT<|zE aC<|zM<|zZ
    ·replace hb5:=vY hb5
     refine zE (kI qW)<|zR (qH qZ)<|zE cK<|zE aD<|zE aC<|zE (oV (vb (false||(true&&(x.b != 0)))) (kW (by kernel_rfl)))<|?_
     rcases hb6:(false||(true&&(x.b != 0))) with _ | _
     ·exact zE (kI nR)<|zR (kP jT)<|zE (jY (g_zero x.n (vC x.n) (jW hx)))<|zE yT<|zE aC<|zM<|zZ
     ·exact zK<|zK<|zK<|zK<|zE yH<|zM<|zZ
   ·replace hb4:=vY hb4
    exact zK<|zK<|zK<|zK<|zK<|zK<|zK<|zE yH<|zM<|zK<|zK<|zK<|zK<|zE yH<|zM<|zZ
  refine jF ⟨_,(.tmp (d:=(.val (.bool (((decide ((kZ x.op)<0)||(decide ((kZ x.op)<2)&&(x.b != 0)))||!(zeroR x.n)))))) rfl .nil),?_⟩
  rw[show unuB x=_ from if_neg h1];rfl
theorem u_sizes(t:List jO)(ht:uL 1048576 t)(z:Int):jQ Tryz.prog 37 [(.sl 72 7 (List.map jK t)),(.val (.int .i64 (z)))] (.tup [(.sl 3 1 (List.map jL (tmL z t))),(.val (.int .i64 ((((zP z t):Nat):Int))))]):=by
 refine uR Tryz.func37 ?_
 refine jB<|kx [] [] (zE (aY 3 1)<|zM<|zZ) ?_
 refine jB<|jB<|kx [(16,(vb (decide (z<0)||decide (64<z))))] [] ?_ ?_
 ·refine zM<|zE gZ<|zE (oV (vb (decide (z<0))) (kW (by kernel_rfl)))<|?_
  rcases hb1:(decide (z<0)) with _ | _
  ·replace hb1:=xC hb1
   exact zM<|zE dV<|zE aC<|zZ
  ·replace hb1:=vY hb1
   exact zK<|zK<|zE yH<|zZ
 refine jE (b:=(decide (z<0)||decide (64<z))) rfl (fun h2=>?_) (fun h2=>?_)
 ·refine jB<|kx [(4,(vl 3 1 jL [])),(5,(kF 2))] [] (zE (aY 3 1)<|zM<|zZ) ?_
  refine jF ⟨_,(.tmp (d:=(.sl 3 1 (List.map jL []))) rfl (.tmp (d:=(.val (.int .i64 (2)))) rfl .nil)),?_⟩
  have he:=zb_t (t:=t) h2
  rw[he.1,he.2];rfl
 ·have hz0:=h2
  refine jD<|jB<|jB<|kx [(19,(vb (((t.length:Nat):Int) == 0)))] [] (zM<|zE (xW vE)<|zE xU<|zZ) ?_
  refine jE (b:=(((t.length:Nat):Int) == 0)) rfl (fun h3=>?_) (fun h3=>?_)
  ·replace h3:=eq_of_beq h3
   refine jB<|kx [(4,(vl 3 1 jL [])),(5,(kF 1))] [] (zE (aY 3 1)<|zM<|zZ) ?_
   refine jF ⟨_,(.tmp (d:=(.sl 3 1 (List.map jL []))) rfl (.tmp (d:=(.val (.int .i64 (1)))) rfl .nil)),?_⟩
   have he:=tm_l0 hz0 (show t.length=0 by omega)
   rw[he.1,he.2];rfl
  ·replace h3:=ne_of_beq_false h3
   have h0:=h3
   refine jD<|jB<|jB<|kx [(22,(vb (decide (400<((t.length:Nat):Int)))))] [] (zM<|zE (xW vE)<|zE dV<|zZ) ?_
   refine jE (b:=decide (400<((t.length:Nat):Int))) rfl (fun h4=>?_) (fun h4=>?_)
   ·replace h4:=vY h4
    refine jB<|kx [(4,(vl 3 1 jL [])),(5,(kF 3))] [] (zE (aY 3 1)<|zM<|zZ) ?_
    refine jF ⟨_,(.tmp (d:=(.sl 3 1 (List.map jL []))) rfl (.tmp (d:=(.val (.int .i64 (3)))) rfl .nil)),?_⟩
    have he:=tm_lb hz0 (show 400<t.length by omega)
    rw[he.1,he.2];rfl
   ·replace h4:=xC h4
    have h400:=h4
    refine jD<|jB<|kx [(6,(.own 0 3 1 0))] [(0,some (bm jL []))] (zN (oBo 0 uI ze3 zo3)<|zM<|zZ) ?_
    refine jB<|jB<|kx [(24,(vl 72 7 jK t)),(25,(kF t.length)),(26,(kF 0))] [] (zM<|zE (xW vE)<|zM<|zZ) ?_
    refine jH<|kO (α:=Nat × List Int) (fun (k,o)=>⟨[(1,(vi z)),(6,(.own 0 3 1 o.length)),(24,(vl 72 7 jK t)),(25,(kF t.length)),(26,(kF k))],[(0,some (bm jL o))]⟩) (fun (k,o)=>k<=t.length/\o=vZ t k/\dD z t k) (fun (k,o)=>t.length-k) (0,[]) wk ⟨Nat.zero_le _,rfl,szUp_0 _ _⟩ ?_
    rintro ⟨k,o⟩ ⟨hk,ho,hu⟩
    have hol:o.length=k:=by rw[ho];exact qM _ _
    refine jB<|kx [(27,(vb (decide (((k:Nat):Int)<((t.length:Nat):Int)))))] [] (zE gZ<|zZ) ?_
    refine jB<|jE rfl (fun h5=>?_) (fun h5=>?_)
    ·replace h5:=vY h5
     have hR:=tmr hz0 h5 h400 hu
     have hkl:=hR.kl
     refine jD<|jB<|jH<|jB<|kx [(7,(kF k)),(8,(.ref 1 0))] [(1,some (bx (jK (t.getD k tz))))] (zM<|zE (cT vE k (tz:jO))<|zE (eJ cN)<|zH (vH 1 mD dH)<|zM<|zT (qJ cN)<|zZ) ?_
     refine jB<|jB<|kx [(32,(vb (unuB (t.getD k tz))))] [] (zR (kP cN)<|zE (jY (u_uns (t.getD k tz) (tn_get ht (show k<t.length by omega))))<|zZ) ?_
     refine jE (b:=(unuB (t.getD k tz))) rfl (fun h6=>?_) (fun h6=>?_)
     ·refine jB<|kx [(4,(vl 3 1 jL [])),(5,(kF 1))] [] (zE (aY 3 1)<|zM<|zZ) ?_
      refine jF ⟨_,(.tmp (d:=(.sl 3 1 (List.map jL []))) rfl (.tmp (d:=(.val (.int .i64 (1)))) rfl .nil)),?_⟩
      have he:=hR.bad (by rw[<- unu_bad];exact h6)
      rw[he.1,he.2];rfl
     ·have hB:badB (t.getD k tz)=false:=by rw[<- unu_bad];exact h6
      refine jD<|jB<|kx [(9,(vi (kZ ((t.getD k tz).op))))] [] (zE (kI xV)<|zR (qH dG)<|zE (jY (r_kids ((t.getD k tz).op)))<|zM<|zZ) ?_
      refine jB<|jB<|kx [(63,(vb ((decide (1<=(kZ ((t.getD k tz).op)))&&(decide ((t.getD k tz).a<0)||decide (((k:Nat):Int)<=(t.getD k tz).a)))||(((kZ ((t.getD k tz).op)) == 2)&&(decide ((t.getD k tz).b<0)||decide (((k:Nat):Int)<=(t.getD k tz).b))))))] [] ?_ ?_
      ·refine zM<|zE oGe<|zE (oV (vb (decide (1<=(kZ ((t.getD k tz).op))))) (kW (by kernel_rfl)))<|?_
       rcases hb7:(decide (1<=(kZ ((t.getD k tz).op)))) with _ | _
       ·replace hb7:=xC hb7
        refine zK<|zK<|zK<|zK<|zK<|zK<|zK<|zK<|zK<|zE vL<|zM<|zM<|zE xU<|zE (oV (vb ((kZ ((t.getD k tz).op)) == 2)) (kW (by kernel_rfl)))<|?_
        rcases hb8:((kZ ((t.getD k tz).op)) == 2) with _ | _
        ·replace hb8:=ne_of_beq_false hb8
         exact zK<|zK<|zK<|zK<|zK<|zK<|zK<|zK<|zK<|zE vL<|zE vL<|zZ
        ·replace hb8:=eq_of_beq hb8
         refine zE (kI qW)<|zR (qH qZ)<|zE gZ<|zE (oV (vb (decide ((t.getD k tz).b<0))) (kW (by kernel_rfl)))<|?_
         rcases hb9:(decide ((t.getD k tz).b<0)) with _ | _
         ·replace hb9:=xC hb9
          exact zE (kI qW)<|zR (qH qZ)<|zM<|zE oGe<|zE aC<|zE aD<|zE aC<|zZ
         ·replace hb9:=vY hb9
          exact zK<|zK<|zK<|zK<|zE yH<|zE yH<|zE vL<|zZ
       ·replace hb7:=vY hb7
        refine zE (kI kV)<|zR (qH qZ)<|zE gZ<|zE (oV (vb (decide ((t.getD k tz).a<0))) (kW (by kernel_rfl)))<|?_
        rcases hb10:(decide ((t.getD k tz).a<0)) with _ | _
        ·replace hb10:=xC hb10
         refine zE (kI kV)<|zR (qH qZ)<|zM<|zE oGe<|zE aC<|zE aD<|zE (oV (vb (true&&(false||decide (((k:Nat):Int)<=(t.getD k tz).a)))) (kW (by kernel_rfl)))<|?_
         rcases hb11:(decide (((k:Nat):Int)<=(t.getD k tz).a)) with _ | _
         ·replace hb11:=xC hb11
          refine zM<|zE xU<|zE (oV (vb ((kZ ((t.getD k tz).op)) == 2)) (kW (by kernel_rfl)))<|?_
          rcases hb12:((kZ ((t.getD k tz).op)) == 2) with _ | _
          ·replace hb12:=ne_of_beq_false hb12
           exact zK<|zK<|zK<|zK<|zK<|zK<|zK<|zK<|zK<|zE vL<|zE vL<|zZ
          ·replace hb12:=eq_of_beq hb12
           refine zE (kI qW)<|zR (qH qZ)<|zE gZ<|zE (oV (vb (decide ((t.getD k tz).b<0))) (kW (by kernel_rfl)))<|?_
           rcases hb13:(decide ((t.getD k tz).b<0)) with _ | _
           ·replace hb13:=xC hb13
            exact zE (kI qW)<|zR (qH qZ)<|zM<|zE oGe<|zE aC<|zE aD<|zE aC<|zZ
           ·replace hb13:=vY hb13
            exact zK<|zK<|zK<|zK<|zE yH<|zE yH<|zE vL<|zZ
         ·replace hb11:=vY hb11
          exact zK<|zK<|zK<|zK<|zK<|zK<|zK<|zK<|zK<|zK<|zK<|zK<|zK<|zE yH<|zZ
        ·replace hb10:=vY hb10
         exact zK<|zK<|zK<|zK<|zE yH<|zE yH<|zM<|zK<|zK<|zK<|zK<|zK<|zK<|zK<|zK<|zK<|zK<|zK<|zK<|zK<|zE yH<|zZ
      refine jE rfl (fun h14=>?_) (fun h14=>?_)
      ·refine jB<|kx [(4,(vl 3 1 jL [])),(5,(kF 5))] [] (zE (aY 3 1)<|zM<|zZ) ?_
       refine jF ⟨_,(.tmp (d:=(.sl 3 1 (List.map jL []))) rfl (.tmp (d:=(.val (.int .i64 (5)))) rfl .nil)),?_⟩
       have he:=hR.ord hB (by rw[<- orD_eq];exact h14)
       rw[he.1,he.2];rfl
      ·have hO:ordB ((k:Nat):Int) (t.getD k tz)=false:=by rw[<- orD_eq];exact h14
       refine jD<|jB<|jB<|kx [(77,(vb (((t.getD k tz).op == 1)&&(decide ((t.getD k tz).a<0)||decide (z<=(t.getD k tz).a)))))] [] ?_ ?_
       ·refine zE (kI xV)<|zR (qH dG)<|zE xU<|zE (oV (vb ((t.getD k tz).op == 1)) (kW (by kernel_rfl)))<|?_
        rcases hb15:((t.getD k tz).op == 1) with _ | _
        ·replace hb15:=ne_of_beq_false hb15
         exact zK<|zK<|zK<|zK<|zK<|zK<|zK<|zK<|zK<|zE vL<|zZ
        ·replace hb15:=eq_of_beq hb15
         refine zE (kI kV)<|zR (qH qZ)<|zE gZ<|zE (oV (vb (decide ((t.getD k tz).a<0))) (kW (by kernel_rfl)))<|?_
         rcases hb16:(decide ((t.getD k tz).a<0)) with _ | _
         ·replace hb16:=xC hb16
          exact zE (kI kV)<|zR (qH qZ)<|zM<|zE oGe<|zE aC<|zE aD<|zZ
         ·replace hb16:=vY hb16
          exact zK<|zK<|zK<|zK<|zE yH<|zE yH<|zZ
       refine jE rfl (fun h17=>?_) (fun h17=>?_)
       ·refine jB<|kx [(4,(vl 3 1 jL [])),(5,(kF 2))] [] (zE (aY 3 1)<|zM<|zZ) ?_
        refine jF ⟨_,(.tmp (d:=(.sl 3 1 (List.map jL []))) rfl (.tmp (d:=(.val (.int .i64 (2)))) rfl .nil)),?_⟩
        have he:=hR.rng hB hO h17
        rw[he.1,he.2];rfl
       ·have hN:=ndr hR hB hO h17
        refine jD<|jB<|kx [(10,(kF 1))] [] (zM<|zZ) ?_
        refine pwp_meet (α:=Int) (fun v=>⟨[(1,(vi z)),(6,(.own 0 3 1 o.length)),(8,(.ref 1 0)),(9,(vi (kZ ((t.getD k tz).op)))),(10,(vi v)),(24,(vl 72 7 jK t)),(25,(kF t.length)),(26,(kF k))],[(0,some (bm jL o)),(1,some (bx (jK (t.getD k tz))))]⟩) (fun v=>((¬ 1<=kZ (t.getD k tz).op->v=1)/\(1<=kZ (t.getD k tz).op->v=(o.getD (((t.getD k tz).a).toNat) 0)))/\1<=v/\v<=4096) ?_ ?_
        ·refine jB<|kx [(79,(vb (decide (1<=(kZ ((t.getD k tz).op))))))] [] (zM<|zE oGe<|zZ) ?_
         refine jE (b:=decide (1<=(kZ ((t.getD k tz).op)))) rfl (fun h18=>?_) (fun h18=>?_)
         ·replace h18:=vY h18
          have hka:=h18
          obtain ⟨a1,a2,a3,a4⟩:=hN.a2 h18
          rw[<- ho] at a3 a4
          refine kx [(10,(vi (o.getD (((t.getD k tz).a).toNat) 0)))] [] (zM<|zE (kI kV)<|zR (qH qZ)<|zE (yE uI (((t.getD k tz).a).toNat))<|zR (eZ qZ (((t.getD k tz).a).toNat) (0:Int))<|zM<|zZ) ?_
          exact met (o.getD (((t.getD k tz).a).toNat) 0) wk (⟨⟨fun hx=>absurd hka hx,fun _=>rfl⟩,a3,a4⟩)
         ·replace h18:=xC h18
          have hka:=h18
          refine jD ?_
          exact met 1 wk (⟨⟨fun _=>rfl,fun hx=>absurd hx hka⟩,by decide,by decide⟩)
        ·rintro v ⟨hv1,hv2,hv3⟩
         refine pwp_meet (α:=Int) (fun w=>⟨[(1,(vi z)),(6,(.own 0 3 1 o.length)),(8,(.ref 1 0)),(9,(vi (kZ ((t.getD k tz).op)))),(10,(vi w)),(24,(vl 72 7 jK t)),(25,(kF t.length)),(26,(kF k))],[(0,some (bm jL o)),(1,some (bx (jK (t.getD k tz))))]⟩) (fun w=>(((t.getD k tz).op=7->w=2*v)/\((t.getD k tz).op≠7->w=v))/\1<=w/\w<=8192) ?_ ?_
         ·refine jB<|kx [(87,(vb ((t.getD k tz).op == 7)))] [] (zE (kI xV)<|zR (qH dG)<|zE xU<|zZ) ?_
          refine jE (b:=((t.getD k tz).op == 7)) rfl (fun h19=>?_) (fun h19=>?_)
          ·replace h19:=eq_of_beq h19
           refine kx [(10,(vi (2*v)))] [] (zM<|zE (zMl (2*v))<|zM<|zZ) ?_
           exact met (2*v) wk (⟨⟨fun _=>rfl,fun hx=>absurd h19 hx⟩,by omega,by omega⟩)
          ·replace h19:=ne_of_beq_false h19
           refine jD ?_
           exact met v wk (⟨⟨fun hx=>absurd hx h19,fun _=>rfl⟩,hv2,by omega⟩)
         ·rintro w ⟨hw1,hw2,hw3⟩
          refine pwp_meet (α:=Int) (fun u=>⟨[(1,(vi z)),(6,(.own 0 3 1 o.length)),(10,(vi u)),(24,(vl 72 7 jK t)),(25,(kF t.length)),(26,(kF k))],[(0,some (bm jL o))]⟩) (fun u=>u=gN (vZ t k) (t.getD k tz)) ?_ ?_
          ·refine jB<|kx [(91,(vb ((kZ ((t.getD k tz).op)) == 2)))] [] (zM<|zE xU<|zZ) ?_
           refine jE (b:=((kZ ((t.getD k tz).op)) == 2)) rfl (fun h20=>?_) (fun h20=>?_)
           ·replace h20:=eq_of_beq h20
            have hk2:=h20
            obtain ⟨b1,b2,b3,b4⟩:=hN.b2 h20
            rw[<- ho] at b3 b4
            refine kx [(10,(vi (w+(o.getD (((t.getD k tz).b).toNat) 0))))] [] (zM<|zM<|zE (kI qW)<|zR (qH qZ)<|zE (yE uI (((t.getD k tz).b).toNat))<|zR (eZ qZ (((t.getD k tz).b).toNat) (0:Int))<|zE (zAd (w+(o.getD (((t.getD k tz).b).toNat) 0)))<|zM<|zZ) ?_
            exact met (w+(o.getD (((t.getD k tz).b).toNat) 0)) wk (by rw[ho];rw[ho] at hv1;exact (szD_all hN.bad hv1 hw1).1 hk2)
           ·replace h20:=ne_of_beq_false h20
            refine jD ?_
            exact met w wk (by rw[ho] at hv1;exact (szD_all hN.bad hv1 hw1).2 h20)
          ·rintro u hv
           refine jB<|jB<|kx [(100,(vb (decide (4096<u))))] [] (zM<|zE dV<|zZ) ?_
           refine jE (b:=decide (4096<u)) rfl (fun h21=>?_) (fun h21=>?_)
           ·replace h21:=vY h21
            refine jB<|kx [(4,(vl 3 1 jL [])),(5,(kF 3))] [] (zE (aY 3 1)<|zM<|zZ) ?_
            refine jF ⟨_,(.tmp (d:=(.sl 3 1 (List.map jL []))) rfl (.tmp (d:=(.val (.int .i64 (3)))) rfl .nil)),?_⟩
            have he:=hN.bg hv h21
            rw[he.1,he.2];rfl
           ·replace h21:=xC h21
            refine jD<|kf [(6,(.own 0 3 1 ((o++[u]).length)))] [(0,some (bm jL (o++[u])))] (zM<|zM<|zE (eY uI ze3 zo3)<|zA jL o [u] rfl uI ze3 by3<|zM<|zF) ?_
            refine kx [(26,(kF (k+1)))] [] (zE (vT (k+1))<|zM<|zZ) ?_
            exact ⟨(k+1,o++[u]),wk,(by obtain ⟨q1,q2⟩:=hN.nx hv h21;exact ⟨by omega,by rw[<- q2,ho],q1⟩),(by first|omega|(dsimp only;omega))⟩
    ·replace h5:=xC h5
     refine kL<|jB<|kx [(4,(.own 0 3 1 o.length)),(5,(kF 0))] [] (zM<|zM<|zM<|zZ) ?_
     refine qG (yG (t:=4) (k:=0) (es:=List.map jL o) rfl rfl (vW _ _ (fun _=>rfl)) (xR _ _ rfl) (xY _ _ (fun _=>rfl) rfl)) ?_
     refine jF ⟨_,(.tmp (d:=(.sl 3 1 (List.map jL o))) rfl (.tmp (d:=(.val (.int .i64 (0)))) rfl .nil)),?_⟩
     have he:=tm_end2 hz0 h0 h400 hk h5 hu
     rw[he.1,he.2,<- ho];rfl
theorem aJ(t:List jO)(ht:uL 1048576 t)(z:Int):jQ Tryz.prog 16 [(.sl 72 7 (List.map jK t)),(.val (.int .i64 (z)))] (.val (.int .i64 ((((zP z t):Nat):Int)))):=by
 refine uR Tryz.func16 ?_
 refine jB<|kx [] [] (zM<|zZ) ?_
 refine jB<|kx [(6,(kF (zP z t)))] [] (zM<|zM<|zE (jY (u_sizes t ht z))<|zM<|zE xJ<|zE xJ<|zM<|zM<|zZ) ?_
 refine jB<|kx [(4,(kF (zP z t)))] [] (zM<|zM<|zZ) ?_
 refine jF ⟨_,(.tmp (d:=(.val (.int .i64 ((((zP z t):Nat):Int))))) rfl .nil),?_⟩
 rfl
end Go.Proofs.YtckccjhflbljgaaGreatDoor
namespace Go.Fid
theorem g2:kJ (kH 2)=[2]:=by
 rw[grpI_ofZ]
 show ofNat 2=[2]
 rw[nQ (by decide),show 2 / 1000000000=0 from rfl,uA]
def stnP(x y z u v f:Int):Prop:=(-1048576<=x/\x<=1048576)/\(-1048576<=y/\y<=1048576)/\(-1048576<=z/\z<=1048576)/\(-1048576<=u/\u<=1048576)/\(-1048576<=v/\v<=1048576)/\(1<=f/\f<=1048576)
instance {x y z u v f:Int}:Decidable (stnP x y z u v f):=by unfold stnP;infer_instance
def nq(a b c d:Int):Int:=(((a*a)+(b*b))+(c*c))+(d*d)
def N4(a b c d:Int):Rat:=((nq a b c d:Int):Rat)
def r02(a b c d:Int):Int:=2*((b*d)+(a*c))
def R02(a b c d:Int):Rat:=((r02 a b c d:Int):Rat)
def r12(a b c d:Int):Int:=2*((c*d)-(a*b))
def R12(a b c d:Int):Rat:=((r12 a b c d:Int):Rat)
def r22(a b c d:Int):Int:=(((a*a)-(b*b))-(c*c))+(d*d)
def R22(a b c d:Int):Rat:=((r22 a b c d:Int):Rat)
def gcd3(a b c:Rat):Int:=((Int.gcd a.num ((Int.gcd b.num c.num:Nat):Int):Nat):Int)
def redK(a b c:Rat):Rat:=Rat.divInt 1 (gcd3 a b c)
def dq0(a b c d p q r s:Int):Rat:=(R02 a b c d*N4 p q r s)+(R02 p q r s*N4 a b c d)
def dq1(a b c d p q r s:Int):Rat:=(R12 a b c d*N4 p q r s)+(R12 p q r s*N4 a b c d)
def dq2(a b c d p q r s:Int):Rat:=(R22 a b c d*N4 p q r s)+(R22 p q r s*N4 a b c d)
def RFr(lx ly lz la lb lc ld rx ry rz ra rb rc rd:Int)(b0 b1 b2 e00 e01 e02 e10 e11 e12 e20 e21 e22:Rat):Prop :=
 (((rx-lx):Int):Rat)=b0 /\
 (((ry-ly):Int):Rat)=b1 /\
 (((rz-lz):Int):Rat)=b2 /\
 b0*redK b0 b1 b2=e00 /\
 b1*redK b0 b1 b2=e01 /\
 b2*redK b0 b1 b2=e02 /\
 (((dq1 la lb lc ld ra rb rc rd)*e02)-((dq2 la lb lc ld ra rb rc rd)*e01))*redK (((dq1 la lb lc ld ra rb rc rd)*e02)-((dq2 la lb lc ld ra rb rc rd)*e01)) (((dq2 la lb lc ld ra rb rc rd)*e00)-((dq0 la lb lc ld ra rb rc rd)*e02)) (((dq0 la lb lc ld ra rb rc rd)*e01)-((dq1 la lb lc ld ra rb rc rd)*e00))=e10 /\
 (((dq2 la lb lc ld ra rb rc rd)*e00)-((dq0 la lb lc ld ra rb rc rd)*e02))*redK (((dq1 la lb lc ld ra rb rc rd)*e02)-((dq2 la lb lc ld ra rb rc rd)*e01)) (((dq2 la lb lc ld ra rb rc rd)*e00)-((dq0 la lb lc ld ra rb rc rd)*e02)) (((dq0 la lb lc ld ra rb rc rd)*e01)-((dq1 la lb lc ld ra rb rc rd)*e00))=e11 /\
 (((dq0 la lb lc ld ra rb rc rd)*e01)-((dq1 la lb lc ld ra rb rc rd)*e00))*redK (((dq1 la lb lc ld ra rb rc rd)*e02)-((dq2 la lb lc ld ra rb rc rd)*e01)) (((dq2 la lb lc ld ra rb rc rd)*e00)-((dq0 la lb lc ld ra rb rc rd)*e02)) (((dq0 la lb lc ld ra rb rc rd)*e01)-((dq1 la lb lc ld ra rb rc rd)*e00))=e12 /\
 ((e01*e12)-(e02*e11))*redK ((e01*e12)-(e02*e11)) ((e02*e10)-(e00*e12)) ((e00*e11)-(e01*e10))=e20 /\
 ((e02*e10)-(e00*e12))*redK ((e01*e12)-(e02*e11)) ((e02*e10)-(e00*e12)) ((e00*e11)-(e01*e10))=e21 /\
 ((e00*e11)-(e01*e10))*redK ((e01*e12)-(e02*e11)) ((e02*e10)-(e00*e12)) ((e00*e11)-(e01*e10))=e22
instance {lx ly lz la lb lc ld rx ry rz ra rb rc rd:Int} {b0 b1 b2 e00 e01 e02 e10 e11 e12 e20 e21 e22:Rat}:Decidable (RFr lx ly lz la lb lc ld rx ry rz ra rb rc rd b0 b1 b2 e00 e01 e02 e10 e11 e12 e20 e21 e22):=by unfold RFr;infer_instance
section
variable {lx ly lz la lb lc ld rx ry rz ra rb rc rd:Int} {b0 b1 b2 e00 e01 e02 e10 e11 e12 e20 e21 e22:Rat}
end
end Go.Fid
namespace Go.Proofs.YtckccjhflbljgaaGreatDoor
open Go.Fid
theorem fH(l:List kT)(hl:RowOk 1048576 l):jQ Tryz.prog 15 [(.sl 32 4 (List.map jG l))] (.val (.bool ((vRow l)))):=by
 have hb:=hl.2
 refine uR Tryz.func15 ?_
 refine jB<|kx [] [] (zM<|zZ) ?_
 refine jB<|jB<|kx [(3,(kF 0))] [] (zM<|zZ) ?_
 refine jH<|kO (α:=Nat) (fun i=>⟨[(0,(vl 32 4 jG l)),(3,(kF i))],[]⟩) (fun i=>i<=l.length/\(l.take i).all kM=true) (fun i=>l.length-i) 0 wk ⟨Nat.zero_le _,by simp⟩ ?_
 rintro i ⟨hi,hal⟩
 refine jB<|jB<|kx [(7,(vb (decide (((i:Nat):Int)<((l.length:Nat):Int)))))] [] (zM<|zM<|zE (xW qF)<|zE gZ<|zZ) ?_
 refine jE rfl (fun h1=>?_) (fun h1=>?_)
 ·replace h1:=vY h1
  refine jD<|jB<|jH<|jB<|kx [(15,(vb (!(kM (l.getD i uG)))))] [] (zM<|zM<|zE (cT qF i uG)<|zE (eJ jT)<|zE (jY (lM (l.getD i uG) (vC (l.getD i uG)) (jW (qok_at hl.1 (show i<l.length by omega)))))<|zE yT<|zZ) ?_
  refine jE rfl (fun h2=>?_) (fun h2=>?_)
  ·refine jB<|kx [(2,(vb false))] [] (zM<|zZ) ?_
   refine jF ⟨_,(.tmp (d:=(.val (.bool (false)))) rfl .nil),?_⟩
   rw[show vRow l=false from all_not (f:=kM) (l:=l) (i:=i) (d:=uG) (by omega) (by simpa using h2)];rfl
  ·refine jD<|kx [(3,(kF (i+1)))] [] (zM<|zE (vT (i+1))<|zM<|zZ) ?_
   exact ⟨(i+1),wk,⟨by omega,all_take (d:=uG) (by omega) hal (by simpa using h2)⟩,(by first|omega|(dsimp only;omega))⟩
 ·replace h1:=xC h1
  have hie:i=l.length:=by omega
  rw[hie,List.take_length] at hal
  refine kL<|jB<|kx [(2,(vb true))] [] (zM<|zZ) ?_
  refine jF ⟨_,(.tmp (d:=(.val (.bool (true)))) rfl .nil),?_⟩
  rw[show vRow l=true from hal];rfl
end Go.Proofs.YtckccjhflbljgaaGreatDoor
namespace Go.Fid
theorem den_pos(u:Rat):((u.den:Nat):Int)≠0:=by have:=u.den_pos;omega
end Go.Fid
namespace Go.Proofs.YtckccjhflbljgaaGreatDoor
open Go.Fid
def zQ(zs:List Int):List Rat:=zs.map fun z:Int=>(z:Rat)
theorem zQ_ql{zs:List Int}(h:∀ z∈zs,-9223372036854775808<=z/\z<=9223372036854775807):∀ q∈zQ zs,QL q 3:=fun q hq=>by
 obtain ⟨z,hz,rfl⟩:=List.mem_map.1 hq
 exact zW (mU (h z hz).1 (h z hz).2) (by decide)
theorem aS(l:List Rat):vRow (List.map jM l)=true:=by
 unfold vRow
 rw[List.all_eq_true]
 intro a ha
 obtain ⟨r,h1,rfl⟩:=List.mem_map.1 ha
 exact cH _
instance (n:Nat) (a:R2):Decidable (GL n a):=by unfold GL QL;infer_instance
theorem zs_at{zs:List Int}(h:∀ z∈zs,-9223372036854775808<=z/\z<=9223372036854775807){i:Nat}(hi:i<zs.length):-9223372036854775808<=zs.getD i 0/\zs.getD i 0<=9223372036854775807:=by
 rw[List.getD_eq_getElem?_getD,List.getElem?_eq_getElem hi];exact h _ (List.getElem_mem _)
theorem run_p{bv:List R2}{t:List jO}(hbx:∀ x∈bv,GL 1048576 x)(ht:uL 1048576 t)(h:JRun bv t):JRunP bv t:=⟨h,fun k hk=>by
 have h0:=mQ h.c0
 have hl:=bD bv t k
 exact e_stepN0 _ bv hbx _ (by omega) (by omega) (h.upto (by omega)) (h.nd ht hk)⟩
end Go.Proofs.YtckccjhflbljgaaGreatDoor
