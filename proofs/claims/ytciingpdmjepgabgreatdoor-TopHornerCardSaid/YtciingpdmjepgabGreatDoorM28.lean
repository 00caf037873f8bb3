/- Part 28 of a proof: rules, plain facts, and functions walked. -/
import Derived.Test.YtciingpdmjepgabGreatDoorM27
import Derived.Test.YtciingpdmjepgabGreatDoorM24
import Derived.Test.YtciingpdmjepgabGreatDoorM12
import Derived.Test.YtciingpdmjepgabGreatDoorM25
import Derived.Test.YtciingpdmjepgabGreatDoorM22
set_option linter.all false
set_option maxRecDepth 4000
namespace Go.Proofs.YtciingpdmjepgabGreatDoor
open Go.Fid
theorem fo71_4:uL Tryz.prog 71 4=some 4:=by kernel_rfl
theorem pl71:mP Tryz.prog 71=some [(0,1),(1,1),(2,1),(3,1),(4,1)]:=by kernel_rfl
theorem ze71:vP Tryz.prog 71=some [.int .i64 0,.int .i64 0,.int .i64 0,.slice none 0 0,.bool false]:=by kernel_rfl
theorem zn71:dV [.int .i64 0,.int .i64 0,.int .i64 0,.slice none 0 0,.bool false] [.val (.int .i64 0),.val (.int .i64 0),.val (.int .i64 0),.val (.slice none 0 0),.val (.bool false)]:=by simp [dV,Value.oneCell']
def bE(P:Int)(b:R2)(L:List J3)(x:kI):Prop:=gV Tryz.prog 37 [(.ref 0 0),(.d (qE x)),(vl 44 8 jJ [kF b])] [(0,some [(jS 1),(jS 2),(vi P),(.own 1 48 10 ((List.map jL (L)).length)),(vb false)]),(1,some (qP jD (List.map jL (L))))] (.d (.tup [])) [(0,some [(jS 1),(jS 2),(vi P),(.own 18 48 10 ((List.map jL (L++[n3 P b L x])).length)),(vb false)]),(18,some (qP jD (List.map jL (L++[n3 P b L x]))))]
theorem e_st3(x:kI)(b:R2)(hb:GL 12000 b)(P:Int)(L:List J3)(hst:bE P b L x):gV Tryz.prog 37 [(.ref 0 0),(.d (qE x)),(vl 44 8 jJ [kF b])] [(0,some [(jS 1),(jS 2),(vi P),(.own 1 48 10 ((List.map jL (L)).length)),(vb false)]),(1,some (qP jD (List.map jL (L))))] (.d (.tup [])) [(0,some [(jS 1),(jS 2),(vi P),(.own 18 48 10 ((List.map jL (L++[n3 P b L x])).length)),(vb false)]),(18,some (qP jD (List.map jL (L++[n3 P b L x]))))]:=hst
def qX(P:Int)(b:R2)(t:List kI):J3:=(dJ P b t t.length).getD (t.length-1) uF
structure J3Run (P:Int) (b:R2) (t:List kI):Prop where
 c0:dQ ((1:Nat):Int) t=0
 st:∀ k,k<t.length->bE P b (dJ P b t k) (t.getD k tz)
 ok:nO 12000 (qX P b t)
 pl:P=-1\/P=20
theorem h_chk(t:List kI)(ht:TnsOk 1048576 t)(z:Int):jW Tryz.prog 32 [(.sl 35 7 (List.map qE t)),(.val (.int .i64 (z)))] (.val (.int .i64 ((((dQ z t):Nat):Int)))):=by
 refine uW Tryz.func32 ?_
 refine jB<|kx [] [] (zM<|zZ) ?_
 refine jB<|kx [(6,(jS (dQ z t)))] [] (zM<|zM<|zE (kH (j_sizes t ht z))<|zM<|zE xX<|zE xX<|zM<|zM<|zZ) ?_
 refine jB<|kx [(4,(jS (dQ z t)))] [] (zM<|zM<|zZ) ?_
 refine jE ⟨_,(.tmp (d:=(.val (.int .i64 ((((dQ z t):Nat):Int))))) rfl .nil),?_⟩
 rfl
theorem e_j3(t:List kI)(ht:TnsOk 1048576 t)(b:R2)(hb:GL 12000 b)(P:Int)(hr:J3Run P b t):jW Tryz.prog 11 [(.sl 35 7 (List.map qE t)),(.sl 44 8 (List.map jJ [(kF b)])),(.val (.int .i64 (((2:Nat):Int)))),(.val (.int .i64 (P)))] (.tup [(jD (jL (qX P b t))),(.val (.int .i64 (((0:Nat):Int))))]):=by
 have h0:=tm_0 hr.c0
 have hP:=hr.pl
 let y2:=(qB.mk qY qY)
 let y1:=(bx (jD (xI.mk y2 [] [])))
 refine uW Tryz.func11 ?_
 refine jB<|kx [(8,(.ref 0 0))] [(0,some y1)] (zN (uT 0 mU fK)<|zM<|zZ) ?_
 refine jB<|jB<|kx [(16,(vl 44 8 jJ [(kF b)])),(17,(jS 1)),(18,(jS 0))] [] (zM<|zE (oLn vG 1)<|zM<|zZ) ?_
 refine jG<|vB 2 ?_
 refine vT<|jB<|kx [(19,(vb true))] [] (zE (xC true xO)<|zZ) ?_
 refine jB<|uG ?_
 refine jF<|jB<|jG<|jB<|kx [(11,(.ref 1 0))] [(1,some (bx (jJ (kF b))))] (zE (fD vG 0)<|zE (nX qI)<|zN (uT 1 vI xB)<|zT (qK qI)<|zZ) ?_
 refine jB<|kx [(24,(vb false))] [] (zR (kT qI)<|zE (kH (by have h:=i_valid (kF b) (gok_up (⟨yO (kE (kN hb.1) (by decide:12000<=12000)),yO (kE (kN hb.2.1) (by decide:12000<=12000))⟩));rw[show cH (kF b)=true from dN hb.2.2] at h;exact h))<|zE eL<|zZ) ?_
 refine qH ?_
 refine jF<|kx [(18,(jS 1))] [] (zE (vD 1 (hr:=by decide))<|zM<|zZ) ?_
 refine vO (qQ.refl _) ?_
 refine jB<|kx [(19,(vb false))] [] (zE (xC false xO)<|zZ) ?_
 refine jB<|qH ?_
 refine kK<|jB<|jB<|kx [(36,(vb (false||decide (((512:Nat):Int)<P))))] [] (zM<|zE (xC false xO)<|zM<|zM<|zE (xC false mB)<|zE gK<|zM<|zM<|zE mB<|zE aG<|zZ) ?_
 refine jH rfl (fun h1=>?_) (fun h1=>?_)
 ·replace h1:=xF (p:=(((512:Nat):Int)<P)) h1
  refine jB<|kx [(9,(jS 2))] [(0,some y1)] (zE (oBd pl48 mU fK)<|zT (qK dK)<|zM<|zZ) ?_
  refine jE ⟨_,(kQ (cs:=(bx (jD (xI.mk (qB.mk qY qY) [] [])))) (d:=(jD (xI.mk (qB.mk qY qY) [] []))) rfl rfl dK rfl rfl (.tmp (d:=(.val (.int .i64 (((2:Nat):Int))))) rfl .nil)),?_⟩
  exfalso;omega
 ·replace h1:=xH (p:=(((512:Nat):Int)<P)) h1
  refine jF<|jB<|jB<|kx [(12,(jS (dQ 1 t)))] [] (zM<|zM<|zE (oLn vG 1)<|zE (kH (h_chk t ht ((1:Nat):Int)))<|zM<|zZ) ?_
  refine jB<|kx [(43,(vb false))] [] (zM<|zE (xC false oNe (by exact bne_eq_false_iff_eq.2 (by rw[show (dQ 1 t)=0 from hr.c0]<;>rfl)))<|zZ) ?_
  refine qH ?_
  refine jF<|jB<|kx [(13,(.ref 2 0))] [(2,some (bx (.agg [(.val (.int .i64 (((1:Nat):Int)))),(.val (.int .i64 (((2:Nat):Int)))),(.val (.int .i64 (P))),(.val (.slice none 0 0)),(.val (.bool (false)))])))] (zM<|zE (oLn vG 1)<|zM<|zM<|zE (oBd pl71 ze71 zn71)<|zN (xA 2)<|zM<|zZ) ?_
  refine jB<|jB<|dH 2 3 3 48 10 (cs:=(bx (.agg [(.val (.int .i64 (((1:Nat):Int)))),(.val (.int .i64 (((2:Nat):Int)))),(.val (.int .i64 (P))),(.val (.slice none 0 0)),(.val (.bool (false)))]))) (h:=?_)
  refine kM (wk (l:=[(0,(vl 35 7 qE t)),(1,(vl 44 8 jJ [(kF b)])),(8,(.ref 0 0)),(13,(.ref 2 0))]) (b:=[(0,some y1),(2,some [(jS 1),(jS 2),(vi P),(.own 3 48 10 0),(vb false)]),(3,some (qP jD []))])) ?_
  refine kx [(52,(vl 35 7 qE t)),(53,(jS t.length)),(54,(jS 0))] [] (zM<|zE (zV el37)<|zM<|zZ) ?_
  refine jG<|kU (α:=Nat) (fun k=>⟨[(1,(vl 44 8 jJ [(kF b)])),(8,(.ref 0 0)),(13,(.ref 2 0)),(52,(vl 35 7 qE t)),(53,(jS t.length)),(54,(jS k))],[(0,some y1),(2,some [(jS 1),(jS 2),(vi P),(.own 3 48 10 ((List.map jL (dJ P b t k)).length)),(vb false)]),(3,some (qP jD (List.map jL (dJ P b t k))))]⟩) (fun k=>k<=t.length) (fun k=>t.length-k) 0 wk (Nat.zero_le _) ?_
  rintro k hk
  have hju:=j3U_len P b t k
  have hjm:(List.map jL (dJ P b t k)).length=k:=by rw[List.length_map,hju]
  refine jB<|kx [(55,(vb (decide (((k:Nat):Int)<((t.length:Nat):Int)))))] [] (zE xO<|zZ) ?_
  refine jB<|jH rfl (fun h2=>?_) (fun h2=>?_)
  ·replace h2:=xF h2
   refine jF<|jB<|jG<|jB<|kx [(15,(.ref 4 0))] [(4,some (bx (qE (t.getD k tz))))] (zE (dS el37 k (tz:kI))<|zE (nX sh35)<|zH (uT 4 ze35 zo35)<|zT (qK sh35)<|zZ) ?_
   refine jB<|kf [] [(2,some [(jS 1),(jS 2),(vi P),(.own 21 48 10 ((List.map jL ((dJ P b t k)++[(n3 P b (dJ P b t k) (t.getD k tz))])).length)),(vb false)]),(21,some (qP jD (List.map jL ((dJ P b t k)++[(n3 P b (dJ P b t k) (t.getD k tz))])))),(10,none),(11,none),(12,none),(13,none),(14,none),(15,none),(16,none),(17,none),(18,none),(19,none),(20,none),(3,none),(5,none),(6,none),(7,none),(8,none),(9,none)] (zM<|zR (kT sh35)<|zM<|zSe (B2:=[(2,some [(jS 1),(jS 2),(vi P),(.own 3 48 10 ((List.map jL (dJ P b t k)).length)),(vb false)]),(3,some (qP jD (List.map jL (dJ P b t k))))]) (B2':=[(2,some [(jS 1),(jS 2),(vi P),(.own 21 48 10 ((List.map jL ((dJ P b t k)++[(n3 P b (dJ P b t k) (t.getD k tz))])).length)),(vb false)]),(21,some (qP jD (List.map jL ((dJ P b t k)++[(n3 P b (dJ P b t k) (t.getD k tz))]))))]) [2,3,5,6,7,8,9,10,11,12,13,14,15,16,17,18,19,20,21] [2] (e_st3 (t.getD k tz) b hb P (dJ P b t k) (hr.st k (show k<t.length by omega)))<|zF) ?_
   refine kM (wk (l:=[(1,(vl 44 8 jJ [(kF b)])),(8,(.ref 0 0)),(13,(.ref 2 0)),(52,(vl 35 7 qE t)),(53,(jS t.length)),(54,(jS k))]) (b:=[(0,some y1),(2,some [(jS 1),(jS 2),(vi P),(.own 21 48 10 ((List.map jL ((dJ P b t k)++[(n3 P b (dJ P b t k) (t.getD k tz))])).length)),(vb false)]),(21,some (qP jD (List.map jL ((dJ P b t k)++[(n3 P b (dJ P b t k) (t.getD k tz))]))))])) ?_
   refine kM (sim_ren2 (S':=[(1,(vl 44 8 jJ [(kF b)])),(8,(.ref 0 0)),(13,(.ref 2 0)),(52,(vl 35 7 qE t)),(53,(jS t.length)),(54,(jS k))]) (B':=[(0,some y1),(2,some [(jS 1),(jS 2),(vi P),(.own 3 48 10 ((List.map jL ((dJ P b t k)++[(n3 P b (dJ P b t k) (t.getD k tz))])).length)),(vb false)]),(3,some (qP jD (List.map jL ((dJ P b t k)++[(n3 P b (dJ P b t k) (t.getD k tz))]))))]) 3 21 2) ?_
   refine jB<|kx [(65,(vb false))] [] (zM<|zE oNc<|zE (kW fo71_4)<|zR (qR sh4)<|zZ) ?_
   refine qH ?_
   refine jF<|kx [(54,(jS (k+1)))] [] (zE (vD (k+1))<|zM<|zZ) ?_
   exact ⟨k+1,wk,(by omega),(by first|omega|(dsimp only;omega))⟩
  ·replace h2:=xH h2
   refine kK<|jB<|kd [(9,(jS 0))] [(0,some (bx (jD ((List.map jL (dJ P b t k)).getD ((List.map jL (dJ P b t k)).length-1) (xI.mk y2 [] [])))))] mo (wM<|wE oNc<|wE (kW nN)<|wR (qR sh69)<|wM<|wE oNc<|wE (kW nN)<|wR (qR sh69)<|wE (oLo el69)<|wE (oSb ((List.map jL (dJ P b t k)).length-1))<|wE (oXO el69 ((List.map jL (dJ P b t k)).length-1))<|wR (oLA dK ((List.map jL (dJ P b t k)).length-1) (xI.mk y2 [] []))<|wT (qK dK)<|wM<|wZ) ?_
   refine jE ⟨_,(kQ (cs:=(bx (jD ((List.map jL (dJ P b t k)).getD ((List.map jL (dJ P b t k)).length-1) (xI.mk (qB.mk qY qY) [] []))))) (d:=(jD ((List.map jL (dJ P b t k)).getD ((List.map jL (dJ P b t k)).length-1) (xI.mk (qB.mk qY qY) [] [])))) rfl rfl dK rfl rfl (.tmp (d:=(.val (.int .i64 (((0:Nat):Int))))) rfl .nil)),?_⟩
   obtain rfl:k=t.length:=by omega
   rw[List.length_map,hju,dW jL _ uF _ (by omega)]
   unfold qX;rfl
def In(y z:R2):Prop:=z.1<=y.1/\y.1<=y.2/\y.2<=z.2
theorem In.gw(n:Int):In (gw n) (gw n):=⟨Rat.le_refl,Rat.le_refl,Rat.le_refl⟩
theorem In.pt(q:Rat):In (xV q) (xV q):=⟨Rat.le_refl,Rat.le_refl,Rat.le_refl⟩
theorem In.z2:In z2 z2:=⟨Rat.le_refl,Rat.le_refl,Rat.le_refl⟩
theorem In.add{a b c d:R2}(h:In a b)(k:In c d):In (jO a c) (jO b d):=⟨fV h.1 k.1,fV h.2.1 k.2.1,fV h.2.2 k.2.2⟩
theorem In.sub{a b c d:R2}(h:In a b)(k:In c d):In (dB a c) (dB b d):=⟨sub_valid h.1 k.2.2,sub_valid h.2.1 k.2.1,sub_valid h.2.2 k.1⟩
theorem ins_iff{a b p q:Rat}(h:insQ a b p q=true):p<=a/\b<=q:=by
 unfold insQ at h;rw[Bool.and_eq_true,decide_eq_true_eq,decide_eq_true_eq] at h;exact h
theorem In.mul{a b c d:R2}(h:In a b)(k:In c d):In (jN a c) (jN b d) :=
 have e:=ins_iff (mono_mul ⟨h.1,h.2.2⟩ ⟨k.1,k.2.2⟩ h.2.1 k.2.1)
 ⟨e.1,dX _ _,e.2⟩
theorem In.div{a b c d:R2}(hz:mL d.1 d.2=false)(h:In a b)(k:In c d):In (gdiv a c) (gdiv b d) :=
 have e:=ins_iff (mono_div hz ⟨h.1,h.2.2⟩ ⟨k.1,k.2.2⟩ h.2.1 k.2.1)
 ⟨e.1,dX _ _,e.2⟩
theorem In.sq{a b:R2}(h:In a b):In (gsq a) (gsq b) :=
 have e:=ins_iff (mono_sq ⟨h.1,h.2.2⟩ h.2.1)
 ⟨e.1,sqL_le _ _,e.2⟩
def InJ(y z:JV):Prop:=In y.v z.v/\∀ i,In (y.g.getD i z2) (z.g.getD i z2)
section
variable {bp bx:List R2} {t:List kI} {z:Int} (hl:bp.length=bx.length) (hb:∀ i,In (bp.getD i z2) (bx.getD i z2)) (hup:szUp z t t.length) (hd:dzT bx t=false)
include hl hb hup hd
end
section
variable {q:List (List kP)} {gs:List R2} (hq:MatOk 6 q) (hg:∀ y∈gs,GL 1048576 y)
include hq hg
end
def Hs(y:R2)(x:Rat):Prop:=y.1<=x/\x<=y.2
theorem Hs.add{a b:R2}{x y:Rat}(h:Hs a x)(k:Hs b y):Hs (jO a b) (x+y):=zB.1 (has_add h k)
theorem Hs.mul{a b:R2}{x y:Rat}(h:Hs a x)(k:Hs b y):Hs (jN a b) (x*y):=zB.1 (has_mul h k)
theorem Hs.sq{a:R2}{x:Rat}(h:Hs a x):Hs (gsq a) (x*x):=zB.1 (has_sq h)
theorem Hs.pt(x:Rat):Hs (xV x) x:=⟨Rat.le_refl,Rat.le_refl⟩
section
variable {q:List (List kP)} {gs:List R2} {u:Nat->Rat}
end
end Go.Proofs.YtciingpdmjepgabGreatDoor
namespace Go.Fid
open Go.Proofs.YtciingpdmjepgabGreatDoor (Hs Hs.add Hs.mul Hs.pt)
def yY(x:Rat):List Rat->Rat
 |[]=>0
 |c::l=>yY x l*x+c
def ev1(x:Rat):List Rat->Rat
 |[]=>0
 |_::l=>ev1 x l*x+yY x l
def ev2(x:Rat):List Rat->Rat
 |[]=>0
 |_::l=>ev2 x l*x+2*ev1 x l
def dvK:Int->List Rat->List Rat
 |_,[]=>[]
 |k,c::l=>(k:Rat)*c::dvK (k+1) l
def nW(p:List Rat):List Rat:=dvK 1 p.tail
theorem rI1(k:Int):((k+1:Int):Rat)=(k:Rat)+1:=by rw[Rat.intCast_add];rfl
theorem ev_dvK(x:Rat):∀ (l:List Rat) (k:Int),yY x (dvK k l)=(k:Rat)*yY x l+ev1 x l*x
 |[],k=>by simp only[dvK,yY,ev1,Rat.mul_zero,Rat.zero_mul,Rat.add_zero]
 |c::l,k=>by
  rw[dvK,yY,ev_dvK x l (k+1),yY,ev1,rI1]
  grind
theorem ev1_dvK(x:Rat):∀ (l:List Rat) (k:Int),ev1 x (dvK k l)=((k:Rat)+1)*ev1 x l+ev2 x l*x
 |[],k=>by simp only[dvK,ev2,ev1,Rat.mul_zero,Rat.zero_mul,Rat.add_zero]
 |c::l,k=>by
  rw[dvK,ev1,ev1_dvK x l (k+1),ev_dvK x l (k+1),ev1,ev2,rI1]
  grind
theorem ev_dvP(x:Rat):∀ p:List Rat,yY x (nW p)=ev1 x p
 |[]=>rfl
 |c::l=>by
  show yY x (dvK 1 l)=_
  rw[ev_dvK,ev1]
  have:(((1:Int):Int):Rat)=1:=rfl
  rw[this];grind
theorem ev1_dvP(x:Rat):∀ p:List Rat,ev1 x (nW p)=ev2 x p
 |[]=>rfl
 |c::l=>by
  show ev1 x (dvK 1 l)=_
  rw[ev1_dvK,ev2]
  have:(((1:Int):Int):Rat)=1:=rfl
  rw[this];grind
def cJ(P:Int)(c:Rat):J3:=⟨kG P (xV c),kG P (gw 0),kG P (gw 0)⟩
def xJ(P:Int)(b:R2):J3:=⟨kG P b,kG P (gw 1),kG P (gw 0)⟩
def adJ(P:Int)(u w:J3):J3:=⟨kG P (jO u.v w.v),kG P (jO u.g w.g),kG P (jO u.h w.h)⟩
def mlJ(P:Int)(u w:J3):J3:=⟨kG P (jN u.v w.v),kG P (jO (jN u.v w.g) (jN w.v u.g)),kG P (jO (jO (jN u.v w.h) (jN w.v u.h)) (jO (jN u.g w.g) (jN u.g w.g)))⟩
def hJ(P:Int)(b:R2):List Rat->J3
 |[]=>uF
 |[c]=>cJ P c
 |c::d::l=>adJ P (mlJ P (hJ P b (d::l)) (xJ P b)) (cJ P c)
def PtJ(u:J3)(v g h:Rat):Prop:=u.v=xV v/\u.g=xV g/\u.h=xV h
theorem rdP_m(a:R2):kG (-1) a=a:=if_pos (by decide)
theorem hJ_pt(x:Rat):∀ p:List Rat,p≠[]->PtJ (hJ (-1) (xV x) p) (yY x p) (ev1 x p) (ev2 x p)
 |[],h=>absurd rfl h
 |[c],_=>by
  refine ⟨?_,?_,?_⟩
  ·show kG (-1) (xV c)=_
   rw[rdP_m];congr 1;simp only[yY];grind
  ·show kG (-1) (gw 0)=_
   rw[rdP_m];show xV 0=_;congr 1;simp only[yY,ev1];grind
  ·show kG (-1) (gw 0)=_
   rw[rdP_m];show xV 0=_;congr 1;simp only[ev1,ev2];grind
 |c::d::l,_=>by
  obtain ⟨h1,h2,h3⟩:=hJ_pt x (d::l) (by simp)
  have z:gw 0=xV 0:=rfl
  have o:gw 1=xV 1:=rfl
  refine ⟨?_,?_,?_⟩
  ·show kG (-1) (jO (kG (-1) (jN (hJ (-1) (xV x) (d::l)).v (kG (-1) (xV x)))) (kG (-1) (xV c)))=_
   simp only[rdP_m];rw[h1,pt_mul,pt_add];rfl
  ·show kG (-1) (jO (kG (-1) (jO (jN (hJ (-1) (xV x) (d::l)).v (kG (-1) (gw 1))) (jN (kG (-1) (xV x)) (hJ (-1) (xV x) (d::l)).g))) (kG (-1) (gw 0)))=_
   simp only[rdP_m];rw[h1,h2,z,o,pt_mul,pt_mul,pt_add,pt_add];congr 1
   show _=ev1 x (d::l)*x+yY x (d::l)
   grind
  ·show kG (-1) (jO (kG (-1) (jO (jO (jN (hJ (-1) (xV x) (d::l)).v (kG (-1) (gw 0))) (jN (kG (-1) (xV x)) (hJ (-1) (xV x) (d::l)).h)) (jO (jN (hJ (-1) (xV x) (d::l)).g (kG (-1) (gw 1))) (jN (hJ (-1) (xV x) (d::l)).g (kG (-1) (gw 1)))))) (kG (-1) (gw 0)))=_
   simp only[rdP_m];rw[h1,h2,h3,z,o];simp only[pt_mul,pt_add];congr 1
   show _=ev2 x (d::l)*x+2*ev1 x (d::l)
   grind
def InJ(u:J3)(v g h:Rat):Prop:=Hs u.v v/\Hs u.g g/\Hs u.h h
theorem hs_rd{P:Int}{a:R2}{q:Rat}(h:Hs a q):Hs (kG P a) q:=by
 unfold kG
 split
 ·exact h
 ·exact ⟨Rat.le_trans (dn_le a.1 20) h.1,Rat.le_trans h.2 (le_up a.2 20)⟩
theorem InJ.to{u:J3}{v g h v' g' h':Rat}(k:InJ u v g h)(e1:v=v')(e2:g=g')(e3:h=h'):InJ u v' g' h':=e1▸e2▸e3▸k
theorem in_c(P:Int)(c:Rat):InJ (cJ P c) c 0 0:=⟨hs_rd (Hs.pt c),hs_rd (Hs.pt 0),hs_rd (Hs.pt 0)⟩
theorem in_x{P:Int}{b:R2}{x:Rat}(h:Hs b x):InJ (xJ P b) x 1 0:=⟨hs_rd h,hs_rd (Hs.pt 1),hs_rd (Hs.pt 0)⟩
theorem in_ad{P:Int}{u w:J3}{v g h v' g' h':Rat}(a:InJ u v g h)(b:InJ w v' g' h'):InJ (adJ P u w) (v+v') (g+g') (h+h'):=⟨hs_rd (a.1.add b.1),hs_rd (a.2.1.add b.2.1),hs_rd (a.2.2.add b.2.2)⟩
theorem in_ml{P:Int}{u w:J3}{v g h v' g' h':Rat}(a:InJ u v g h)(b:InJ w v' g' h'):InJ (mlJ P u w) (v*v') (v*g'+v'*g) (v*h'+v'*h+(g*g'+g*g')) :=
 ⟨hs_rd (a.1.mul b.1),hs_rd ((a.1.mul b.2.1).add (b.1.mul a.2.1)),hs_rd (((a.1.mul b.2.2).add (b.1.mul a.2.2)).add ((a.2.1.mul b.2.1).add (a.2.1.mul b.2.1)))⟩
theorem hJ_in{P:Int}{b:R2}{x:Rat}(hx:Hs b x):∀ p:List Rat,p≠[]->InJ (hJ P b p) (yY x p) (ev1 x p) (ev2 x p)
 |[],h=>absurd rfl h
 |[c],_=>(in_c P c).to (by simp only[yY];grind) (by simp only[yY,ev1];grind) (by simp only[ev1,ev2];grind)
 |c::d::l,_=>(in_ad (in_ml (hJ_in hx (d::l) (by simp)) (in_x hx)) (in_c P c)).to
   (by show _=yY x (d::l)*x+c;grind) (by show _=ev1 x (d::l)*x+yY x (d::l);grind) (by show _=ev2 x (d::l)*x+2*ev1 x (d::l);grind)
structure LnJ (u:J3) (n m k:Nat):Prop where
 v:GL n u.v
 g:GL m u.g
 h:GL k u.h
theorem ln_c{P:Int}{c:Rat}(h:QL c 2):LnJ (cJ P c) 5 5 5:=⟨gl_rd (gl_pt h) (by omega),gl_rd gl_0 (by omega),gl_rd gl_0 (by omega)⟩
theorem ln_x{P:Int}{b:R2}(h:GL 6 b):LnJ (xJ P b) 8 5 5:=⟨gl_rd h (by omega),gl_rd gl_1 (by omega),gl_rd gl_0 (by omega)⟩
theorem ln_ad{P:Int}{u w:J3}{n m k n' m' k':Nat}(a:LnJ u n m k)(b:LnJ w n' m' k'):LnJ (adJ P u w) (n+n'+3) (m+m'+3) (k+k'+3) :=
 ⟨gl_rd (vL a.v b.v (Nat.le_refl _)) (by omega),gl_rd (vL a.g b.g (Nat.le_refl _)) (by omega),gl_rd (vL a.h b.h (Nat.le_refl _)) (by omega)⟩
theorem ln_ml{P:Int}{u w:J3}{n m k n' m' k':Nat}(a:LnJ u n m k)(b:LnJ w n' m' k'):LnJ (mlJ P u w) (n+n'+2) ((n+m')+(n'+m)+3) ((n+k')+(n'+k)+1+(2*(m+m')+1)+3) :=
 ⟨gl_rd (qN a.v b.v (Nat.le_refl _)) (by omega),gl_rd (vL (qN a.v b.g (Nat.le_refl _)) (qN b.v a.g (Nat.le_refl _)) (Nat.le_refl _)) (by omega),
  gl_rd (vL (vL (qN a.v b.h (Nat.le_refl _)) (qN b.v a.h (Nat.le_refl _)) (Nat.le_refl _)) (vL (qN a.g b.g (Nat.le_refl _)) (qN a.g b.g (Nat.le_refl _)) (Nat.le_refl _)) (Nat.le_refl _)) (by omega)⟩
theorem LnJ.up{u:J3}{n m k n' m' k':Nat}(a:LnJ u n m k)(h1:n<=n')(h2:m<=m')(h3:k<=k'):LnJ u n' m' k':=⟨qG a.v h1,qG a.g h2,qG a.h h3⟩
theorem hJ_ln{P:Int}{b:R2}(hb:GL 6 b):∀ p:List Rat,p≠[]->p.length<=6->(∀ c∈p,QL c 2)->LnJ (hJ P b p) (5+18*p.length) (5+150*p.length) (5+1900*p.length)
 |[],h,_,_=>absurd rfl h
 |[c],_,_,hq=>(ln_c (hq c (by simp))).up (by simp) (by simp) (by simp)
 |c::d::l,_,hl,hq=>by
  have ih:=hJ_ln (P:=P) hb (d::l) (by simp) (by simp at hl ⊢;omega) (fun y hy=>hq y (List.mem_cons_of_mem _ hy))
  simp only[List.length_cons] at ih hl ⊢
  exact (ln_ad (ln_ml ih (ln_x hb)) (ln_c (hq c (by simp)))).up (by omega) (by omega) (by omega)
theorem LnJ.ok{u:J3}{n m k:Nat}(a:LnJ u n m k)(h1:n<=12000)(h2:m<=12000)(h3:k<=12000):nO 12000 u:=⟨qG a.v h1,qG a.g h2,qG a.h h3⟩
def hrM(n:Nat):kI:=⟨4,((n-1:Nat):Int),((0:Nat):Int),zr⟩
def hrK(q:Rat):kI:=⟨0,0,0,jP q⟩
def hrA(n:Nat):kI:=⟨2,((n:Nat):Int),((n+1:Nat):Int),zr⟩
def hrV:kI:=⟨1,((0:Nat):Int),0,zr⟩
def hrS(t:List kI)(c:Rat):List kI:=t++[hrM t.length]++[hrK c]++[hrA t.length]
def hZ:List Rat->List kI
 |[]=>[]
 |[c]=>[]++[hrV]++[hrK c]
 |c::d::l=>hrS (hZ (d::l)) c
theorem hrS_len(t:List kI)(c:Rat):(hrS t c).length=t.length+3:=by unfold hrS;simp only[List.length_append,List.length_cons,List.length_nil]
theorem hrT_len:∀ p:List Rat,p≠[]->(hZ p).length=3*p.length-1
 |[],h=>absurd rfl h
 |[c],_=>rfl
 |c::d::l,_=>by
  have ih:=hrT_len (d::l) (by simp)
  show (hrS (hZ (d::l)) c).length=_
  rw[hrS_len,ih];simp only[List.length_cons];omega
theorem gd_push{t:List kI}{x:kI}:(t++[x]).getD t.length tz=x:=by
 rw[List.getD_eq_getElem?_getD,List.getElem?_append_right (Nat.le_refl _),Nat.sub_self];rfl
theorem gd_old{t:List kI}{x:kI}{k:Nat}(h:k<t.length):(t++[x]).getD k tz=t.getD k tz:=by
 rw[List.getD_eq_getElem?_getD,List.getElem?_append_left h,<- List.getD_eq_getElem?_getD]
theorem szU_old{t:List kI}{x:kI}:∀ {k:Nat},k<=t.length->gX (t++[x]) k=gX t k
 |0,_=>rfl
 |k+1,h=>by rw[gX,gX,szU_old (by omega),gd_old (by omega)]
theorem j3_old{P:Int}{b:R2}{t:List kI}{x:kI}:∀ {k:Nat},k<=t.length->dJ P b (t++[x]) k=dJ P b t k
 |0,_=>rfl
 |k+1,h=>by rw[dJ,dJ,j3_old (by omega),gd_old (by omega)]
def SA(t:List kI):List Int:=gX t t.length
def JA(P:Int)(b:R2)(t:List kI):List J3:=dJ P b t t.length
theorem SA_len(t:List kI):(SA t).length=t.length:=xT t _
theorem JA_len(P:Int)(b:R2)(t:List kI):(JA P b t).length=t.length:=j3U_len P b t _
theorem eQ(t:List kI)(x:kI):SA (t++[x])=SA t++[eD (SA t) x]:=by
 unfold SA
 rw[show (t++[x]).length=t.length+1 by simp,gX,szU_old (Nat.le_refl _),gd_push]
theorem dD(P:Int)(b:R2)(t:List kI)(x:kI):JA P b (t++[x])=JA P b t++[n3 P b (JA P b t) x]:=by
 unfold JA
 rw[show (t++[x]).length=t.length+1 by simp,dJ,j3_old (Nat.le_refl _),gd_push]
inductive Nd3 (L:List J3):kI->Prop
 |c {q:Rat} (h:QL q 12000):Nd3 L (hrK q)
 |v:Nd3 L hrV
 |ad {a c:Nat} (ha:a<L.length) (hc:c<L.length):Nd3 L ⟨2,(a:Int),(c:Int),zr⟩
 |ml {a c:Nat} (ha:a<L.length) (hc:c<L.length):Nd3 L ⟨4,(a:Int),(c:Int),zr⟩
structure Hk3 (P:Int) (b:R2) (t:List kI):Prop where
 up:szUp ((1:Nat):Int) t t.length
 nd:∀ k,k<t.length->Nd3 (dJ P b t k) (t.getD k tz)
 gl:∀ u∈JA P b t,nO 12000 u
theorem hk3_nil(P:Int)(b:R2):Hk3 P b []:=⟨szUp_0 _ _,fun k h=>absurd h (Nat.not_lt_zero k),fun u h=>absurd h (by unfold JA;simp [dJ])⟩
theorem hk3_push{P:Int}{b:R2}{t:List kI}{x:kI}(h:Hk3 P b t)(h1:ndC ((1:Nat):Int) (SA t) x=0)(h2:Nd3 (JA P b t) x)(h3:nO 12000 (n3 P b (JA P b t) x)):Hk3 P b (t++[x]):=by
 refine ⟨fun k hk=>?_,fun k hk=>?_,fun u hu=>?_⟩
 ·rw[show (t++[x]).length=t.length+1 by simp] at hk
  rcases Nat.lt_or_ge k t.length with h4 | h4
  ·rw[szU_old (by omega),gd_old h4];exact h.up k h4
  ·obtain rfl:k=t.length:=by omega
   rw[szU_old (Nat.le_refl _),gd_push];exact h1
 ·rw[show (t++[x]).length=t.length+1 by simp] at hk
  rcases Nat.lt_or_ge k t.length with h4 | h4
  ·rw[j3_old (by omega),gd_old h4];exact h.nd k h4
  ·obtain rfl:k=t.length:=by omega
   rw[j3_old (Nat.le_refl _),gd_push];exact h2
 ·rw[dD] at hu
  rcases List.mem_append.1 hu with h4 | h4
  ·exact h.gl u h4
  ·rw[List.mem_singleton] at h4;subst h4;exact h3
theorem nd_y3{ss:List Int}{x:kI}(h1:¬ cC x)(h2:¬ nP ((ss.length:Nat):Int) x)(h3:¬ aY ((1:Nat):Int) x)(h4:eD ss x<=4096):ndC ((1:Nat):Int) ss x=0:=by
 unfold ndC;rw[if_neg h1,if_neg h2,if_neg h3,if_neg (by omega)]
theorem kd0:xE 0=0:=by decide
theorem kd1:xE 1=0:=by decide
theorem unsz:unsB zr=true:=by decide
theorem hnd_k{ss:List Int}{q:Rat}{N:Nat}(h:QL q N):ndC ((1:Nat):Int) ss (hrK q)=0:=by
 refine nd_y3 ?_ ?_ ?_ ?_
 ·unfold cC hrK;dsimp only;rw[kd0,eH];simp
 ·unfold nP hrK;dsimp only;rw[kd0];omega
 ·unfold aY hrK;dsimp only;omega
 ·unfold eD hrK;dsimp only;rw[if_pos kd0];omega
theorem hnd_v{ss:List Int}:ndC ((1:Nat):Int) ss hrV=0:=by
 refine nd_y3 ?_ ?_ ?_ ?_
 ·unfold cC hrV;dsimp only;rw[kd1,unsz];simp
 ·unfold nP hrV;dsimp only;rw[kd1];omega
 ·unfold aY hrV;dsimp only;omega
 ·unfold eD hrV;dsimp only;rw[if_pos kd1];omega
theorem nd_two{ss:List Int}{o:Int}{a c:Nat}(ho:o=2\/o=4)(ha:a<ss.length)(hc:c<ss.length)(h:ss.getD a 0+ss.getD c 0<=4096):ndC ((1:Nat):Int) ss ⟨o,(a:Int),(c:Int),zr⟩=0/\eD ss ⟨o,(a:Int),(c:Int),zr⟩=ss.getD a 0+ss.getD c 0:=by
 have kd:xE o=2:=by rcases ho with rfl | rfl<;>decide
 have e:eD ss ⟨o,(a:Int),(c:Int),zr⟩=ss.getD a 0+ss.getD c 0:=by
  unfold eD;dsimp only
  rw[if_neg (by omega),if_neg (by omega),if_neg (by omega)];rfl
 refine ⟨nd_y3 ?_ ?_ ?_ (by rw[e];exact h),e⟩
 ·unfold cC;dsimp only;rw[kd,unsz];rintro (q | q | q | q)
  ·omega
  ·omega
  ·omega
  ·exact absurd q.2 (by decide)
 ·unfold nP;dsimp only;rw[kd];omega
 ·unfold aY;dsimp only;omega
theorem n3_k(P:Int)(b:R2)(L:List J3)(q:Rat):n3 P b L (hrK q)=cJ P q:=by
 unfold n3 hrK cJ;dsimp only;rw[if_pos rfl,mV]
theorem n3_v(P:Int)(b:R2)(L:List J3):n3 P b L hrV=xJ P b:=by unfold n3 hrV xJ;rfl
theorem n3_ad(P:Int)(b:R2)(L:List J3)(a c:Nat):n3 P b L ⟨2,(a:Int),(c:Int),zr⟩=adJ P (L.getD a uF) (L.getD c uF):=by unfold n3 adJ;rfl
theorem n3_ml(P:Int)(b:R2)(L:List J3)(a c:Nat):n3 P b L ⟨4,(a:Int),(c:Int),zr⟩=mlJ P (L.getD a uF) (L.getD c uF):=by unfold n3 mlJ;rfl
theorem ag_l{α:Type}{A B:List α}{z:α}{k:Nat}(h:k<A.length):(A++B).getD k z=A.getD k z:=by
 rw[List.getD_eq_getElem?_getD,List.getElem?_append_left h,<- List.getD_eq_getElem?_getD]
theorem ag_e{α:Type}{A:List α}{x z:α}{k:Nat}(h:k=A.length):(A++[x]).getD k z=x:=by
 subst h;rw[List.getD_eq_getElem?_getD,List.getElem?_append_right (Nat.le_refl _),Nat.sub_self];rfl
structure HrOk (P:Int) (b:R2) (p:List Rat) (t:List kI):Prop where
 ok:Hk3 P b t
 len:2<=t.length
 x:(JA P b t).getD 0 uF=xJ P b
 top:(JA P b t).getD (t.length-1) uF=hJ P b p
 s0:(SA t).getD 0 0=1
 st:(SA t).getD (t.length-1) 0=2*p.length-1
theorem hr_1{P:Int}{b:R2}(hb:GL 6 b){c:Rat}(hc:QL c 2):HrOk P b [c] ([]++[hrV]++[hrK c]):=by
 have a0:=hk3_push (hk3_nil P b) (x:=hrV) hnd_v .v (by rw[n3_v];exact (ln_x hb).ok (by omega) (by omega) (by omega))
 have a1:=hk3_push a0 (x:=hrK c) (hnd_k hc) (.c (kS hc (by omega))) (by rw[n3_k];exact (ln_c hc).ok (by omega) (by omega) (by omega))
 exact ⟨a1,by simp,by rw[dD,dD,n3_v,n3_k];rfl,by rw[dD,dD,n3_v,n3_k];rfl,by rw[eQ,eQ];rfl,by rw[eQ,eQ];rfl⟩
theorem hr_S{P:Int}{b:R2}(hb:GL 6 b){c:Rat}(hc:QL c 2){d:Rat}{l:List Rat}{t:List kI}(h:HrOk P b (d::l) t)(hl:(d::l).length<6)(hq:∀ y∈d::l,QL y 2):HrOk P b (c::d::l) (hrS t c):=by
 have l0:=h.len
 have ls:=SA_len t
 have lj:=JA_len P b t
 have lq:=hJ_ln (P:=P) hb (d::l) (by simp) (by omega) hq
 have h0:=hr_1 (P:=P) hb hc
 have m0:=nd_two (ss:=SA t) (o:=4) (a:=t.length-1) (c:=0) (.inr rfl) (by omega) (by omega) (by rw[h.s0,h.st];omega)
 rw[h.s0,h.st] at m0
 have e1:n3 P b (JA P b t) (hrM t.length)=mlJ P (hJ P b (d::l)) (xJ P b):=by unfold hrM;rw[n3_ml,h.top,h.x]
 have lm:=ln_ml (P:=P) lq (ln_x (P:=P) hb)
 have a1:=hk3_push h.ok (x:=hrM t.length) m0.1 (.ml (by omega) (by omega)) (by rw[e1];exact lm.ok (by omega) (by omega) (by omega))
 have a2:=hk3_push a1 (x:=hrK c) (hnd_k hc) (.c (kS hc (by omega))) (by rw[n3_k];exact (ln_c hc).ok (by omega) (by omega) (by omega))
 have s1:SA (t++[hrM t.length])=SA t++[2*((d::l).length:Int)-1+1]:=by rw[eQ];congr 1;congr 1;exact m0.2
 have s2:SA (t++[hrM t.length]++[hrK c])=SA t++[2*((d::l).length:Int)-1+1]++[1]:=by rw[eQ,s1];rfl
 have j2:JA P b (t++[hrM t.length]++[hrK c])=JA P b t++[mlJ P (hJ P b (d::l)) (xJ P b)]++[cJ P c]:=by rw[dD,dD,e1,n3_k]
 have g1:(SA (t++[hrM t.length]++[hrK c])).getD t.length 0=2*((d::l).length:Int)-1+1:=by rw[s2,ag_l (by simp<;>omega),ag_e ls.symm]
 have g2:(SA (t++[hrM t.length]++[hrK c])).getD (t.length+1) 0=1:=by rw[s2,ag_e (by simp<;>omega)]
 have m2:=nd_two (ss:=SA (t++[hrM t.length]++[hrK c])) (o:=2) (a:=t.length) (c:=t.length+1) (.inl rfl) (by rw[s2];simp;omega) (by rw[s2];simp;omega) (by rw[g1,g2];omega)
 rw[g1,g2] at m2
 have e3:n3 P b (JA P b (t++[hrM t.length]++[hrK c])) (hrA t.length)=hJ P b (c::d::l):=by
  unfold hrA
  rw[n3_ad,j2,ag_l (by simp<;>omega),ag_e lj.symm,ag_e (by simp<;>omega)];rfl
 have lt:=hJ_ln (P:=P) hb (c::d::l) (by simp) (by simp only[List.length_cons] at hl ⊢;omega) (List.forall_mem_cons.2 ⟨hc,hq⟩)
 have a3:=hk3_push a2 (x:=hrA t.length) m2.1 (.ad (by rw[j2,List.length_append,List.length_append,List.length_cons,List.length_nil];omega) (by rw[j2,List.length_append,List.length_append,List.length_cons,List.length_cons,List.length_nil];omega)) (by rw[e3];refine lt.ok ?_ ?_ ?_<;>(simp only[List.length_cons] at hl ⊢;omega))
 refine ⟨a3,by rw[hrS_len];omega,?_,?_,?_,?_⟩
 ·unfold hrS;rw[dD,j2,ag_l (by simp<;>omega),ag_l (by simp<;>omega),ag_l (by omega)];exact h.x
 ·unfold hrS;rw[dD,e3,ag_e (by rw[JA_len];simp)]
 ·unfold hrS;rw[eQ,s2,ag_l (by simp<;>omega),ag_l (by simp<;>omega),ag_l (by omega)];exact h.s0
 ·unfold hrS;rw[eQ,ag_e (by rw[SA_len];simp)];refine m2.2.trans ?_;simp only[List.length_cons];omega
theorem hr_ok{P:Int}{b:R2}(hb:GL 6 b):∀ p:List Rat,p≠[]->p.length<=6->(∀ y∈p,QL y 2)->HrOk P b p (hZ p)
 |[],h,_,_=>absurd rfl h
 |[c],_,_,hq=>hr_1 hb (hq c (by simp))
 |c::d::l,_,hl,hq=>hr_S hb (hq c (by simp)) (hr_ok hb (d::l) (by simp) (by simp only[List.length_cons] at hl ⊢;omega) (fun y hy=>hq y (List.mem_cons_of_mem _ hy))) (by simp only[List.length_cons] at hl ⊢;omega) (fun y hy=>hq y (List.mem_cons_of_mem _ hy))
theorem Hk3.c0{P:Int}{b:R2}{t:List kI}(h:Hk3 P b t)(h1:t.length≠0)(h2:t.length<=400):dQ ((1:Nat):Int) t=0:=by
 unfold dQ;rw[if_neg (by omega),if_neg h1,if_neg (by omega)]
 exact szE_0.2 (fun i _ hi=>h.up i (by omega))
def nzT(l:List Rat):Prop:=l=[]\/l.getD (l.length-1) 0≠0
theorem dvK_len:∀ (l:List Rat) (k:Int),(dvK k l).length=l.length
 |[],_=>rfl
 |c::l,k=>by rw[dvK,List.length_cons,List.length_cons,dvK_len l (k+1)]
theorem dvK_get:∀ (l:List Rat) (k:Int) (i:Nat),i<l.length->(dvK k l).getD i 0=((k+(i:Int):Int):Rat)*l.getD i 0
 |[],_,i,h=>absurd h (Nat.not_lt_zero i)
 |c::l,k,0,_=>by rw[dvK];show (k:Rat)*c=((k+((0:Nat):Int):Int):Rat)*c;rw[Int.natCast_zero,Int.add_zero]
 |c::l,k,i+1,h=>by
  rw[dvK]
  show (dvK (k+1) l).getD i 0=_*l.getD i 0
  rw[dvK_get l (k+1) i (by simp only[List.length_cons] at h;omega)]
  congr 2;omega
theorem bK(p:List Rat):(nW p).length=p.length-1:=by unfold nW;rw[dvK_len,List.length_tail]
theorem tl_get(p:List Rat)(i:Nat):p.tail.getD i 0=p.getD (i+1) 0:=by cases p<;>rfl
theorem dvP_get{p:List Rat}{i:Nat}(h:i+1<p.length):(nW p).getD i 0=(((i+1:Nat):Int):Rat)*p.getD (i+1) 0:=by
 unfold nW
 rw[dvK_get _ _ _ (by rw[List.length_tail];omega),tl_get]
 congr 2;omega
theorem nz_dvP{p:List Rat}(h:nzT p):nzT (nW p):=by
 rcases Nat.lt_or_ge 1 p.length with h1 | h1
 ·right
  rw[bK,dvP_get (by omega)]
  rcases h with rfl | h
  ·simp at h1
  ·rw[show p.length-1-1+1=p.length-1 by omega]
   have h2:((((p.length-1:Nat):Nat):Int):Rat)≠0:=by
    intro h3
    have h4:((p.length-1:Nat):Int)=0:=Rat.intCast_inj.1 h3
    omega
   intro h5
   rcases Rat.mul_eq_zero.1 h5 with h6 | h6
   ·exact h2 h6
   ·exact h h6
 ·left
  exact List.eq_nil_of_length_eq_zero (by rw[bK];omega)
theorem ql_tail{p:List Rat}{n:Nat}(h:∀ q∈p,QL q n):∀ q∈p.tail,QL q n:=fun q hq=>h q (List.mem_of_mem_tail hq)
theorem ql_dvK{n:Nat}:∀ (l:List Rat) (k:Int),0<=k->k+(l.length:Int)<=1000->(∀ q∈l,QL q n)->∀ q∈dvK k l,QL q (n+1)
 |[],_,_,_,_=>fun q h=>by cases h
 |c::l,k,h0,h1,h=>fun q hq=>by
  rw[dvK] at hq
  rcases List.mem_cons.1 hq with rfl | hq
  ·exact vW (mI (n:=1) (mM (by simp only[List.length_cons] at h1;omega))) (h c (by simp)) (by omega)
  ·exact ql_dvK l (k+1) (by omega) (by simp only[List.length_cons] at h1;omega) (fun y hy=>h y (List.mem_cons_of_mem _ hy)) q hq
theorem gE{p:List Rat}{n:Nat}(hl:p.length<=900)(h:∀ q∈p,QL q n):∀ q∈nW p,QL q (n+1) :=
 ql_dvK _ 1 (by omega) (by rw[List.length_tail];omega) (ql_tail h)
theorem vA{p:List Rat}{n m:Nat}(h:∀ q∈p,QL q n)(hm:n<=m:=by decide):∀ q∈p,QL q m:=fun q hq=>kS (h q hq) hm
def evT(x:Rat)(l:List Rat)(k:Nat):Rat:=yY x (l.drop k)
theorem evT_s{x:Rat}{l:List Rat}{k:Nat}(h:k<l.length):evT x l k=evT x l (k+1)*x+l.getD k 0:=by
 unfold evT
 rw[List.drop_eq_getElem_cons h,yY,List.getD_eq_getElem?_getD,List.getElem?_eq_getElem h];rfl
theorem ql_evT{x:Rat}{l:List Rat}{n:Nat}(hx:QL x n)(hl:∀ q∈l,QL q n):∀ (j k:Nat),k+j=l.length->QL (evT x l k) (1+(2*n+1)*j)
 |0,k,h=>by
  have:evT x l k=0:=by unfold evT;rw[List.drop_eq_nil_of_le (by omega)];rfl
  rw[this];exact kS (mI (z:=0) (n:=1) (mM)) (by omega)
 |j+1,k,h=>by
  rw[evT_s (by omega)]
  exact ql_add (vW (ql_evT hx hl j (k+1) (by omega)) hx (Nat.le_refl _)) (by rw[List.getD_eq_getElem?_getD,List.getElem?_eq_getElem (show k<l.length by omega)];exact hl _ (List.getElem_mem _)) (by rw[Nat.mul_add];omega)
theorem evT_0(x:Rat)(l:List Rat):evT x l 0=yY x l:=rfl
theorem evT_e(x:Rat)(l:List Rat):evT x l l.length=0:=by unfold evT;rw[List.drop_eq_nil_of_le (Nat.le_refl _)];rfl
theorem cl_o{l:List Rat}{o:List kP}{i:Nat}(h:i=l.length)(ho:o=(l.take i).map jP):o=l.map jP:=by rw[ho,h,List.take_length]
theorem cl_last{l:List Rat}{o:List kP}{z:kP}(ho:o=l.map jP)(h:0<o.length):o.getD (o.length-1) z=jP (l.getD (l.length-1) 0):=by
 have hl:o.length=l.length:=by rw[ho,List.length_map]
 rw[hl,ho,List.getD_eq_getElem?_getD,List.getElem?_map,List.getD_eq_getElem?_getD,List.getElem?_eq_getElem (show l.length-1<l.length by omega)];rfl
theorem cl_abs{l:List Rat}(hz:nzT l)(h:0<l.length)(h2:mY (l.getD (l.length-1) 0)=0):False:=by
 rcases hz with rfl | h3
 ·simp at h
 ·exact h3 (signQ_zero.1 h2)
theorem dv_o{l:List Rat}{o:List kP}{k:Nat}(h:k=l.length-1)(ho:o=((nW l).take k).map jP):o=(nW l).map jP:=by rw[ho,h,<- bK,List.take_length]
theorem evT_ql{x:Rat}{l:List Rat}{k:Nat}(hx:QL x 40)(hl:∀ q∈l,QL q 40)(hb:l.length<=10)(hk:k<=l.length):QL (evT x l k) 900 :=
 kS (ql_evT hx hl (l.length-k) k (by omega)) (by omega)
theorem dC{x:Rat}{l:List Rat}(hx:QL x 40)(hl:∀ q∈l,QL q 40)(hb:l.length<=10):QL (yY x l) 900:=evT_ql hx hl hb (Nat.zero_le _)
theorem ql_00:QL (0:Rat) 1:=mI (z:=0) (n:=1) (mM) (by decide)
def vaP(p:List kP):Bool:=p.all kL&&((((p.length:Nat):Int) == 0)||(mY (xZ (p.getD (p.length-1) zr)) != 0))
theorem va_no{p:List kP}{i:Nat}(h:i<p.length)(hv:(!kL (p.getD i zr))=true):vaP p=false:=by
 unfold vaP
 have h1:p.all kL=false:=by
  rw[List.all_eq_false]
  refine ⟨p.getD i zr,?_,by simpa using hv⟩
  rw[List.getD_eq_getElem?_getD,List.getElem?_eq_getElem h];exact List.getElem_mem _
 rw[h1];rfl
theorem va_yes{p:List kP}(h:∀ j,j<p.length->kL (p.getD j zr)=true):vaP p=((((p.length:Nat):Int) == 0)||(mY (xZ (p.getD (p.length-1) zr)) != 0)):=by
 unfold vaP
 have h1:p.all kL=true:=by
  rw[List.all_eq_true]
  intro x hx
  obtain ⟨i,hi,rfl⟩:=List.mem_iff_getElem.1 hx
  have:=h i hi
  rwa [List.getD_eq_getElem?_getD,List.getElem?_eq_getElem hi] at this
 rw[h1,Bool.true_and]
theorem nbF{b:Bool}(h:(!b)=false):b=true:=by cases b<;>simp at h ⊢
theorem cl_no{l:List Rat}{o:List kP}(hz:nzT l)(hl:o.length=l.length)(h:(decide (((0:Nat):Int)<((o.length:Nat):Int))&&(mY (l.getD (l.length-1) 0) == 0))=true):False:=by
 simp only[Bool.and_eq_true,decide_eq_true_eq,beq_iff_eq] at h
 exact cl_abs hz (by omega) h.2
open Go.RowKit (Below)
section
variable {P:Program} {n:Fr} {c:Code} {Q:Exit->PS->Prop} {S:SL} {B:BS}
end
section
variable {P:Program} {S:SL} {o:Oper}
end
section
variable {P:Program} {o:Oper} {S:SL} {B:BS} {T:TypeId} {x:Operand} {k off:Nat}
end
section
variable {P:Program} {n:Fr} {c:Code} {Q:Exit->PS->Prop} {S:SL} {B:BS}
end
section
variable {P:Program} {o:Oper} {S:Nat->SV}
theorem e_s3{T E t:TypeId}{x y z:Operand}{s h:Nat}{kh:IntKind}{es:List jT}(ho:o.op=.slice T x none (some y) (some z))(hT:uB P T=some (E,s))(hx:ev S x=.d (.sl t s es))(hy:ev S y=.d (.val (.int kh ((h:Nat):Int))))(hz:ev S z=.d (.val (.int kh ((h:Nat):Int))))
  (h2:h=es.length):uC P o S [] (.d (.sl t s es)) :=
 uC.same fun a w D β hop _=>by
  have hp:=hop x (by simp [ho,Op.operands])
  rw[hx] at hp
  have h3:=hop y (by simp [ho,Op.operands])
  rw[hy] at h3
  have h3:=uO h3
  have h4:=hop z (by simp [ho,Op.operands])
  rw[hz] at h4
  have h4:=uO h4
  obtain ⟨i,e1,e2,e3⟩:=gQ hT
  subst h2
  generalize hvv:a.eval x=v at hp
  cases v with
  |slice q n cap=>
   cases hp with
   |sl g off u hn hc hm hs ha hD hu h1' hr=>
   have b1:∀ (c:BoundsCode) (m:Nat),es.length<=m->(Instr.sliceBound (.int kh ((es.length:Nat):Int)) m c).run P w=.ok es.length w:=fun _ _ hm=>gF hm w
   have hb:(Instr.sliceBounds true n cap none (some (.int kh ((es.length:Nat):Int))) (some (.int kh ((es.length:Nat):Int)))).run P w=.ok (0,es.length,es.length) w:=by
    simp [Instr.sliceBounds,b1 _ cap (by omega),b1 _ es.length (Nat.le_refl _)]
   refine ⟨.slice (if es.length=0 then q else q.map (·.add 0)) es.length es.length,by simp [execOp,ho,hvv,h3,h4,Instr.sliceAt,run_underlying e1,Instr.slice,hb,vX e2,e3],.sl g off u rfl (Nat.le_refl _) (by omega) hs (fun hn0=>?_) hD hu h1' hr⟩
   rw[if_neg (by omega),ha (by omega),Option.map_some,Addr.add_lit,Nat.add_zero]
  |_=>cases hp
theorem oS3{T E t:TypeId}{x y z:Operand}{s:Nat}{es:List jT}(h:Nat)(hT:uB P T=some (E,s))(ho:o.op=.slice T x none (some y) (some z):=by exact rfl)(hx:ev S x=.d (.sl t s es):=by exact rfl)(hy:ev S y=.d (.val (.int .i64 ((h:Nat):Int))):=by exact rfl)(hz:ev S z=.d (.val (.int .i64 ((h:Nat):Int))):=by exact rfl)(h2:h=es.length:=by first | rfl | (simp only[List.length_map]) | (simp only[List.length_map];omega)):uC P o S [] (.d (.sl t s es)):=e_s3 ho hT hx hy hz h2
end
end Go.Fid
