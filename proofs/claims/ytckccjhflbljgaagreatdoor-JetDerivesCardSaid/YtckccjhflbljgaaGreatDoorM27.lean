/- Part 27 of a proof: rules, plain facts, and functions walked. -/
import Derived.Test.YtckccjhflbljgaaGreatDoorM26
import Derived.Test.YtckccjhflbljgaaGreatDoorM7
set_option linter.all false
set_option maxRecDepth 4000
namespace Go.Proofs.YtckccjhflbljgaaGreatDoor
open List Tryz
open Go.Fid
def Len_i64(z:Int):Prop:=-9223372036854775808<=z/\z<=9223372036854775807
theorem sc_i64{ds:List jY}(h:Sh (.int .i64) ds):∃ z:Int,ds=[.val (.int .i64 z)]/\Len_i64 z:=by
 obtain ⟨z,rfl,hw⟩:=h
 simp only[Lit.wf,Bool.and_eq_true,decide_eq_true_eq] at hw
 exact ⟨z,rfl,(show (-9223372036854775808:Int)<=z from hw.1),(show z<=(9223372036854775807:Int) from hw.2)⟩
def Len_bool(_:Bool):Prop:=True
theorem sc_bool{ds:List jY}(h:Sh .bool ds):∃ b:Bool,ds=[.val (.bool b)]/\Len_bool b:=by
 obtain ⟨b,rfl⟩:=h
 exact ⟨b,rfl,trivial⟩
def Len_u32(n:Nat):Prop:=n<=4294967295
theorem sc_u32{ds:List jY}(h:Sh (.int .u32) ds):∃ n:Nat,ds=[.val (.int .u32 ((n:Nat):Int))]/\Len_u32 n:=by
 obtain ⟨z,rfl,hw⟩:=h
 simp only[Lit.wf,Bool.and_eq_true,decide_eq_true_eq] at hw
 have h0:0<=z:=hw.1
 exact ⟨z.toNat,by rw[Int.toNat_of_nonneg h0],by have h1:z<=(4294967295:Int):=hw.2;unfold Len_u32;omega⟩
def ty28:Ty:=.sl 107 1 (.int .u32)
def Len28(l:List (Nat)):Prop:=(∀ a∈l,Len_u32 a)/\l.length<=140737488355328
theorem sc28{ds:List jY}(h:Sh ty28 ds):∃ l:List (Nat),ds=[.sl 107 1 (l.map jC)]/\Len28 l:=by
 obtain ⟨l,e,h1,h2⟩:=sh_slice (F:=jC) (L:=Len_u32) (λx hx=>by obtain ⟨a,e,l⟩:=sc_u32 hx;exact ⟨a,by rw[e];rfl,l⟩) h
 have hl:=Sh.len h
 obtain ⟨d,rfl⟩:=length_eq_one_iff.1 hl
 exact ⟨l,by rw[show d=_ from e],h1,h2⟩
def ty29:Ty:=.st (.cons 4 .bool (.cons 28 ty28 .nil))
def Len29(x:kW):Prop:=Len_bool x.neg/\Len28 x.gs
theorem sc29{ds:List jY}(h:Sh ty29 ds):∃ x:kW,ds=[.val (.bool x.neg),.sl 107 1 (x.gs.map jC)]/\Len29 x:=by
 obtain ⟨p0,q0,rfl,h0,p1,q1,rfl,h1,hq⟩:=h
 have hq:q1=[]:=hq
 subst hq
 obtain ⟨x0,e0,l0⟩:=sc_bool h0
 obtain ⟨x1,e1,l1⟩:=sc28 h1
 exact ⟨⟨x0,x1⟩,by rw[e0,e1];rfl,l0,l1⟩
def ty31:Ty:=.st (.cons 30 ty29 (.cons 30 ty29 .nil))
def Len31(x:kY):Prop:=Len29 x.num/\Len29 x.den
theorem sc31{ds:List jY}(h:Sh ty31 ds):∃ x:kY,ds=[.val (.bool x.num.neg),.sl 107 1 (x.num.gs.map jC),.val (.bool x.den.neg),.sl 107 1 (x.den.gs.map jC)]/\Len31 x:=by
 obtain ⟨p0,q0,rfl,h0,p1,q1,rfl,h1,hq⟩:=h
 have hq:q1=[]:=hq
 subst hq
 obtain ⟨x0,e0,l0⟩:=sc29 h0
 obtain ⟨x1,e1,l1⟩:=sc29 h1
 exact ⟨⟨x0,x1⟩,by rw[e0,e1];rfl,l0,l1⟩
def ty71:Ty:=.st (.cons 55 (.int .i64) (.cons 3 (.int .i64) (.cons 3 (.int .i64) (.cons 32 ty31 .nil))))
def Len71(x:jS):Prop:=Len_i64 x.op/\Len_i64 x.a/\Len_i64 x.b/\Len31 x.n
theorem sc71{ds:List jY}(h:Sh ty71 ds):∃ x:jS,ds=[.val (.int .i64 x.op),.val (.int .i64 x.a),.val (.int .i64 x.b),.val (.bool x.n.num.neg),.sl 107 1 (x.n.num.gs.map jC),.val (.bool x.n.den.neg),.sl 107 1 (x.n.den.gs.map jC)]/\Len71 x:=by
 obtain ⟨p0,q0,rfl,h0,p1,q1,rfl,h1,p2,q2,rfl,h2,p3,q3,rfl,h3,hq⟩:=h
 have hq:q3=[]:=hq
 subst hq
 obtain ⟨x0,e0,l0⟩:=sc_i64 h0
 obtain ⟨x1,e1,l1⟩:=sc_i64 h1
 obtain ⟨x2,e2,l2⟩:=sc_i64 h2
 obtain ⟨x3,e3,l3⟩:=sc31 h3
 exact ⟨⟨x0,x1,x2,x3⟩,by rw[e0,e1,e2,e3];rfl,l0,l1,l2,l3⟩
def ty22:Ty:=.sl 72 7 ty71
def Len22(l:List (jS)):Prop:=(∀ a∈l,Len71 a)/\l.length<=140737488355328
theorem sc22{ds:List jY}(h:Sh ty22 ds):∃ l:List (jS),ds=[.sl 72 7 (l.map jN)]/\Len22 l:=by
 obtain ⟨l,e,h1,h2⟩:=sh_slice (F:=jN) (L:=Len71) (λx hx=>by obtain ⟨a,e,l⟩:=sc71 hx;exact ⟨a,by rw[e];rfl,l⟩) h
 have hl:=Sh.len h
 obtain ⟨d,rfl⟩:=length_eq_one_iff.1 hl
 exact ⟨l,by rw[show d=_ from e],h1,h2⟩
theorem sh22_{ds:List jY}(h:Sh ty22 ds):∃ x:List (jS),mkD ty22 ds=.sl 72 7 (x.map jN)/\Len22 x:=by
 obtain ⟨x,e,l⟩:=sc22 h
 exact ⟨x,by rw[e];rfl,l⟩
def ty24:Ty:=.sl 32 4 ty31
def Len24(l:List (kY)):Prop:=(∀ a∈l,Len31 a)/\l.length<=140737488355328
theorem sc24{ds:List jY}(h:Sh ty24 ds):∃ l:List (kY),ds=[.sl 32 4 (l.map jJ)]/\Len24 l:=by
 obtain ⟨l,e,h1,h2⟩:=sh_slice (F:=jJ) (L:=Len31) (λx hx=>by obtain ⟨a,e,l⟩:=sc31 hx;exact ⟨a,by rw[e];rfl,l⟩) h
 have hl:=Sh.len h
 obtain ⟨d,rfl⟩:=length_eq_one_iff.1 hl
 exact ⟨l,by rw[show d=_ from e],h1,h2⟩
theorem sh24_{ds:List jY}(h:Sh ty24 ds):∃ x:List (kY),mkD ty24 ds=.sl 32 4 (x.map jJ)/\Len24 x:=by
 obtain ⟨x,e,l⟩:=sc24 h
 exact ⟨x,by rw[e];rfl,l⟩
def Len_u8(n:Nat):Prop:=n<=255
theorem sc_u8{ds:List jY}(h:Sh (.int .u8) ds):∃ n:Nat,ds=[.val (.int .u8 ((n:Nat):Int))]/\Len_u8 n:=by
 obtain ⟨z,rfl,hw⟩:=h
 simp only[Lit.wf,Bool.and_eq_true,decide_eq_true_eq] at hw
 have h0:0<=z:=hw.1
 exact ⟨z.toNat,by rw[Int.toNat_of_nonneg h0],by have h1:z<=(255:Int):=hw.2;unfold Len_u8;omega⟩
def ty39:Ty:=.ar 2 5 (.cons 5 (.int .u8) (.cons 5 (.int .u8) .nil))
def Len39(x:A2 (Nat)):Prop:=Len_u8 x.a0/\Len_u8 x.a1
theorem sc39{ds:List jY}(h:Sh ty39 ds):∃ x:A2 (Nat),ds=[.val (.int .u8 ((x.a0:Nat):Int)),.val (.int .u8 ((x.a1:Nat):Int))]/\Len39 x:=by
 obtain ⟨p0,q0,rfl,h0,p1,q1,rfl,h1,hq⟩:=h
 have hq:q1=[]:=hq
 subst hq
 obtain ⟨x0,e0,l0⟩:=sc_u8 h0
 obtain ⟨x1,e1,l1⟩:=sc_u8 h1
 exact ⟨⟨x0,x1⟩,by rw[e0,e1];rfl,l0,l1⟩
theorem sh39_{ds:List jY}(h:Sh ty39 ds):∃ x:A2 (Nat),mkD ty39 ds=encA39 x/\Len39 x:=by
 obtain ⟨x,e,l⟩:=sc39 h
 exact ⟨x,by rw[e];rfl,l⟩
end Go.Proofs.YtckccjhflbljgaaGreatDoor
