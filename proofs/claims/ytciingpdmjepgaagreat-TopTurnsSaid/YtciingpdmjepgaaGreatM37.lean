/- Part 37 of a proof: rules, plain facts, and functions walked. -/
import Derived.Test.YtciingpdmjepgaaGreatM36
import Derived.Test.YtciingpdmjepgaaGreatM12
set_option linter.all false
set_option maxRecDepth 4000
namespace Go.Proofs.YtciingpdmjepgaaGreat
open Go.Fid
def xC(z:Int):Prop:=-9223372036854775808<=z/\z<=9223372036854775807
theorem gJ{ds:List jW}(h:Sh (.int .i64) ds):∃ z:Int,ds=[.val (.int .i64 z)]/\xC z:=by
 obtain ⟨z,rfl,hw⟩:=h
 simp only[Lit.wf,Bool.and_eq_true,decide_eq_true_eq] at hw
 exact ⟨z,rfl,(show (-9223372036854775808:Int)<=z from hw.1),(show z<=(9223372036854775807:Int) from hw.2)⟩
def ty29:Ty:=.st (.cons 3 (.int .i64) (.cons 3 (.int .i64) (.cons 3 (.int .i64) .nil)))
def Len29(x:jM):Prop:=xC x.x/\xC x.y/\xC x.z
theorem sc29{ds:List jW}(h:Sh ty29 ds):∃ x:jM,ds=[.val (.int .i64 x.x),.val (.int .i64 x.y),.val (.int .i64 x.z)]/\Len29 x:=by
 obtain ⟨p0,q0,rfl,h0,p1,q1,rfl,h1,p2,q2,rfl,h2,hq⟩:=h
 have hq:q2=[]:=hq
 subst hq
 obtain ⟨x0,e0,l0⟩:=gJ h0
 obtain ⟨x1,e1,l1⟩:=gJ h1
 obtain ⟨x2,e2,l2⟩:=gJ h2
 exact ⟨⟨x0,x1,x2⟩,by rw[e0,e1,e2];rfl,l0,l1,l2⟩
def ty27:Ty:=.st (.cons 3 (.int .i64) (.cons 3 (.int .i64) (.cons 3 (.int .i64) (.cons 3 (.int .i64) .nil))))
def Len27(x:jB):Prop:=xC x.a/\xC x.b/\xC x.c/\xC x.d
theorem sc27{ds:List jW}(h:Sh ty27 ds):∃ x:jB,ds=[.val (.int .i64 x.a),.val (.int .i64 x.b),.val (.int .i64 x.c),.val (.int .i64 x.d)]/\Len27 x:=by
 obtain ⟨p0,q0,rfl,h0,p1,q1,rfl,h1,p2,q2,rfl,h2,p3,q3,rfl,h3,hq⟩:=h
 have hq:q3=[]:=hq
 subst hq
 obtain ⟨x0,e0,l0⟩:=gJ h0
 obtain ⟨x1,e1,l1⟩:=gJ h1
 obtain ⟨x2,e2,l2⟩:=gJ h2
 obtain ⟨x3,e3,l3⟩:=gJ h3
 exact ⟨⟨x0,x1,x2,x3⟩,by rw[e0,e1,e2,e3];rfl,l0,l1,l2,l3⟩
def ty35:Ty:=.st (.cons 3 (.int .i64) (.cons 3 (.int .i64) .nil))
def Len35(x:qD):Prop:=xC x.x/\xC x.y
theorem sc35{ds:List jW}(h:Sh ty35 ds):∃ x:qD,ds=[.val (.int .i64 x.x),.val (.int .i64 x.y)]/\Len35 x:=by
 obtain ⟨p0,q0,rfl,h0,p1,q1,rfl,h1,hq⟩:=h
 have hq:q1=[]:=hq
 subst hq
 obtain ⟨x0,e0,l0⟩:=gJ h0
 obtain ⟨x1,e1,l1⟩:=gJ h1
 exact ⟨⟨x0,x1⟩,by rw[e0,e1];rfl,l0,l1⟩
def ty37:Ty:=.st (.cons 30 ty29 (.cons 28 ty27 (.cons 3 (.int .i64) (.cons 36 ty35 .nil))))
def Len37(x:kM):Prop:=Len29 x.at_/\Len27 x.turn/\xC x.focal/\Len35 x.centre
theorem sc37{ds:List jW}(h:Sh ty37 ds):∃ x:kM,ds=[.val (.int .i64 x.at_.x),.val (.int .i64 x.at_.y),.val (.int .i64 x.at_.z),.val (.int .i64 x.turn.a),.val (.int .i64 x.turn.b),.val (.int .i64 x.turn.c),.val (.int .i64 x.turn.d),.val (.int .i64 x.focal),.val (.int .i64 x.centre.x),.val (.int .i64 x.centre.y)]/\Len37 x:=by
 obtain ⟨p0,q0,rfl,h0,p1,q1,rfl,h1,p2,q2,rfl,h2,p3,q3,rfl,h3,hq⟩:=h
 have hq:q3=[]:=hq
 subst hq
 obtain ⟨x0,e0,l0⟩:=sc29 h0
 obtain ⟨x1,e1,l1⟩:=sc27 h1
 obtain ⟨x2,e2,l2⟩:=gJ h2
 obtain ⟨x3,e3,l3⟩:=sc35 h3
 exact ⟨⟨x0,x1,x2,x3⟩,by rw[e0,e1,e2,e3];rfl,l0,l1,l2,l3⟩
def ty22:Ty:=.sl 38 10 ty37
def Len22(l:List (kM)):Prop:=(∀ a∈l,Len37 a)/\l.length<=140737488355328
theorem sc22{ds:List jW}(h:Sh ty22 ds):∃ l:List (kM),ds=[.sl 38 10 (l.map uQ)]/\Len22 l:=by
 obtain ⟨l,e,h1,h2⟩:=sh_slice (F:=uQ) (L:=Len37) (fun x hx=>by obtain ⟨a,e,l⟩:=sc37 hx;exact ⟨a,by rw[e];rfl,l⟩) h
 have hl:=Sh.len h
 obtain ⟨d,rfl⟩:=List.length_eq_one_iff.1 hl
 exact ⟨l,by rw[show d=_ from e],h1,h2⟩
def ty23:Ty:=.sl 30 3 ty29
def Len23(l:List (jM)):Prop:=(∀ a∈l,Len29 a)/\l.length<=140737488355328
theorem sc23{ds:List jW}(h:Sh ty23 ds):∃ l:List (jM),ds=[.sl 30 3 (l.map kH)]/\Len23 l:=by
 obtain ⟨l,e,h1,h2⟩:=sh_slice (F:=kH) (L:=Len29) (fun x hx=>by obtain ⟨a,e,l⟩:=sc29 hx;exact ⟨a,by rw[e];rfl,l⟩) h
 have hl:=Sh.len h
 obtain ⟨d,rfl⟩:=List.length_eq_one_iff.1 hl
 exact ⟨l,by rw[show d=_ from e],h1,h2⟩
def ty66:Ty:=.ar 2 3 (.cons 3 (.int .i64) (.cons 3 (.int .i64) .nil))
def Len66(x:A2 (Int)):Prop:=xC x.a0/\xC x.a1
theorem sc66{ds:List jW}(h:Sh ty66 ds):∃ x:A2 (Int),ds=[.val (.int .i64 x.a0),.val (.int .i64 x.a1)]/\Len66 x:=by
 obtain ⟨p0,q0,rfl,h0,p1,q1,rfl,h1,hq⟩:=h
 have hq:q1=[]:=hq
 subst hq
 obtain ⟨x0,e0,l0⟩:=gJ h0
 obtain ⟨x1,e1,l1⟩:=gJ h1
 exact ⟨⟨x0,x1⟩,by rw[e0,e1];rfl,l0,l1⟩
def ty67:Ty:=.st (.cons 65 (.int .i64) (.cons 3 (.int .i64) (.cons 3 (.int .i64) (.cons 3 (.int .i64) (.cons 66 ty66 (.cons 3 (.int .i64) .nil))))))
def Len67(x:kL):Prop:=xC x.kind/\xC x.a/\xC x.b/\xC x.axis/\Len66 x.value/\xC x.weight
theorem sc67{ds:List jW}(h:Sh ty67 ds):∃ x:kL,ds=[.val (.int .i64 x.kind),.val (.int .i64 x.a),.val (.int .i64 x.b),.val (.int .i64 x.axis),.val (.int .i64 x.value.a0),.val (.int .i64 x.value.a1),.val (.int .i64 x.weight)]/\Len67 x:=by
 obtain ⟨p0,q0,rfl,h0,p1,q1,rfl,h1,p2,q2,rfl,h2,p3,q3,rfl,h3,p4,q4,rfl,h4,p5,q5,rfl,h5,hq⟩:=h
 have hq:q5=[]:=hq
 subst hq
 obtain ⟨x0,e0,l0⟩:=gJ h0
 obtain ⟨x1,e1,l1⟩:=gJ h1
 obtain ⟨x2,e2,l2⟩:=gJ h2
 obtain ⟨x3,e3,l3⟩:=gJ h3
 obtain ⟨x4,e4,l4⟩:=sc66 h4
 obtain ⟨x5,e5,l5⟩:=gJ h5
 exact ⟨⟨x0,x1,x2,x3,x4,x5⟩,by rw[e0,e1,e2,e3,e4,e5];rfl,l0,l1,l2,l3,l4,l5⟩
def ty24:Ty:=.sl 68 7 ty67
def Len24(l:List (kL)):Prop:=(∀ a∈l,Len67 a)/\l.length<=140737488355328
theorem sc24{ds:List jW}(h:Sh ty24 ds):∃ l:List (kL),ds=[.sl 68 7 (l.map qN)]/\Len24 l:=by
 obtain ⟨l,e,h1,h2⟩:=sh_slice (F:=qN) (L:=Len67) (fun x hx=>by obtain ⟨a,e,l⟩:=sc67 hx;exact ⟨a,by rw[e];rfl,l⟩) h
 have hl:=Sh.len h
 obtain ⟨d,rfl⟩:=List.length_eq_one_iff.1 hl
 exact ⟨l,by rw[show d=_ from e],h1,h2⟩
def ty25:Ty:=.st (.cons 3 (.int .i64) (.cons 22 ty22 (.cons 23 ty23 (.cons 24 ty24 .nil))))
def Len25(x:qW):Prop:=xC x.dim/\Len22 x.sts/\Len23 x.pts/\Len24 x.obs
theorem sc25{ds:List jW}(h:Sh ty25 ds):∃ x:qW,ds=[.val (.int .i64 x.dim),.sl 38 10 (x.sts.map uQ),.sl 30 3 (x.pts.map kH),.sl 68 7 (x.obs.map qN)]/\Len25 x:=by
 obtain ⟨p0,q0,rfl,h0,p1,q1,rfl,h1,p2,q2,rfl,h2,p3,q3,rfl,h3,hq⟩:=h
 have hq:q3=[]:=hq
 subst hq
 obtain ⟨x0,e0,l0⟩:=gJ h0
 obtain ⟨x1,e1,l1⟩:=sc22 h1
 obtain ⟨x2,e2,l2⟩:=sc23 h2
 obtain ⟨x3,e3,l3⟩:=sc24 h3
 exact ⟨⟨x0,x1,x2,x3⟩,by rw[e0,e1,e2,e3];rfl,l0,l1,l2,l3⟩
theorem sh25_{ds:List jW}(h:Sh ty25 ds):∃ x:qW,mkD ty25 ds=kJ x/\Len25 x:=by
 obtain ⟨x,e,l⟩:=sc25 h
 exact ⟨x,by rw[e];rfl,l⟩
theorem sh27_{ds:List jW}(h:Sh ty27 ds):∃ x:jB,mkD ty27 ds=jI x/\Len27 x:=by
 obtain ⟨x,e,l⟩:=sc27 h
 exact ⟨x,by rw[e];rfl,l⟩
theorem sh29_{ds:List jW}(h:Sh ty29 ds):∃ x:jM,mkD ty29 ds=kH x/\Len29 x:=by
 obtain ⟨x,e,l⟩:=sc29 h
 exact ⟨x,by rw[e];rfl,l⟩
end Go.Proofs.YtciingpdmjepgaaGreat
