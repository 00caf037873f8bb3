/- Part 13 of a proof: rules, plain facts, and functions walked. -/
import Derived.Test.YtciingpdmjepgabGreatDoorM12
import Derived.Test.YtciingpdmjepgabGreatDoorM8
set_option linter.all false
set_option maxRecDepth 4000
namespace Go.Fid
def yX:SV->jT
 |.d x=>x
 |_=>.tup []
def isD:SV->Bool
 |.d _=>true
 |_=>false
def kLo:IntKind->Int
 |.i64=>-9223372036854775808
 |.u64=>0
 |.u32=>0
 |.u8=>0
 |_=>1
def kHi:IntKind->Int
 |.i64=>9223372036854775807
 |.u64=>18446744073709551615
 |.u32=>4294967295
 |.u8=>255
 |_=>0
theorem wAny{k:IntKind}{m r:Int}(h:m=r)(h1:kLo k<=r)(h2:r<=kHi k):k.wrap m=r:=by
 cases k<;>simp only[kLo,kHi] at h1 h2<;>first | exact wi64 h h1 h2 | exact wu64 h h1 h2 | exact wu32 h h1 h2 | exact wu8 h h1 h2 | (exfalso;omega)
def kHiN:IntKind->Nat
 |.i64=>9223372036854775807
 |.u64=>18446744073709551615
 |.u32=>4294967295
 |.u8=>255
 |_=>0
theorem wNat{k:IntKind}{m:Int}{r:Nat}(h:m=((r:Nat):Int))(h2:r<=kHiN k)(h1:kLo k<=0):k.wrap m=((r:Nat):Int):=by
 refine wAny h (Int.le_trans h1 (Int.natCast_nonneg _)) ?_
 cases k<;>simp only[kHi,kHiN] at h2 ⊢<;>first | omega | (exfalso;revert h1;decide)
theorem qAny{k:IntKind}(a b:Nat)(h:a<=kHiN k)(h1:kLo k<=0):k.wrap (Int.tdiv (a:Int) (b:Int))=((a / b:Nat):Int) :=
 wNat rfl (Nat.le_trans (Nat.div_le_self a b) h) h1
theorem isD_eq{x:SV}(h:isD x=true):x=.d (yX x):=by cases x<;>first | rfl | cases h
section
variable {P:Program} {o:Oper} {S:Nat->SV} {T T':TypeId} {x y c:Operand} {k l:IntKind} {m n:Int}
theorem vD(r:Nat)(ho:o.op=.binOp .add T x y T':=by exact rfl)(hx:ev S x=.d (.val (.int k m)):=by exact rfl)(hy:ev S y=.d (.val (.int k n)):=by exact rfl)(hr:k.wrap (m+n)=((r:Nat):Int):=by exact wNat (by first | rfl | omega | (dsimp only;omega)) (by simp only[kHiN];omega) (by decide)):uC P o S [] (.d (.val (.int k ((r:Nat):Int)))):=e_add ho hx hy hr
theorem oSb(r:Nat)(ho:o.op=.binOp .sub T x y T':=by exact rfl)(hx:ev S x=.d (.val (.int k m)):=by exact rfl)(hy:ev S y=.d (.val (.int k n)):=by exact rfl)(hr:k.wrap (m-n)=((r:Nat):Int):=by exact wNat (by first | rfl | omega | (dsimp only;omega)) (by simp only[kHiN];omega) (by decide)):uC P o S [] (.d (.val (.int k ((r:Nat):Int)))):=e_sub ho hx hy hr
theorem oMl(r:Nat)(ho:o.op=.binOp .mul T x y T':=by exact rfl)(hx:ev S x=.d (.val (.int k m)):=by exact rfl)(hy:ev S y=.d (.val (.int k n)):=by exact rfl)(hr:k.wrap (m*n)=((r:Nat):Int):=by exact wNat (by first | rfl | omega | (dsimp only;omega)) (by simp only[kHiN];omega) (by decide)):uC P o S [] (.d (.val (.int k ((r:Nat):Int)))):=e_mul ho hx hy hr
theorem zAd(r:Int)(ho:o.op=.binOp .add T x y T':=by exact rfl)(hx:ev S x=.d (.val (.int k m)):=by exact rfl)(hy:ev S y=.d (.val (.int k n)):=by exact rfl)(hr:k.wrap (m+n)=r:=by exact wAny (by first | omega | (dsimp only;omega)) (by simp only[kLo];omega) (by simp only[kHi];omega)):uC P o S [] (.d (.val (.int k r))):=e_add ho hx hy hr
theorem zSb(r:Int)(ho:o.op=.binOp .sub T x y T':=by exact rfl)(hx:ev S x=.d (.val (.int k m)):=by exact rfl)(hy:ev S y=.d (.val (.int k n)):=by exact rfl)(hr:k.wrap (m-n)=r:=by exact wAny (by first | omega | (dsimp only;omega)) (by simp only[kLo];omega) (by simp only[kHi];omega)):uC P o S [] (.d (.val (.int k r))):=e_sub ho hx hy hr
theorem zMl(r:Int)(ho:o.op=.binOp .mul T x y T':=by exact rfl)(hx:ev S x=.d (.val (.int k m)):=by exact rfl)(hy:ev S y=.d (.val (.int k n)):=by exact rfl)(hr:k.wrap (m*n)=r:=by exact wAny (by first | omega | (dsimp only;omega)) (by simp only[kLo];omega) (by simp only[kHi];omega)):uC P o S [] (.d (.val (.int k r))):=e_mul ho hx hy hr
theorem oQu(r:Nat)(ho:o.op=.binOp .quo T x y T':=by exact rfl)(hx:ev S x=.d (.val (.int k m)):=by exact rfl)(hy:ev S y=.d (.val (.int k n)):=by exact rfl)(h0:n≠0:=by first | decide | omega)(hr:k.wrap (m.tdiv n)=((r:Nat):Int):=by exact qAny _ _ (by simp only[kHiN];omega) (by decide)):uC P o S [] (.d (.val (.int k ((r:Nat):Int)))):=e_quo ho hx hy h0 hr
theorem oRe(r:Nat)(ho:o.op=.binOp .rem T x y T':=by exact rfl)(hx:ev S x=.d (.val (.int k m)):=by exact rfl)(hy:ev S y=.d (.val (.int k n)):=by exact rfl)(h0:n≠0:=by first | decide | omega)(hr:m.tmod n=((r:Nat):Int):=by exact tmod_nat _ _):uC P o S [] (.d (.val (.int k ((r:Nat):Int)))):=e_rem ho hx hy h0 hr
theorem nT(ho:o.op=.binOp .eql T x y T':=by exact rfl)(hx:ev S x=.d (.val (.int k m)):=by exact rfl)(hy:ev S y=.d (.val (.int k n)):=by exact rfl):uC P o S [] (.d (.val (.bool (m == n)))):=e_eql ho hx hy
theorem oNe(ho:o.op=.binOp .neq T x y T':=by exact rfl)(hx:ev S x=.d (.val (.int k m)):=by exact rfl)(hy:ev S y=.d (.val (.int k n)):=by exact rfl):uC P o S [] (.d (.val (.bool (m != n)))):=e_neq ho hx hy
theorem xO(ho:o.op=.binOp .lss T x y T':=by exact rfl)(hx:ev S x=.d (.val (.int k m)):=by exact rfl)(hy:ev S y=.d (.val (.int k n)):=by exact rfl):uC P o S [] (.d (.val (.bool (decide (m<n))))):=e_lss ho hx hy
theorem oLe(ho:o.op=.binOp .leq T x y T':=by exact rfl)(hx:ev S x=.d (.val (.int k m)):=by exact rfl)(hy:ev S y=.d (.val (.int k n)):=by exact rfl):uC P o S [] (.d (.val (.bool (decide (m<=n))))):=e_leq ho hx hy
theorem mB(ho:o.op=.binOp .gtr T x y T':=by exact rfl)(hx:ev S x=.d (.val (.int k m)):=by exact rfl)(hy:ev S y=.d (.val (.int k n)):=by exact rfl):uC P o S [] (.d (.val (.bool (decide (n<m))))):=e_gtr ho hx hy
theorem oGe(ho:o.op=.binOp .geq T x y T':=by exact rfl)(hx:ev S x=.d (.val (.int k m)):=by exact rfl)(hy:ev S y=.d (.val (.int k n)):=by exact rfl):uC P o S [] (.d (.val (.bool (decide (n<=m))))):=e_geq ho hx hy
theorem oEb(hT:boolB P T=true){p q:Bool}(ho:o.op=.binOp .eql T x y T':=by exact rfl)(hx:ev S x=.d (.val (.bool p)):=by exact rfl)(hy:ev S y=.d (.val (.bool q)):=by exact rfl):uC P o S [] (.d (.val (.bool (p == q)))):=e_eqlb ho hT hx hy
theorem oNb(hT:boolB P T=true){p q:Bool}(ho:o.op=.binOp .neq T x y T':=by exact rfl)(hx:ev S x=.d (.val (.bool p)):=by exact rfl)(hy:ev S y=.d (.val (.bool q)):=by exact rfl):uC P o S [] (.d (.val (.bool (!(p == q))))):=e_neqb ho hT hx hy
theorem eL{b:Bool}(ho:o.op=.unOp .not T x:=by exact rfl)(hx:ev S x=.d (.val (.bool b)):=by exact rfl):uC P o S [] (.d (.val (.bool !b))):=e_not ho hx
theorem oNg(r:Int)(ho:o.op=.unOp .neg T x:=by exact rfl)(hx:ev S x=.d (.val (.int k n)):=by exact rfl)(hr:k.wrap (0-n)=r:=by exact wAny (by first | omega | (dsimp only;omega)) (by simp only[kLo];omega) (by simp only[kHi];omega)):uC P o S [] (.d (.val (.int k r))):=e_neg ho hx hr
theorem hC{src dst:TypeId}(hs:(P.underlying src).isSome=true)(hd:intB P dst=some l)(r:Nat)(ho:o.op=.convert src dst x:=by exact rfl)(hx:ev S x=.d (.val (.int k n)):=by exact rfl)(hr:l.wrap n=((r:Nat):Int):=by exact wNat (by first | rfl | omega | (dsimp only;omega)) (by simp only[kHiN];omega) (by decide)):uC P o S [] (.d (.val (.int l ((r:Nat):Int)))):=e_conv ho hs hd hx hr
theorem oMx(r:Nat)(ho:o.op=.call { callee:=.builtin .max,args:=#[x,y],argTypes:=#[T,T'] }:=by exact rfl)(hx:ev S x=.d (.val (.int k m)):=by exact rfl)(hy:ev S y=.d (.val (.int k n)):=by exact rfl)(hr:(if m<n then n else m)=((r:Nat):Int):=by omega):uC P o S [] (.d (.val (.int k ((r:Nat):Int)))):=e_maxn ho hx hy hr
theorem xC(c:Bool){b:Bool}(h:uC P o S [] (.d (.val (.bool b))))(e:b=c:=by decide):uC P o S [] (.d (.val (.bool c))):=e▸h
theorem oV{z:SV}(w:SV)(h:uC P o S [] z)(e:z=w:=by kernel_rfl):uC P o S [] w:=e▸h
theorem yT(ho:o.op=.pick c x y:=by exact rfl)(hc:ev S c=.d (.val (.bool true)):=by kernel_rfl):uC P o S [] (ev S x):=e_pkt ho hc rfl
theorem gK(ho:o.op=.pick c x y:=by exact rfl)(hc:ev S c=.d (.val (.bool false)):=by kernel_rfl):uC P o S [] (ev S y):=e_pkf ho hc rfl
theorem oPa{q:Bool}(ho:o.op=.pick c x y:=by exact rfl)(hc:ev S c=.d (.val (.bool true)):=by kernel_rfl)(hx:ev S x=.d (.val (.bool q)):=by exact rfl):uC P o S [] (.d (.val (.bool (true&&q)))):=e_pkta ho hc hx
theorem aG{q:Bool}(ho:o.op=.pick c x y:=by exact rfl)(hc:ev S c=.d (.val (.bool false)):=by kernel_rfl)(hy:ev S y=.d (.val (.bool q)):=by exact rfl):uC P o S [] (.d (.val (.bool (false||q)))):=e_pkfo ho hc hy
def nilK(o:Oper):Bool:=match o.op with
 |.move (.const (.slice none 0 0))=>true
 |.assign (.const (.slice none 0 0))=>true
 |_=>false
theorem nilK_eq(h:nilK o=true):o.op=.move (.const (.slice none 0 0))\/o.op=.assign (.const (.slice none 0 0)):=by
 unfold nilK at h
 split at h
 ·exact .inl (by assumption)
 ·exact .inr (by assumption)
 ·cases h
theorem oNl(t s:Nat)(h:nilK o=true:=by kernel_rfl):uC P o S [] (.d (.sl t s [])):=e_nil t s (nilK_eq h)
theorem oNc{k q:Nat}(ho:o.op=.nilCheck x:=by exact rfl)(hx:ev S x=.ref k q:=by exact rfl):uC P o S [] (.ref k q):=e_nckr ho hx
theorem kW{f off b p:Nat}(hf:uL P T f=some off)(ho:o.op=.fieldAddr T x f:=by exact rfl)(hx:ev S x=.ref b p:=by exact rfl):uC P o S [] (.ref b (p+off)):=e_fieldAddr_ref ho hx hf
theorem aK{t:TypeId}{f off p:Nat}{cs:List jT}(hf:uL P T f=some off)(ho:o.op=.fieldAddr T x f:=by exact rfl)(hx:ev S x=.d (.cptr t cs p):=by exact rfl):uC P o S [] (.d (.cptr t cs (p+off))):=e_fieldAddr_cptr ho hx hf
theorem aJ{E t:TypeId}{N b:Nat}(hT:uB P T=some (E,1))(j:Nat)(ho:o.op=.indexAddr T x y:=by exact rfl)(hx:ev S x=.own b t 1 N:=by exact rfl)(hi:ev S y=.d (.val (.int k n)):=by exact rfl)(hj:n=((j:Nat):Int):=by omega)(h1:j<N:=by omega):uC P o S [] (.ref b j):=e_ixo ho hT hx hi hj h1 (Nat.mul_one j)
theorem oXO{E t:TypeId}{N b s:Nat}(hT:uB P T=some (E,s))(j:Nat)(ho:o.op=.indexAddr T x y:=by exact rfl)(hx:ev S x=.own b t s N:=by exact rfl)(hi:ev S y=.d (.val (.int k n)):=by exact rfl)(hj:n=((j:Nat):Int):=by omega)(h1:j<N:=by omega):uC P o S [] (.ref b (j*s)):=e_ixo ho hT hx hi hj h1 rfl
theorem fD{E t:TypeId}{s:Nat}{es:List jT}(hT:uB P T=some (E,s))(j:Nat)(ho:o.op=.indexAddr T x y:=by exact rfl)(hx:ev S x=.d (.sl t s es):=by exact rfl)(hi:ev S y=.d (.val (.int k ((j:Nat):Int))):=by exact rfl)(h1:Nat.blt j es.length=true:=by kernel_rfl):uC P o S [] (.d (.cptr t (es.getD j (.tup [])).cells 0)) :=
 e_ixs ho hT hx hi rfl (by
  have h1:=Nat.le_of_ble_eq_true h1
  simp [List.getElem?_eq_getElem h1,List.getD])
theorem dS{α:Type}{E t:TypeId}{s:Nat}{F:α->jT}{L:List α}(hT:uB P T=some (E,s))(j:Nat)(d:α)(ho:o.op=.indexAddr T x y:=by exact rfl)(hx:ev S x=.d (.sl t s (L.map F)):=by exact rfl)(hi:ev S y=.d (.val (.int k n)):=by exact rfl)(hj:n=((j:Nat):Int):=by omega)(h1:j<L.length:=by omega):uC P o S [] (.d (.cptr t (F (L.getD j d)).cells 0)) :=
 e_ixs ho hT hx hi hj (ixm F L j d h1)
theorem oXm{α γ:Type}{E t:TypeId}{s:Nat}{F:α->jT}{L:List γ}(hT:uB P T=some (E,s))(G:γ->α)(j:Nat)(d:γ)(ho:o.op=.indexAddr T x y:=by exact rfl)(hx:ev S x=.d (.sl t s ((L.map G).map F)):=by exact rfl)(hi:ev S y=.d (.val (.int k n)):=by exact rfl)(hj:n=((j:Nat):Int):=by omega)(h1:j<L.length:=by omega):uC P o S [] (.d (.cptr t (F (G (L.getD j d))).cells 0)) :=
 e_ixs ho hT hx hi hj (by simp [List.getD,List.getElem?_eq_getElem h1])
theorem gJ{t:TypeId}{off:Nat}{cs:List jT}(hs:qD P T=some (false,1))(ho:o.op=.load T x:=by exact rfl)(hx:ev S x=.d (.cptr t cs off):=by exact rfl)(hl:Nat.blt off cs.length=true:=by kernel_rfl):uC P o S [] (.d (cs.getD off (.tup []))) :=
 e_lc1 ho hx hs (by
  have hl:=Nat.le_of_ble_eq_true hl
  simp [List.getElem?_eq_getElem hl,List.getD])
theorem nX{t:TypeId}{off sz:Nat}{cs:List jT}(hs:qD P T=some (true,sz))(ho:o.op=.load T x:=by exact rfl)(hx:ev S x=.d (.cptr t cs off):=by exact rfl)(hl:Nat.ble (off+sz) cs.length=true:=by kernel_rfl):uC P o S [] (yD true (((cs.drop off).take sz).map .d)):=e_lca ho hx hs hl rfl
theorem xX{i:Nat}{ds:List jT}(ho:o.op=.extract x i:=by exact rfl)(hx:ev S x=.d (.tup ds):=by exact rfl)(hi:Nat.blt i ds.length=true:=by kernel_rfl):uC P o S [] (.d (ds.getD i (.tup []))) :=
 e_exD ho hx (by
  have hi:=Nat.le_of_ble_eq_true hi
  simp [List.getElem?_eq_getElem hi,List.getD])
theorem oFv{t:TypeId}{f off sz:Nat}{cs:List jT}(hf:aP P T f=some (off,t))(hs:qD P t=some (true,sz))(ho:o.op=.field T x f:=by exact rfl)(hx:ev S x=.d (.agg cs):=by exact rfl)(hle:Nat.ble (off+sz) cs.length=true:=by kernel_rfl):uC P o S [] (yD true (((cs.drop off).take sz).map .d)):=e_fldv ho hx hf hs hle rfl
theorem oF1{t:TypeId}{f off:Nat}{cs:List jT}(hf:aP P T f=some (off,t))(hs:qD P t=some (false,1))(ho:o.op=.field T x f:=by exact rfl)(hx:ev S x=.d (.agg cs):=by exact rfl)(hle:Nat.ble (off+1) cs.length=true:=by kernel_rfl):uC P o S [] (yD false (((cs.drop off).take 1).map .d)):=e_fld1 ho hx hf hs hle rfl
theorem zV{α:Type}{E t:TypeId}{s:Nat}{F:α->jT}{L:List α}(hT:uB P T=some (E,s))(ho:o.op=.call { callee:=.builtin .len,args:=#[x],argTypes:=#[T] }:=by exact rfl)(hx:ev S x=.d (.sl t s (L.map F)):=by exact rfl):uC P o S [] (.d (.val (.int .i64 ((L.length:Nat):Int)))):=e_ln ho hT hx (by simp)
theorem oLn{E t:TypeId}{s:Nat}{es:List jT}(hT:uB P T=some (E,s))(r:Nat)(ho:o.op=.call { callee:=.builtin .len,args:=#[x],argTypes:=#[T] }:=by exact rfl)(hx:ev S x=.d (.sl t s es):=by exact rfl)(hr:(es.length:Int)=((r:Nat):Int):=by simp):uC P o S [] (.d (.val (.int .i64 ((r:Nat):Int)))):=e_ln ho hT hx hr
theorem oLo{E t:TypeId}{s b N:Nat}(hT:uB P T=some (E,s))(ho:o.op=.call { callee:=.builtin .len,args:=#[x],argTypes:=#[T] }:=by exact rfl)(hx:ev S x=.own b t s N:=by exact rfl):uC P o S [] (.d (.val (.int .i64 ((N:Nat):Int)))):=e_len_own ho hT hx
theorem oBd{ps:List (Nat × Operand)}{pl:List (Nat × Nat)}{zv:List Value}{zd:List jT}(hT:mP P T=some pl)(hz:vP P T=some zv)(hzd:dV zv zd)(ho:o.op=.build T ps.toArray:=by exact rfl)
  (hps:(ps.all fun p=>isD (ev S p.2)&&(yX (ev S p.2)).ok1)=true:=by kernel_rfl) (hr:(fU (fun i=>pl[i]?) zd (ps.map fun p=>(p.1,(yX (ev S p.2)).cells))).isSome=true:=by kernel_rfl) :
  uC P o S [] (.d (.agg ((fU (fun i=>pl[i]?) zd (ps.map fun p=>(p.1,(yX (ev S p.2)).cells))).getD []))):=by
 rw[List.all_eq_true] at hps
 obtain ⟨r,hr⟩:=Option.isSome_iff_exists.1 hr
 have h:=e_build (P:=P) (o:=o) (S:=S) (pd:=ps.map fun p=>(p.1,yX (ev S p.2))) ho hT hz hzd (by
  rw[List.map_map]
  refine List.map_congr_left fun p hp=>?_
  have:=hps p hp
  rw[Bool.and_eq_true] at this
  show (p.1,ev S p.2)=(p.1,SV.d (yX (ev S p.2)))
  rw[<- isD_eq this.1]) (by
  rw[List.all_eq_true]
  intro q hq
  obtain ⟨p,hp,rfl⟩:=List.mem_map.1 hq
  have:=hps p hp
  rw[Bool.and_eq_true] at this
  exact this.2) (by rw[List.map_map];exact hr)
 rw[hr];exact h
theorem bs_fill{s len:Nat}{ps:List (Nat × Operand)}{zd:List jT}(hzl:Nat.beq zd.length s=true)(hps:ps.map (fun p=>(p.1,ev S p.2))=(ps.map fun p=>yX (ev S p.2)).zipIdx.map (fun p=>(p.2,.d p.1)))
  (hok:(ps.all fun p=>(yX (ev S p.2)).ok1&&Nat.beq (yX (ev S p.2)).cells.length s)=true) (hl:Nat.beq ps.length len=true) :
  (∀ e∈ps.map (fun p=>yX (ev S p.2)),e.cells.length=s)/\fU (fun i=>some (i*s,s)) (List.replicate len zd).flatten (((ps.map fun p=>yX (ev S p.2)).zipIdx.map fun p=>(p.2,p.1)).map fun p=>(p.1,p.2.cells))=some (kR (ps.map fun p=>yX (ev S p.2))):=by
 have hzl:=Nat.eq_of_beq_eq_true hzl
 have hl:=Nat.eq_of_beq_eq_true hl
 have hs:∀ e∈ps.map (fun p=>yX (ev S p.2)),e.cells.length=s:=fun d hd=>by
  obtain ⟨p,hp,rfl⟩:=List.mem_map.1 hd
  have:=List.all_eq_true.1 hok p hp
  rw[Bool.and_eq_true] at this
  exact Nat.eq_of_beq_eq_true this.2
 refine ⟨hs,?_⟩
 have h:=fillL_all (ps.map fun p=>yX (ev S p.2)) 0 [] (List.replicate len zd).flatten (by simp) (by
  rw[List.length_map,hl,List.length_flatten,List.map_replicate,hzl];simp) hs
 rw[List.nil_append,List.nil_append] at h
 rw[List.map_map]
 exact h
theorem dM{E:TypeId}{s len:Nat}{ps:List (Nat × Operand)}{zv:List Value}{zd:List jT}(hT:uB P T=some (E,s))(hz:vP P E=some zv)(hzd:dV zv zd)(ho:o.op=.buildSlice T len ps.toArray:=by exact rfl)
  (hzl:Nat.beq zd.length s=true:=by kernel_rfl) (hps:ps.map (fun p=>(p.1,ev S p.2))=(ps.map fun p=>yX (ev S p.2)).zipIdx.map (fun p=>(p.2,.d p.1)):=by kernel_rfl) (hok:(ps.all fun p=>(yX (ev S p.2)).ok1&&Nat.beq (yX (ev S p.2)).cells.length s)=true:=by kernel_rfl) (hl:Nat.beq ps.length len=true:=by kernel_rfl)
  (hbig:Nat.ble (len*s) 16777216=true:=by kernel_rfl) (hbig':Nat.ble len 16777216=true:=by kernel_rfl):uC P o S [] (.d (.sl E s (ps.map fun p=>yX (ev S p.2)))):=by
 obtain ⟨h1,h2⟩:=bs_fill hzl hps hok hl
 refine e_buildSlice (pd:=(ps.map fun p=>yX (ev S p.2)).zipIdx.map fun p=>(p.2,p.1)) ho hT hz hzd (Nat.eq_of_beq_eq_true hzl) (by rw[hps,List.map_map];rfl) ?_ (Nat.le_of_ble_eq_true hbig) (Nat.le_of_ble_eq_true hbig') (by rw[List.length_map];exact Nat.eq_of_beq_eq_true hl) h1 h2
 rw[List.all_eq_true]
 intro q hq
 obtain ⟨p,hp,rfl⟩:=List.mem_map.1 hq
 obtain ⟨p',hp',he⟩:=List.mem_map.1 (List.fst_mem_of_mem_zipIdx hp)
 have:=List.all_eq_true.1 hok p' hp'
 rw[Bool.and_eq_true] at this
 rw[<- he]
 exact this.1
theorem oBe{E:TypeId}{s:Nat}(hT:uB P T=some (E,s))(ho:o.op=.buildSlice T 0 #[]:=by exact rfl):uC P o S [] .emp:=e_bse ho hT
theorem oBo{E:TypeId}{s len:Nat}{ps:List (Nat × Operand)}{zv:List Value}{zd:List jT}(b:Nat)(hT:uB P T=some (E,s))(hz:vP P E=some zv)(hzd:dV zv zd)(ho:o.op=.buildSlice T len ps.toArray:=by exact rfl)
  (hzl:Nat.beq zd.length s=true:=by kernel_rfl) (hps:ps.map (fun p=>(p.1,ev S p.2))=(ps.map fun p=>yX (ev S p.2)).zipIdx.map (fun p=>(p.2,.d p.1)):=by kernel_rfl) (hok:(ps.all fun p=>(yX (ev S p.2)).ok1&&Nat.beq (yX (ev S p.2)).cells.length s)=true:=by kernel_rfl) (hl:Nat.beq ps.length len=true:=by kernel_rfl)
  (hbig:Nat.ble (len*s) 16777216=true:=by kernel_rfl) (hbig':Nat.ble len 16777216=true:=by kernel_rfl):NOk P o S b ((kR (ps.map fun p=>yX (ev S p.2))).map .d) (.own b E s len):=by
 obtain ⟨h1,h2⟩:=bs_fill hzl hps hok hl
 refine n_bso (pd:=(ps.map fun p=>yX (ev S p.2)).zipIdx.map fun p=>(p.2,p.1)) b ho hT hz hzd (Nat.eq_of_beq_eq_true hzl) (by rw[hps,List.map_map];rfl) ?_ hbig hbig' (by rw[List.length_map];exact Nat.eq_of_beq_eq_true hl) ?_ h2 rfl
 ·rw[List.all_eq_true]
  intro q hq
  obtain ⟨p,hp,rfl⟩:=List.mem_map.1 hq
  obtain ⟨p',hp',he⟩:=List.mem_map.1 (List.fst_mem_of_mem_zipIdx hp)
  have:=List.all_eq_true.1 hok p' hp'
  rw[Bool.and_eq_true] at this
  rw[<- he]
  exact this.1
 ·refine List.eq_replicate_iff.2 ⟨by rw[List.length_map,List.length_map];exact Nat.eq_of_beq_eq_true hl,fun z hz=>?_⟩
  obtain ⟨e,he,rfl⟩:=List.mem_map.1 hz
  exact h1 e he
theorem xA{d:jT}(b:Nat)(ho:o.op=.box T x:=by exact rfl)(hx:ev S x=.d d:=by exact rfl)(h1:d.ok1=true:=by kernel_rfl):NOk P o S b (bx d) (.ref b 0):=n_box b ho hx h1
theorem uT{zv:List Value}{zd:List jT}(b:Nat)(hz:vP P T=some zv)(hzd:dV zv zd)(ho:o.op=.alloc T:=by exact rfl):NOk P o S b (zd.map .d) (.ref b 0):=n_alloc b ho hz hzd
theorem oMk{α:Type}{E:TypeId}{s bytes:Nat}{kl kc:IntKind}{zv:List Value}{zd:List jT}{x y:Operand}(b:Nat)(F:α->jT)(z:α)(N M:Nat)(hT:uB P T=some (E,s))(hz:vP P E=some zv)(hzd:dV zv zd)(hby:vJ P E=some bytes)(ho:o.op=.makeSlice T x y:=by exact rfl)
  (hl:ev S x=.d (.val (.int kl m)):=by exact rfl) (hc:ev S y=.d (.val (.int kc n)):=by exact rfl) (hlN:m=((N:Nat):Int):=by omega) (hcM:n=((M:Nat):Int):=by omega) (hzl:Nat.beq zd.length s=true:=by kernel_rfl) (hnm:N<=M:=by omega) (hb:bytes*M<=281474976710656:=by omega) (hm:M<=maxLen:=by unfold maxLen;omega) (hzF:zd=[F z]:=by kernel_rfl) :
  NOk P o S b ((List.replicate M z).map (fun g=>SV.d (F g))) (.own b E s N):=by
 subst hlN;subst hcM;subst hzF
 exact n_mks b ho hT hz hzd (Nat.eq_of_beq_eq_true hzl) hby hl hc hnm hb hm (own_zero F M z)
end
section
variable {P:Program} {o:Oper} {S:SL} {B:BS} {T:TypeId} {x y:Operand} {k off:Nat}
theorem qR{cs:List SV}(hs:qD P T=some (false,1))(ho:o.op=.load T x:=by exact rfl)(hx:ev (kA S) x=.ref k off:=by exact rfl)(hb:jY B k=some cs:=by exact rfl)(hl:Nat.blt off cs.length=true:=by kernel_rfl)(hn:(cs.getD off .junk).isMo=false:=by kernel_rfl):ROk P o S B k (cs.getD off .junk) :=
 ⟨cs,e_ld1 ho hx hs (by
  have hl:=Nat.le_of_ble_eq_true hl
  simp [List.getElem?_eq_getElem hl,List.getD]) hn,hb⟩
theorem kT{sz:Nat}{cs:List SV}(hs:qD P T=some (true,sz))(ho:o.op=.load T x:=by exact rfl)(hx:ev (kA S) x=.ref k off:=by exact rfl)(hb:jY B k=some cs:=by exact rfl)(hl:Nat.ble (off+sz) cs.length=true:=by kernel_rfl)(hm:yQ cs=false:=by first | exact gR _ | kernel_rfl):ROk P o S B k (yD true ((cs.drop off).take sz)):=⟨cs,e_lda ho hx hs hl rfl hm,hb⟩
theorem oLp{α:Type}{F:α->jT}{L:List α}(hs:qD P T=some (false,1))(j:Nat)(d:α)(ho:o.op=.load T x:=by exact rfl)(hx:ev (kA S) x=.ref k j:=by exact rfl)(hb:jY B k=some (L.map fun g=>SV.d (F g)):=by exact rfl)(h1:j<L.length:=by omega):ROk P o S B k (.d (F (L.getD j d))):=⟨_,e_ld1 ho hx hs (own_get F L j d h1) rfl,hb⟩
theorem qK{sz:Nat}{agg:Bool}{old:List SV}{d:jT}(hs:qD P T=some (agg,sz))(ho:o.op=.store T x y:=by exact rfl)(hx:ev (kA S) x=.ref k off:=by exact rfl)(hy:ev (kA S) y=.d d:=by exact rfl)(hb:jY B k=some old:=by exact rfl)(h1:d.ok1=true:=by kernel_rfl)(qL:Nat.beq d.cells.length sz=true:=by kernel_rfl)(hle:Nat.ble (off+sz) old.length=true:=by kernel_rfl)(hm:yQ old=false:=by first | exact gR _ | kernel_rfl):TK P o S B k (patch old off (d.cells.map .d)) :=
 ⟨old,t_std ho hx hy hs h1 (Nat.eq_of_beq_eq_true qL) hle rfl hm,hb⟩
theorem oSo{j E s N:Nat}{u:SV}(hs:qD P T=some (false,1))(ho:o.op=.store T x y:=by exact rfl)(hx:ev (kA S) x=.ref k 0:=by exact rfl)(hy:ev (kA S) y=.own j E s N:=by exact rfl)(hb:jY B k=some [u]:=by exact rfl)(hm:u.isMo=false:=by kernel_rfl):TK P o S B k [.own j E s N]:=⟨_,t_sto ho hx hy hs hm,hb⟩
theorem oSp{α:Type}{F:α->jT}{L:List α}(hs:qD P T=some (false,1))(j:Nat)(v:α)(ho:o.op=.store T x y:=by exact rfl)(hx:ev (kA S) x=.ref k j:=by exact rfl)(hb:jY B k=some (L.map fun g=>SV.d (F g)):=by exact rfl)(hy:ev (kA S) y=.d (F v):=by kernel_rfl)(h2:(F v).ok1=true:=by kernel_rfl)(h3:(F v).cells=[F v]:=by kernel_rfl)(h1:j<L.length:=by omega):TK P o S B k ((L.set j v).map fun g=>SV.d (F g)) :=
 ⟨_,t_st1 ho hx hy hs h2 h3 (own_len F L j h1) (own_set F L j v) (mapCs_own F L),hb⟩
theorem kH{S:Nat->SV}{xs:List Operand}{ats:Array TypeId}{f:FuncId}{ds:List jT}{r:jT}(hf:jW P f ds r)(ho:o.op=.call { callee:=.value y,args:=xs.toArray,argTypes:=ats }:=by exact rfl)(hy:ev S y=.d (.val (.func (.func f) #[] #[])):=by kernel_rfl)(hx:xs.map (ev S)=ds.map .d:=by kernel_rfl):uC P o S [] (.d r):=e_cl hf ho hy hx
theorem oCo{xs:List Operand}{ats:Array TypeId}{f:FuncId}{ds:List jT}{α:Type}{F:α->jT}{L:List α}{Tt s N:Nat}{S:Nat->SV}(b:Nat)(hf:TakesO P f ds Tt s N (L.map F))(ho:o.op=.call { callee:=.value y,args:=xs.toArray,argTypes:=ats }:=by exact rfl)(hy:ev S y=.d (.val (.func (.func f) #[] #[])):=by kernel_rfl)(hx:xs.map (ev S)=ds.map .d:=by kernel_rfl):NOk P o S b (L.map (fun g=>SV.d (F g))) (.own b Tt s N):=n_own b hf ho hy hx (by rw[List.map_map];rfl)
end
inductive NilL:List jT->List jT->Prop
 |nil:NilL [] []
 |same {d:jT} {l l':List jT} (h:NilL l l'):NilL (d::l) (d::l')
 |cut (t s:Nat) {l l':List jT} (h:NilL l l'):NilL (.sl t s []::l) (.val (.slice none 0 0)::l')
theorem NilL.rep{ds ds':List jT}(h:NilL ds ds'){w:World}{D:kV}:ds.length=ds'.length/\∀ (i:Nat) (v:Value) (d:jT),ds[i]?=some d->(∀ d',ds'[i]?=some d'->uN w D v d')->uN w D v d:=by
 induction h with
 |nil=>exact ⟨rfl,fun i v d h=>by simp at h⟩
 |same h ih=>
  refine ⟨by simp [ih.1],fun i v d hd hr=>?_⟩
  cases i with
  |zero=>exact hr d (by simpa using hd)
  |succ i=>exact ih.2 i v d (by simpa using hd) (fun d' hd'=>hr d' (by simpa using hd'))
 |cut t s h ih=>
  refine ⟨by simp [ih.1],fun i v d hd hr=>?_⟩
  cases i with
  |zero=>
   have e:=hr (.val (.slice none 0 0)) (by simp)
   simp only[List.getElem?_cons_zero,Option.some.injEq] at hd
   subst hd
   exact nil_sl t s w D (fun _=>none) v e
  |succ i=>exact ih.2 i v d (by simpa using hd) (fun d' hd'=>hr d' (by simpa using hd'))
theorem yP{k j:Nat}{bs:BS}(h:Clr k bs):Clr k ((j,none)::bs):=fun i c hi hb=>by
 rw[jI] at hb
 split at hb
 ·cases hb
 ·exact h i c hi hb
section
variable {P:Program} {n:Fr} {ops:Array Oper} {K:SL->BS->Prop} {S:SL} {B:BS} {l:List Oper} {o:Oper} {α:Type} {T E t':TypeId} {x y:Operand} {k s m bytes:Nat} {zv:List Value}
theorem app_go(F:α->jT){L L':List α}{m2:Nat}(hF:∀ g,(F g).cells.length=s)(ho:o.op=.call { callee:=.builtin .append,args:=#[x,y],argTypes:=#[T,T] })(g:goK n ops S o=true)(hT:uB P T=some (E,s))(hz:vP P E=some zv)(hzl:zv.length=s)(hby:vJ P E=some bytes)
  (hx:ev (kA S) x=.own k E s m) (hb:jY B k=some (qP F L)) (hL:L.length=m) (hy:ev (kA S) y=.d (.sl t' s (L'.map F))) (hbig:m+L'.length<=maxLen) (hbig':(m+L'.length)*bytes<=140737488355328) (hB:Clr k B) (hm:m+L'.length=m2)
  (r:SK P n ops K ((dO o,.own k E s m2)::yL k S) ((k,some (qP F (L++L')))::B) l):SK P n ops K S B (o::l):=by
 obtain ⟨hd,hg,hdB⟩:=zI g
 refine zX (S1:=(dO o,.own k E s m2)::yL k S) (B1:=(k,some (qP F (L++L')))::B) (fun C a w Q hn hs=>?_) hg r
 subst hm
 have:=app_sound (st:=⟨S,B⟩) (N:=n) (es:=L.map F) (es':=L'.map F) ho (by rw[hd];exact hdB) hT hz hzl hby hx hb rfl (by rw[nR F hF,hL]) hy (by simpa using hbig) (by simpa using hbig') hB C a w Q hn hs
 rw[hd,<- List.map_append,List.length_map] at this
 exact this
theorem zA(F:α->jT)(L L':List α)(hL:L.length=m)(hT:uB P T=some (E,1))(hz:vP P E=some zv)(hby:vJ P E=some bytes)(r:SK P n ops K ((dO o,.own k E 1 (L++L').length)::yL k S) ((k,some ((L++L').map (fun g=>SV.d (F g))))::B) l)
  (ho:o.op=.call { callee:=.builtin .append,args:=#[x,y],argTypes:=#[T,T] }:=by exact rfl) (g:goK n ops S o=true:=by kernel_rfl) (hx:ev (kA S) x=.own k E 1 m:=by exact rfl) (hb:jY B k=some (L.map (fun g=>SV.d (F g))):=by kernel_rfl) (hy:ev (kA S) y=.d (.sl t' 1 (L'.map F)):=by exact rfl) (hF:∀ g,(F g).cells=[F g]:=by intro g;kernel_rfl) (hzl:zv.length=1:=by kernel_rfl)
  (hbig:m+L'.length<=maxLen:=by first | (simp only[List.length_cons,List.length_nil,maxLen];omega) | (simp [maxLen];omega)) (hbig':(m+L'.length)*bytes<=140737488355328:=by first | omega | (simp only[List.length_cons,List.length_nil];omega) | (simp;omega))
  (hB:Clr k B:=by repeat first | exact mQ _ | refine nB ?_ | refine cQ ?_ | refine yP ?_ | refine fL ?_ | refine clr_d ?_):SK P n ops K S B (o::l) :=
 app_go F (s:=1) (m2:=(L++L').length) (fun g=>by rw[hF g];rfl) ho g hT hz hzl hby hx (by rw[bxs_one F hF];exact hb) hL hy hbig hbig' hB (by rw[List.length_append,hL]) (by rw[bxs_one F hF];exact r)
theorem zAS(F:α->jT)(L L':List α)(hL:L.length=m)(hT:uB P T=some (E,s))(hz:vP P E=some zv)(hby:vJ P E=some bytes)(r:SK P n ops K ((dO o,.own k E s (L++L').length)::yL k S) ((k,some (qP F (L++L')))::B) l)
  (ho:o.op=.call { callee:=.builtin .append,args:=#[x,y],argTypes:=#[T,T] }:=by exact rfl) (g:goK n ops S o=true:=by kernel_rfl) (hx:ev (kA S) x=.own k E s m:=by exact rfl) (hb:jY B k=some (qP F L):=by kernel_rfl) (hy:ev (kA S) y=.d (.sl t' s (L'.map F)):=by exact rfl) (hF:∀ g,(F g).cells.length=s:=by intro g;kernel_rfl) (hzl:zv.length=s:=by kernel_rfl)
  (hbig:m+L'.length<=maxLen:=by first | (simp only[List.length_cons,List.length_nil,maxLen];omega) | (simp [maxLen];omega)) (hbig':(m+L'.length)*bytes<=140737488355328:=by first | omega | (simp only[List.length_cons,List.length_nil];omega) | (simp;omega))
  (hB:Clr k B:=by repeat first | exact mQ _ | refine nB ?_ | refine cQ ?_ | refine yP ?_ | refine fL ?_ | refine clr_d ?_):SK P n ops K S B (o::l) :=
 app_go F (m2:=(L++L').length) hF ho g hT hz hzl hby hx hb hL hy hbig hbig' hB (by rw[List.length_append,hL]) r
theorem zAQ(F:α->jT)(L L':List α)(hL:L.length=m)(hT:uB P T=some (E,1))(hz:vP P E=some zv)(hby:vJ P E=some bytes)(r:SK P n ops K ((dO o,.d (.sl E 1 ((L++L').map F)))::yL k S) ((k,none)::B) l)
  (ho:o.op=.call { callee:=.builtin .append,args:=#[x,y],argTypes:=#[T,T] }:=by exact rfl) (g:goK n ops S o=true:=by kernel_rfl) (hx:ev (kA S) x=.own k E 1 m:=by exact rfl) (hb:jY B k=some (L.map (fun g=>SV.d (F g))):=by kernel_rfl) (hy:ev (kA S) y=.d (.sl t' 1 (L'.map F)):=by exact rfl) (hF:∀ g,(F g).cells=[F g]:=by intro g;kernel_rfl) (hzl:zv.length=1:=by kernel_rfl)
  (hbig:m+L'.length<=maxLen:=by first | (simp only[List.length_cons,List.length_nil,maxLen];omega) | (simp [maxLen];omega)) (hbig':(m+L'.length)*bytes<=140737488355328:=by first | omega | (simp only[List.length_cons,List.length_nil];omega) | (simp;omega))
  (hB:Clr k B:=by repeat first | exact mQ _ | refine nB ?_ | refine cQ ?_ | refine yP ?_ | refine fL ?_ | refine clr_d ?_):SK P n ops K S B (o::l):=by
 obtain ⟨hd,hg,hdB⟩:=zI g
 exact zX (appP_sem F L L' (fun g=>by rw[hF g];rfl) ho hd hdB hT hz hzl hby hx (by rw[bxs_one F hF];exact hb) hL hy hbig hbig' hB) hg r
theorem zO(k E s:Nat)(r:SK P n ops K ((dO o,.own k E s 0)::S) ((k,some [])::B) l)(h:nilK o=true:=by kernel_rfl)(g:goK n ops S o=true:=by kernel_rfl)(hf:zU k ⟨S,B⟩=true:=by kernel_rfl):SK P n ops K S B (o::l):=by
 obtain ⟨hd,hg,hdB⟩:=zI g
 exact zX (nilOwn_sem k E s ((nilK_eq h).elim .inr .inl) hd hdB hf) hg r
end
section
variable {P:Program} {n:Fr} {Q:Exit->PS->Prop} {st:PS} {c:Operand} {x y:Code}
theorem uG(h1:dR P n x Q st)(hc:ev (kA st.sl) c=.d (.val (.bool true)):=by kernel_rfl):dR P n (.cond c x y) Q st:=jH (b:=true) hc (fun _=>h1) (fun h=>by cases h)
theorem qH(h2:dR P n y Q st)(hc:ev (kA st.sl) c=.d (.val (.bool false)):=by kernel_rfl):dR P n (.cond c x y) Q st:=jH (b:=false) hc (fun h=>by cases h) (fun _=>h2)
end
end Go.Fid
namespace Go.Proofs.YtciingpdmjepgabGreatDoor
open Go.Fid
theorem dT:vJ Tryz.prog 74=some 4:=by kernel_rfl
theorem cb112:callB Tryz.prog 112=true:=by kernel_rfl
theorem kC:uB Tryz.prog 24=some (74,1):=by kernel_rfl
theorem cA:intB Tryz.prog 74=some .u32:=by kernel_rfl
theorem gY:intB Tryz.prog 79=some .u64:=by kernel_rfl
theorem uK:qD Tryz.prog 74=some (false,1):=by kernel_rfl
theorem gZ:(Tryz.prog.underlying 74).isSome=true:=by kernel_rfl
theorem cY:(Tryz.prog.underlying 79).isSome=true:=by kernel_rfl
theorem xW:vP Tryz.prog 74=some [.int .u32 0]:=by kernel_rfl
theorem hM:dV [.int .u32 0] [.val (.int .u32 0)]:=by simp [dV,Value.oneCell']
theorem t_at(l:List Nat)(i:Nat):jW Tryz.prog 138 [(.sl 74 1 (List.map jC l)),(.val (.int .i64 (((i:Nat):Int))))] (.val (.int .u32 ((((l.getD i 0):Nat):Int)))):=by
 refine uW Tryz.func138 ?_
 refine jB<|kx [] [] (zM<|zZ) ?_
 refine jB<|jB<|kx [(8,(vb (decide (((i:Nat):Int)<((l.length:Nat):Int)))))] [] (zM<|zM<|zE (zV kC)<|zE xO<|zZ) ?_
 refine jH rfl (fun h1=>?_) (fun h1=>?_)
 ·replace h1:=xF h1
  refine jB<|kx [(4,(aH (l.getD i 0)))] [] (zM<|zM<|zE (dS kC i (0:Nat))<|zE (gJ uK)<|zM<|zZ) ?_
  refine jE ⟨_,(.tmp (d:=(.val (.int .u32 ((((l.getD i 0):Nat):Int))))) rfl .nil),?_⟩
  rfl
 ·replace h1:=xH h1
  refine jF<|jB<|kx [(4,(aH 0))] [] (zM<|zZ) ?_
  refine jE ⟨_,(.tmp (d:=(.val (.int .u32 (0)))) rfl .nil),?_⟩
  rw[show l.getD i 0=0 from getD_out (by omega)];rfl
theorem t_trim(l0:List Nat)(hd:Dig l0)(hb:l0.length<=35184372088832):jW Tryz.prog 125 [(.sl 74 1 (List.map jC l0))] (.sl 74 1 (List.map jC (ofNat (val l0)))):=by
 refine uW Tryz.func125 ?_
 refine jB<|kx [] [] (zE (oNl 74 1)<|zZ) ?_
 refine jB<|jG<|kU (α:=List Nat) (fun l=>⟨[(0,(vl 74 1 jC l))],[]⟩) (fun l=>Dig l/\val l=val l0/\l.length<=l0.length) (fun l=>l.length) l0 wk ⟨hd,rfl,Nat.le_refl _⟩ ?_
 rintro l ⟨hl,hv,hle⟩
 refine jB<|jB<|kx [(14,(vb (decide (0<((l.length:Nat):Int))&&((((l.getD (l.length-1) 0):Nat):Int) == 0))))] [] ?_ ?_
 ·refine zM<|zE (zV kC)<|zE mB<|zE (oV (vb (decide (0<((l.length:Nat):Int)))) (qF (by kernel_rfl)))<|?_
  rcases hb1:(decide (0<((l.length:Nat):Int))) with _ | _
  ·replace hb1:=xH hb1
   exact zK<|zK<|zK<|zK<|zK<|zK<|zK<|zE gK<|zZ
  ·replace hb1:=xF hb1
   exact zM<|zM<|zE (zV kC)<|zE (oSb (l.length-1))<|zE (dS kC (l.length-1) (0:Nat))<|zE (gJ uK)<|zE nT<|zE oPa<|zZ
 refine jH rfl (fun h2=>?_) (fun h2=>?_)
 ·obtain ⟨hp,_⟩:=trim_cond h2
  refine jF<|jG<|kx [(0,(vl 74 1 jC (List.take (l.length-1) l)))] [] (zM<|zM<|zE (zV kC)<|zE (oSb (l.length-1))<|zE (e_slc (l:=0) (h:=(l.length-1)) (kl:=.i64) (kh:=.i64) (es':=List.map jC (List.take (l.length-1) l)) (by exact rfl) kC (by exact rfl) (by exact rfl) (by exact rfl) (Nat.zero_le _) (by simp only[List.length_map];omega) (by rw[List.drop_zero,List.map_take]))<|zM<|zZ) ?_
  exact ⟨(l.take (l.length-1)),wk,(trim_step hl hv hle h2),(trim_less h2)⟩
 ·refine kK<|jB<|kx [(2,(vl 74 1 jC l))] [] (zM<|zM<|zZ) ?_
  refine jE ⟨_,(.tmp (d:=(.sl 74 1 (List.map jC l))) rfl .nil),?_⟩
  rw[trim_end hl hv h2];rfl
theorem t_plus(a b:List Nat)(hda:Dig a)(hdb:Dig b)(hla:a.length<=35184372087824)(hlb:b.length<=35184372087824):jW Tryz.prog 128 [(.sl 74 1 (List.map jC a)),(.sl 74 1 (List.map jC b))] (.sl 74 1 (List.map jC (ofNat (val a+val b)))):=by
 refine uW Tryz.func128 ?_
 refine jB<|kx [] [] (zE (oNl 74 1)<|zZ) ?_
 refine jB<|kx [(5,(.own 0 74 1 ((max a.length b.length)+1)))] [(0,some (bm jC (List.replicate ((max a.length b.length)+1) 0)))] (zM<|zE (zV kC)<|zM<|zE (zV kC)<|zE (oMx (max a.length b.length))<|zE (vD ((max a.length b.length)+1))<|zN (oMk 0 jC (0:Nat) ((max a.length b.length)+1) ((max a.length b.length)+1) kC xW hM dT)<|zM<|zZ) ?_
 refine jB<|kx [(6,(aH 0))] [] (zM<|zZ) ?_
 refine jB<|jB<|kx [(17,(jS ((max a.length b.length)+1))),(18,(jS 0))] [] (zM<|zE (oLo kC)<|zM<|zZ) ?_
 refine jG<|kU (α:=Nat × List Nat × Nat) (fun (i,out,c)=>⟨[(0,(vl 74 1 jC a)),(1,(vl 74 1 jC b)),(5,(.own 0 74 1 ((max a.length b.length)+1))),(6,(aH c)),(17,(jS ((max a.length b.length)+1))),(18,(jS i))],[(0,some (bm jC out))]⟩) (fun (i,out,c)=>out.length=max a.length b.length+1/\Dig out/\i<=max a.length b.length+1/\c<=1/\val (out.take i)+pw i*c=val (a.take i)+val (b.take i)) (fun (i,out,c)=>max a.length b.length+1-i) (0,List.replicate (max a.length b.length+1) 0,0) wk ⟨by simp,vY _,Nat.zero_le _,Nat.zero_le _,by simp [val]⟩ ?_
 rintro ⟨i,out,c⟩ ⟨qL,hdo,hi,hc,hv⟩
 have hai:=hda.getD i
 have hbi:=hdb.getD i
 refine jB<|kx [(19,(vb (decide (((i:Nat):Int)<((((max a.length b.length)+1):Nat):Int)))))] [] (zE xO<|zZ) ?_
 refine jB<|jH rfl (fun h1=>?_) (fun h1=>?_)
 ·replace h1:=xF h1
  refine jF<|jB<|jG<|jB<|kx [(7,(jS i))] [] (zM<|zM<|zZ) ?_
  refine jB<|kx [(8,(aH (((a.getD i 0)+(b.getD i 0))+c)))] [] (zM<|zM<|zE (kH (t_at a i))<|zM<|zM<|zE (kH (t_at b i))<|zE (vD ((a.getD i 0)+(b.getD i 0)))<|zM<|zE (vD (((a.getD i 0)+(b.getD i 0))+c))<|zM<|zZ) ?_
  refine jB<|kx [(6,(aH 0))] [] (zM<|zZ) ?_
  refine jB<|jB<|kx [(31,(vb (decide (1000000000<=(((((a.getD i 0)+(b.getD i 0))+c):Nat):Int)))))] [] (zM<|zE oGe<|zZ) ?_
  refine jH rfl (fun h2=>?_) (fun h2=>?_)
  ·replace h2:=xF h2
   refine kx [(6,(aH 1)),(8,(aH ((((a.getD i 0)+(b.getD i 0))+c)-1000000000)))] [] (zM<|zE (oSb ((((a.getD i 0)+(b.getD i 0))+c)-1000000000))<|zM<|zM<|zZ) ?_
   refine kx [] [(0,some (bm jC (out.set i ((((a.getD i 0)+(b.getD i 0))+c)-1000000000))))] (zM<|zM<|zM<|zE (aJ kC i)<|zT (oSp uK i ((((a.getD i 0)+(b.getD i 0))+c)-1000000000))<|zZ) ?_
   refine kx [(18,(jS (i+1)))] [] (zE (vD (i+1))<|zM<|zZ) ?_
   exact ⟨(i+1,out.set i (a.getD i 0+b.getD i 0+c-1000000000),1),wk,(by obtain ⟨q1,q2,q3⟩:=plus_step (s:=a.getD i 0+b.getD i 0+c-1000000000) (c':=1) qL hdo (by omega) hv (by omega) (by omega);exact ⟨q1,q2,by omega,by omega,q3⟩),(by first|omega|(dsimp only;omega))⟩
  ·replace h2:=xH h2
   refine jF<|kx [] [(0,some (bm jC (out.set i (((a.getD i 0)+(b.getD i 0))+c))))] (zM<|zM<|zM<|zE (aJ kC i)<|zT (oSp uK i (((a.getD i 0)+(b.getD i 0))+c))<|zZ) ?_
   refine kx [(18,(jS (i+1)))] [] (zE (vD (i+1))<|zM<|zZ) ?_
   exact ⟨(i+1,out.set i (a.getD i 0+b.getD i 0+c),0),wk,(by obtain ⟨q1,q2,q3⟩:=plus_step (s:=a.getD i 0+b.getD i 0+c) (c':=0) qL hdo (by omega) hv (by omega) (by omega);exact ⟨q1,q2,by omega,by omega,q3⟩),(by first|omega|(dsimp only;omega))⟩
 ·replace h1:=xH h1
  have hie:i=max a.length b.length+1:=by omega
  rw[hie] at hv
  refine kK<|jB<|kM (vS (t:=5) (k:=0) (es:=List.map jC out) rfl rfl (uM _ _ (fun _=>rfl)) (uD _ _ qL) (vE _ _ (fun _=>rfl) qL)) ?_
  refine kx [(4,(vl 74 1 jC (ofNat (val out))))] [] (zM<|zE (kH (t_trim out (by assumption) (by omega)))<|zM<|zZ) ?_
  refine jE ⟨_,(.tmp (d:=(.sl 74 1 (List.map jC (ofNat (val out))))) rfl .nil),?_⟩
  rw[plus_end hda hdb qL hv];rfl
theorem t_minus(a b:List Nat)(hda:Dig a)(hdb:Dig b)(hba:val b<=val a)(hla:a.length<=35184372087824):jW Tryz.prog 129 [(.sl 74 1 (List.map jC a)),(.sl 74 1 (List.map jC b))] (.sl 74 1 (List.map jC (ofNat (val a-val b)))):=by
 refine uW Tryz.func129 ?_
 refine jB<|kx [] [] (zE (oNl 74 1)<|zZ) ?_
 refine jB<|kx [(5,(.own 0 74 1 a.length))] [(0,some (bm jC (List.replicate a.length 0)))] (zM<|zE (zV kC)<|zN (oMk 0 jC (0:Nat) a.length a.length kC xW hM dT)<|zM<|zZ) ?_
 refine jB<|kx [(6,(aH 0))] [] (zM<|zZ) ?_
 refine jB<|jB<|kx [(13,(jS a.length)),(14,(jS 0))] [] (zM<|zE (oLo kC)<|zM<|zZ) ?_
 refine jG<|kU (α:=Nat × List Nat × Nat) (fun (i,out,c)=>⟨[(0,(vl 74 1 jC a)),(1,(vl 74 1 jC b)),(5,(.own 0 74 1 a.length)),(6,(aH c)),(13,(jS a.length)),(14,(jS i))],[(0,some (bm jC out))]⟩) (fun (i,out,c)=>out.length=a.length/\Dig out/\i<=a.length/\c<=1/\val (out.take i)+val (b.take i)=val (a.take i)+pw i*c) (fun (i,out,c)=>a.length-i) (0,List.replicate a.length 0,0) wk ⟨by simp,vY _,Nat.zero_le _,Nat.zero_le _,by simp [val]⟩ ?_
 rintro ⟨i,out,c⟩ ⟨qL,hdo,hi,hc,hv⟩
 have hai:=hda.getD i
 have hbi:=hdb.getD i
 refine jB<|kx [(15,(vb (decide (((i:Nat):Int)<((a.length:Nat):Int)))))] [] (zE xO<|zZ) ?_
 refine jB<|jH rfl (fun h1=>?_) (fun h1=>?_)
 ·replace h1:=xF h1
  refine jF<|jB<|jG<|jB<|kx [(7,(jS i))] [] (zM<|zM<|zZ) ?_
  refine jB<|kx [(8,(aH ((b.getD i 0)+c)))] [] (zM<|zM<|zE (kH (t_at b i))<|zM<|zE (vD ((b.getD i 0)+c))<|zM<|zZ) ?_
  refine jB<|kx [(6,(aH 0))] [] (zM<|zZ) ?_
  refine jB<|kx [(27,(vb (decide ((((a.getD i 0):Nat):Int)<((((b.getD i 0)+c):Nat):Int)))))] [] (zM<|zM<|zE (dS kC i (0:Nat))<|zE (gJ uK)<|zM<|zE xO<|zZ) ?_
  refine jH rfl (fun h2=>?_) (fun h2=>?_)
  ·replace h2:=xF h2
   refine kx [(6,(aH 1))] [(0,some (bm jC (out.set i (((a.getD i 0)+1000000000)-((b.getD i 0)+c)))))] (zM<|zM<|zM<|zM<|zE (dS kC i (0:Nat))<|zE (gJ uK)<|zE (vD ((a.getD i 0)+1000000000))<|zM<|zE (oSb (((a.getD i 0)+1000000000)-((b.getD i 0)+c)))<|zE (aJ kC i)<|zT (oSp uK i (((a.getD i 0)+1000000000)-((b.getD i 0)+c)))<|zM<|zZ) ?_
   refine kx [(14,(jS (i+1)))] [] (zE (vD (i+1))<|zM<|zZ) ?_
   exact ⟨(i+1,out.set i (a.getD i 0+1000000000-(b.getD i 0+c)),1),wk,(by obtain ⟨q1,q2,q3⟩:=minus_step (s:=a.getD i 0+1000000000-(b.getD i 0+c)) (c':=1) qL hdo (by omega) hv (by omega) (by omega);exact ⟨q1,q2,by omega,by omega,q3⟩),(by first|omega|(dsimp only;omega))⟩
  ·replace h2:=xH h2
   refine kx [] [(0,some (bm jC (out.set i ((a.getD i 0)-((b.getD i 0)+c)))))] (zM<|zM<|zM<|zM<|zE (dS kC i (0:Nat))<|zE (gJ uK)<|zM<|zE (oSb ((a.getD i 0)-((b.getD i 0)+c)))<|zE (aJ kC i)<|zT (oSp uK i ((a.getD i 0)-((b.getD i 0)+c)))<|zZ) ?_
   refine kx [(14,(jS (i+1)))] [] (zE (vD (i+1))<|zM<|zZ) ?_
   exact ⟨(i+1,out.set i (a.getD i 0-(b.getD i 0+c)),0),wk,(by obtain ⟨q1,q2,q3⟩:=minus_step (s:=a.getD i 0-(b.getD i 0+c)) (c':=0) qL hdo (by omega) hv (by omega) (by omega);exact ⟨q1,q2,by omega,by omega,q3⟩),(by first|omega|(dsimp only;omega))⟩
 ·replace h1:=xH h1
  have hie:i=a.length:=by omega
  rw[hie] at hv
  refine kK<|jB<|kM (vS (t:=5) (k:=0) (es:=List.map jC out) rfl rfl (uM _ _ (fun _=>rfl)) (uD _ _ qL) (vE _ _ (fun _=>rfl) qL)) ?_
  refine kx [(4,(vl 74 1 jC (ofNat (val out))))] [] (zM<|zE (kH (t_trim out (by assumption) (by omega)))<|zM<|zZ) ?_
  refine jE ⟨_,(.tmp (d:=(.sl 74 1 (List.map jC (ofNat (val out))))) rfl .nil),?_⟩
  rw[minus_end hda hdb hdo hba qL hv];rfl
theorem t_times(a b:List Nat)(hda:Dig a)(hdb:Dig b)(hla:a.length+b.length<=35184372088832)(hlb:b.length<=35184372088832):jW Tryz.prog 112 [(.sl 74 1 (List.map jC a)),(.sl 74 1 (List.map jC b))] (.sl 74 1 (List.map jC (ofNat (val a*val b)))):=by
 refine uW Tryz.func112 ?_
 refine jB<|kx [] [] (zE (oNl 74 1)<|zZ) ?_
 refine jB<|kx [(5,(.own 0 74 1 (a.length+b.length)))] [(0,some (bm jC (List.replicate (a.length+b.length) 0)))] (zM<|zE (zV kC)<|zM<|zE (zV kC)<|zE (vD (a.length+b.length))<|zN (oMk 0 jC (0:Nat) (a.length+b.length) (a.length+b.length) kC xW hM dT)<|zM<|zZ) ?_
 refine jB<|jB<|kx [(18,(vl 74 1 jC a)),(19,(jS a.length)),(20,(jS 0))] [] (zM<|zE (zV kC)<|zM<|zZ) ?_
 refine jG<|kU (α:=Nat × List Nat) (fun (i,out)=>⟨[(1,(vl 74 1 jC b)),(5,(.own 0 74 1 (a.length+b.length))),(18,(vl 74 1 jC a)),(19,(jS a.length)),(20,(jS i))],[(0,some (bm jC out))]⟩) (fun (i,out)=>out.length=a.length+b.length/\Dig out/\i<=a.length/\(∀ k,i+b.length<=k->out.getD k 0=0)/\val out=val (a.take i)*val b) (fun (i,out)=>a.length-i) (0,List.replicate (a.length+b.length) 0) wk ⟨by simp,vY _,Nat.zero_le _,fun k _=>eG _ k,by simp [val,cT]⟩ ?_
 rintro ⟨i,out⟩ ⟨qL,hdo,hi,hz,hv⟩
 have hai:=hda.getD i
 refine jB<|kx [(21,(vb (decide (((i:Nat):Int)<((a.length:Nat):Int)))))] [] (zE xO<|zZ) ?_
 refine jB<|jH rfl (fun h1=>?_) (fun h1=>?_)
 ·replace h1:=xF h1
  refine jF<|jB<|jG<|jB<|kx [(6,(jS i)),(7,(aH (a.getD i 0)))] [] (zM<|zE (dS kC i (0:Nat))<|zE (gJ uK)<|zM<|zM<|zZ) ?_
  refine jB<|kx [(8,(zP 0))] [] (zM<|zZ) ?_
  refine jB<|jB<|kx [(25,(vl 74 1 jC b)),(26,(jS b.length)),(27,(jS 0))] [] (zM<|zE (zV kC)<|zM<|zZ) ?_
  refine jG<|kU (α:=Nat × List Nat × Nat) (fun (j,o2,c)=>⟨[(1,(vl 74 1 jC b)),(5,(.own 0 74 1 (a.length+b.length))),(6,(jS i)),(7,(aH (a.getD i 0))),(8,(zP c)),(18,(vl 74 1 jC a)),(19,(jS a.length)),(20,(jS i)),(25,(vl 74 1 jC b)),(26,(jS b.length)),(27,(jS j))],[(0,some (bm jC o2))]⟩) (fun (j,o2,c)=>o2.length=a.length+b.length/\Dig o2/\j<=b.length/\c<1000000000/\(∀ k,i+b.length<=k->o2.getD k 0=0)/\val o2+pw (i+j)*c=val (a.take i)*val b+pw i*(a.getD i 0*val (b.take j))) (fun (j,o2,c)=>b.length-j) (0,out,0) wk ⟨qL,hdo,Nat.zero_le _,by decide,hz,by simp [val,hv]⟩ ?_
  rintro ⟨j,o2,c⟩ ⟨hlen2,hdo2,hj,hc,hz2,hv2⟩
  have hbj:=hdb.getD j
  have hoj:=hdo2.getD (i+j)
  have hpq:a.getD i 0*b.getD j 0<=999999999*999999999:=Nat.mul_le_mul (by omega) (by omega)
  refine jB<|kx [(28,(vb (decide (((j:Nat):Int)<((b.length:Nat):Int)))))] [] (zE xO<|zZ) ?_
  refine jB<|jH rfl (fun h2=>?_) (fun h2=>?_)
  ·replace h2:=xF h2
   refine jF<|jB<|jG<|jB<|kx [(9,(jS j)),(10,(aH (b.getD j 0)))] [] (zM<|zE (dS kC j (0:Nat))<|zE (gJ uK)<|zM<|zM<|zZ) ?_
   refine jB<|kx [(11,(zP (((o2.getD (i+j) 0)+((a.getD i 0)*(b.getD j 0)))+c)))] [] (zM<|zM<|zM<|zE (vD (i+j))<|zE (aJ kC (i+j))<|zR (oLp uK (i+j) (0:Nat))<|zE (hC gZ gY (o2.getD (i+j) 0))<|zM<|zE (hC gZ gY (a.getD i 0))<|zM<|zE (hC gZ gY (b.getD j 0))<|zE (oMl ((a.getD i 0)*(b.getD j 0)))<|zE (vD ((o2.getD (i+j) 0)+((a.getD i 0)*(b.getD j 0))))<|zM<|zE (vD (((o2.getD (i+j) 0)+((a.getD i 0)*(b.getD j 0)))+c))<|zM<|zZ) ?_
   refine kx [(8,(zP ((((o2.getD (i+j) 0)+((a.getD i 0)*(b.getD j 0)))+c) / 1000000000)))] [(0,some (bm jC (o2.set (i+j) ((((o2.getD (i+j) 0)+((a.getD i 0)*(b.getD j 0)))+c) % 1000000000))))] (zM<|zM<|zM<|zE (vD (i+j))<|zM<|zE (oRe ((((o2.getD (i+j) 0)+((a.getD i 0)*(b.getD j 0)))+c) % 1000000000))<|zE (hC cY cA ((((o2.getD (i+j) 0)+((a.getD i 0)*(b.getD j 0)))+c) % 1000000000))<|zM<|zE (oQu ((((o2.getD (i+j) 0)+((a.getD i 0)*(b.getD j 0)))+c) / 1000000000))<|zE (aJ kC (i+j))<|zT (oSp uK (i+j) ((((o2.getD (i+j) 0)+((a.getD i 0)*(b.getD j 0)))+c) % 1000000000))<|zM<|zZ) ?_
   refine kx [(27,(jS (j+1)))] [] (zE (vD (j+1))<|zM<|zZ) ?_
   exact ⟨(j+1,o2.set (i+j) ((o2.getD (i+j) 0+a.getD i 0*b.getD j 0+c) % 1000000000),(o2.getD (i+j) 0+a.getD i 0*b.getD j 0+c) / 1000000000),wk,(by obtain ⟨q1,q2⟩:=times_step (by omega) hdo2 hv2 rfl (val_take_succ b j);exact ⟨by simpa using hlen2,q1,by omega,by omega,zero_set (by omega) hz2,q2⟩),(by first|omega|(dsimp only;omega))⟩
  ·replace h2:=xH h2
   have hje:j=b.length:=by omega
   rw[hje] at hv2
   refine kK<|kx [] [(0,some (bm jC (o2.set (i+b.length) c)))] (zM<|zM<|zM<|zE (zV kC)<|zE (vD (i+b.length))<|zM<|zE (hC cY cA c)<|zE (aJ kC (i+b.length))<|zT (oSp uK (i+b.length) c)<|zZ) ?_
   refine kx [(20,(jS (i+1)))] [] (zE (vD (i+1))<|zM<|zZ) ?_
   exact ⟨(i+1,o2.set (i+b.length) c),wk,(by obtain ⟨q1,q2,q3,q4⟩:=times_row hdo2 (by omega) hlen2 hz2 hc hv2;exact ⟨q1,q2,by omega,q3,q4⟩),(by first|omega|(dsimp only;omega))⟩
 ·replace h1:=xH h1
  have hie:i=a.length:=by omega
  rw[hie,List.take_length] at hv
  refine kK<|jB<|kM (vS (t:=5) (k:=0) (es:=List.map jC out) rfl rfl (uM _ _ (fun _=>rfl)) (uD _ _ qL) (vE _ _ (fun _=>rfl) qL)) ?_
  refine kx [(4,(vl 74 1 jC (ofNat (val out))))] [] (zM<|zE (kH (t_trim out (by assumption) (by omega)))<|zM<|zZ) ?_
  refine jE ⟨_,(.tmp (d:=(.sl 74 1 (List.map jC (ofNat (val out))))) rfl .nil),?_⟩
  rw[hv];rfl
end Go.Proofs.YtciingpdmjepgabGreatDoor
