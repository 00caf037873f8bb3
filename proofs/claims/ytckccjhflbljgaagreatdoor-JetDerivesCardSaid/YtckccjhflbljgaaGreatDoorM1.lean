/- Part 1 of a proof: rules, plain facts, and functions walked. -/
import Derived.Shelf.LaysM
import Derived.Shelf.Strconv.Itoa3
import Derived.Shelf.Bytes.String
import Derived.Shelf.Bytes.WriteByteKept
import Derived.Shelf.Bytes.WriteStringKept
import Derived.Test.YtckccjhflbljgaaGreatDoorProg
import Derived.WalkKit
import Derived.WalkSpells
import Derived.WalkLawsBesides
import Derived.Orders
import Derived.KernelRfl
import Derived.RangeFuncFrom
import Derived.RangeFuncLeaves
import Derived.OrdersIn
import Derived.TacticsIn
set_option linter.all false
namespace Go.Proofs
open List Tryz
open Go.Shelf
def Tryz.laysM171_ren:Go.Shelf.Ren:=⟨λ| 171=>194 | 243=>209 | 246=>217 | 283=>222 | 284=>223 | 285=>224 | 286=>225 | 129=>228 | 317=>227 | 318=>229 | 319=>230 | 320=>231 | 337=>233 | 338=>234 | n=>n,λ| 3=>3 | 9=>9 | 2=>2 | 4=>4 | 171=>200 | 0=>0 | 53=>137 | 37=>174 | 5=>5 | 173=>203 | 212=>208 | 51=>107 | 20=>20 | 213=>209 | 46=>210 | 232=>214 | 233=>215 | n=>n,λ| 17=>1 | 18=>2 | 19=>3 | n=>n⟩
theorem Tryz.laysM171:Go.Proofs.LaysM.n171 prog Tryz.laysM171_ren:={
 mixed:=by kernel_rfl
 f129:=func228.trans (congrArg some (by kernel_rfl))
 f171:=func194.trans (congrArg some (by kernel_rfl))
 f243:=func209.trans (congrArg some (by kernel_rfl))
 f246:=func217.trans (congrArg some (by kernel_rfl))
 f283:=func222.trans (congrArg some (by kernel_rfl))
 f284:=func223.trans (congrArg some (by kernel_rfl))
 f285:=func224.trans (congrArg some (by kernel_rfl))
 f286:=func225.trans (congrArg some (by kernel_rfl))
 f317:=func227.trans (congrArg some (by kernel_rfl))
 f318:=func229.trans (congrArg some (by kernel_rfl))
 f319:=func230.trans (congrArg some (by kernel_rfl))
 f320:=func231.trans (congrArg some (by kernel_rfl))
 f337:=func233.trans (congrArg some (by kernel_rfl))
 f338:=func234.trans (congrArg some (by kernel_rfl))
 t0:=underlying0
 a0:=isAgg0
 z0:=sizeOf0
 v0:=zeroValue0
 t2:=underlying2
 a2:=isAgg2
 z2:=sizeOf2
 v2:=zeroValue2
 t3:=underlying3
 a3:=isAgg3
 z3:=sizeOf3
 v3:=zeroValue3
 t4:=underlying4
 a4:=isAgg4
 z4:=sizeOf4
 v4:=zeroValue4
 t5:=underlying5
 a5:=isAgg5
 z5:=sizeOf5
 v5:=zeroValue5
 t9:=underlying9
 a9:=isAgg9
 z9:=sizeOf9
 v9:=zeroValue9
 t20:=underlying20
 a20:=isAgg20
 z20:=sizeOf20
 v20:=zeroValue20
 t37:=underlying174
 a37:=isAgg174
 z37:=sizeOf174
 v37:=zeroValue174
 t46:=underlying210
 a46:=isAgg210
 z46:=sizeOf210
 v46:=zeroValue210
 t51:=underlying107
 a51:=isAgg107
 z51:=sizeOf107
 v51:=zeroValue107
 t53:=underlying137
 a53:=isAgg137
 z53:=sizeOf137
 v53:=zeroValue137
 t171:=underlying200
 a171:=isAgg200
 z171:=sizeOf200
 v171:=zeroValue200
 t173:=underlying203
 a173:=isAgg203
 z173:=sizeOf203
 v173:=zeroValue203
 t212:=underlying208
 a212:=isAgg208
 z212:=sizeOf208
 v212:=zeroValue208
 t213:=underlying209
 a213:=isAgg209
 z213:=sizeOf209
 t232:=underlying214
 a232:=isAgg214
 z232:=sizeOf214
 v232:=zeroValue214
 t233:=underlying215
 a233:=isAgg215
 z233:=sizeOf215
 v233:=zeroValue215
 g17:=by kernel_rfl
 g18:=by kernel_rfl
 g19:=by kernel_rfl
 i0:=by kernel_rfl
 i2:=by kernel_rfl
 i3:=by kernel_rfl
 i4:=by kernel_rfl
 i5:=by kernel_rfl
 i9:=by kernel_rfl
 i20:=by kernel_rfl
 i37:=by kernel_rfl
 i46:=by kernel_rfl
 i51:=by kernel_rfl
 i53:=by kernel_rfl
 i171:=by kernel_rfl
 i173:=by kernel_rfl
 i212:=by kernel_rfl
 i232:=by kernel_rfl
 i233:=by kernel_rfl
 m17:=by kernel_rfl
 m18:=by kernel_rfl
 m19:=by kernel_rfl }
open Go.RowKit Go.Sort Go.Lib in
theorem Tryz.strconv_Itoa (n : Int) (h0 : -9223372036854775808 <= n) (h1 : n <= 9223372036854775807) (w : World) (htab : Lib.TabIs prog w "internal/strconv.uint64pow10" .u64 Lib.pow10Tab) :
  Calls prog 194 #[.int .i64 n] w λe w'=>e=.returned (.string ⟨(Lib.itoa n).toArray⟩)/\∃ k os,w'=grow (w.drewN k) os:=Any.strconv_Itoa Tryz.laysM171 n h0 h1 w htab
def Tryz.lays171_ren:Go.Shelf.Ren:=⟨λ| 171=>194 | 243=>209 | 246=>217 | 283=>222 | 284=>223 | 285=>224 | 286=>225 | 129=>228 | 317=>227 | 318=>229 | 319=>230 | 320=>231 | 337=>233 | 338=>234 | n=>n,λ| 3=>3 | 9=>9 | 2=>2 | 4=>4 | 171=>200 | 0=>0 | 53=>137 | 37=>174 | 5=>5 | 173=>203 | 212=>208 | 51=>107 | 20=>20 | 213=>209 | 46=>210 | 232=>214 | 233=>215 | n=>n,λ| 17=>1 | 18=>2 | 19=>3 | n=>n⟩
theorem Tryz.lays171:Go.Proofs.Lays.n171 prog Tryz.lays171_ren:={
 mixed:=by kernel_rfl
 f129:=func228.trans (congrArg some (by kernel_rfl))
 f171:=func194.trans (congrArg some (by kernel_rfl))
 f243:=func209.trans (congrArg some (by kernel_rfl))
 f246:=func217.trans (congrArg some (by kernel_rfl))
 f283:=func222.trans (congrArg some (by kernel_rfl))
 f284:=func223.trans (congrArg some (by kernel_rfl))
 f285:=func224.trans (congrArg some (by kernel_rfl))
 f286:=func225.trans (congrArg some (by kernel_rfl))
 f317:=func227.trans (congrArg some (by kernel_rfl))
 f318:=func229.trans (congrArg some (by kernel_rfl))
 f319:=func230.trans (congrArg some (by kernel_rfl))
 f320:=func231.trans (congrArg some (by kernel_rfl))
 f337:=func233.trans (congrArg some (by kernel_rfl))
 f338:=func234.trans (congrArg some (by kernel_rfl))
 t0:=underlying0
 a0:=isAgg0
 z0:=sizeOf0
 v0:=zeroValue0
 t2:=underlying2
 a2:=isAgg2
 z2:=sizeOf2
 v2:=zeroValue2
 t3:=underlying3
 a3:=isAgg3
 z3:=sizeOf3
 v3:=zeroValue3
 t4:=underlying4
 a4:=isAgg4
 z4:=sizeOf4
 v4:=zeroValue4
 t5:=underlying5
 a5:=isAgg5
 z5:=sizeOf5
 v5:=zeroValue5
 t9:=underlying9
 a9:=isAgg9
 z9:=sizeOf9
 v9:=zeroValue9
 t20:=underlying20
 a20:=isAgg20
 z20:=sizeOf20
 v20:=zeroValue20
 t37:=underlying174
 a37:=isAgg174
 z37:=sizeOf174
 v37:=zeroValue174
 t46:=underlying210
 a46:=isAgg210
 z46:=sizeOf210
 v46:=zeroValue210
 t51:=underlying107
 a51:=isAgg107
 z51:=sizeOf107
 v51:=zeroValue107
 t53:=underlying137
 a53:=isAgg137
 z53:=sizeOf137
 v53:=zeroValue137
 t171:=underlying200
 a171:=isAgg200
 z171:=sizeOf200
 v171:=zeroValue200
 t173:=underlying203
 a173:=isAgg203
 z173:=sizeOf203
 v173:=zeroValue203
 t212:=underlying208
 a212:=isAgg208
 z212:=sizeOf208
 v212:=zeroValue208
 t213:=underlying209
 a213:=isAgg209
 z213:=sizeOf209
 t232:=underlying214
 a232:=isAgg214
 z232:=sizeOf214
 v232:=zeroValue214
 t233:=underlying215
 a233:=isAgg215
 z233:=sizeOf215
 v233:=zeroValue215
 g17:=by kernel_rfl
 g18:=by kernel_rfl
 g19:=by kernel_rfl }
open Go.RowKit Go.Sort Go.Lib in
theorem Tryz.strconv_Itoa_small(i:Nat)(hi:i<100)(w:World) :
  Calls prog 194 #[.int .i64 i] w λe w'=>e=.returned (.string ⟨(Lib.decDigits i).toArray⟩)/\w'=w:=Any.strconv_Itoa_small Tryz.lays171 i hi w
def Tryz.laysM182_ren:Go.Shelf.Ren:=⟨λ| 182=>196 | n=>n,λ| 130=>193 | 9=>9 | 4=>4 | 0=>0 | 93=>178 | 37=>174 | 3=>3 | 91=>176 | 5=>5 | n=>n,λ| n=>n⟩
theorem Tryz.laysM182:Go.Proofs.LaysM.n182 prog Tryz.laysM182_ren:={
 mixed:=by kernel_rfl
 f182:=func196.trans (congrArg some (by kernel_rfl))
 t0:=underlying0
 a0:=isAgg0
 z0:=sizeOf0
 v0:=zeroValue0
 t3:=underlying3
 a3:=isAgg3
 z3:=sizeOf3
 v3:=zeroValue3
 t4:=underlying4
 a4:=isAgg4
 z4:=sizeOf4
 v4:=zeroValue4
 t9:=underlying9
 a9:=isAgg9
 z9:=sizeOf9
 v9:=zeroValue9
 t37:=underlying174
 a37:=isAgg174
 z37:=sizeOf174
 v37:=zeroValue174
 t93:=underlying178
 a93:=isAgg178
 z93:=sizeOf178
 v93:=zeroValue178
 t130:=underlying193
 a130:=isAgg193
 z130:=sizeOf193
 v130:=zeroValue193
 t5:=underlying5
 a5:=isAgg5
 z5:=sizeOf5
 v5:=zeroValue5
 t91:=underlying176
 a91:=isAgg176
 z91:=sizeOf176
 v91:=zeroValue176
 i0:=by kernel_rfl
 i3:=by kernel_rfl
 i4:=by kernel_rfl
 i5:=by kernel_rfl
 i9:=by kernel_rfl
 i37:=by kernel_rfl
 i91:=by kernel_rfl
 i93:=by kernel_rfl
 i130:=by kernel_rfl }
open Go.RowKit in
theorem Tryz.Buffer_String(B b:Nat)(l:List UInt8)(w:World)(h:Lib.IsBuffer 178 5 B b (Lib.byteCells l) w) :
  Calls prog 196 #[.pointer (some ⟨b,0,none⟩)] w λe w'=>e=.returned (.string ⟨l.toArray⟩)/\∃ n,w'=w.drewN n:=Any.Buffer_String Tryz.laysM182 B b l w h
def Tryz.laysM179_ren:Go.Shelf.Ren:=⟨λ| 179=>193 | 251=>207 | 252=>208 | 181=>214 | 184=>215 | 290=>216 | 324=>221 | n=>n,λ| 130=>193 | 5=>5 | 75=>180 | 0=>0 | 93=>178 | 91=>176 | 3=>3 | 131=>128 | 4=>4 | 37=>174 | 20=>20 | 80=>185 | 9=>9 | n=>n,λ| 14=>0 | n=>n⟩
theorem Tryz.laysM179:Go.Proofs.LaysM.n179 prog Tryz.laysM179_ren:={
 mixed:=by kernel_rfl
 f179:=func193.trans (congrArg some (by kernel_rfl))
 f181:=func214.trans (congrArg some (by kernel_rfl))
 f184:=func215.trans (congrArg some (by kernel_rfl))
 f251:=func207.trans (congrArg some (by kernel_rfl))
 f252:=func208.trans (congrArg some (by kernel_rfl))
 f290:=func216.trans (congrArg some (by kernel_rfl))
 f324:=func221.trans (congrArg some (by kernel_rfl))
 t0:=underlying0
 a0:=isAgg0
 z0:=sizeOf0
 v0:=zeroValue0
 t3:=underlying3
 a3:=isAgg3
 z3:=sizeOf3
 v3:=zeroValue3
 t4:=underlying4
 a4:=isAgg4
 z4:=sizeOf4
 v4:=zeroValue4
 t5:=underlying5
 a5:=isAgg5
 z5:=sizeOf5
 v5:=zeroValue5
 t20:=underlying20
 a20:=isAgg20
 z20:=sizeOf20
 v20:=zeroValue20
 t37:=underlying174
 a37:=isAgg174
 z37:=sizeOf174
 v37:=zeroValue174
 t75:=underlying180
 a75:=isAgg180
 z75:=sizeOf180
 v75:=zeroValue180
 t91:=underlying176
 a91:=isAgg176
 z91:=sizeOf176
 v91:=zeroValue176
 t93:=underlying178
 a93:=isAgg178
 z93:=sizeOf178
 v93:=zeroValue178
 t130:=underlying193
 a130:=isAgg193
 z130:=sizeOf193
 v130:=zeroValue193
 t131:=underlying128
 a131:=isAgg128
 z131:=sizeOf128
 v131:=zeroValue128
 g14:=by kernel_rfl
 t9:=underlying9
 a9:=isAgg9
 z9:=sizeOf9
 v9:=zeroValue9
 t80:=underlying185
 a80:=isAgg185
 z80:=sizeOf185
 v80:=zeroValue185
 i0:=by kernel_rfl
 i3:=by kernel_rfl
 i4:=by kernel_rfl
 i5:=by kernel_rfl
 i9:=by kernel_rfl
 i20:=by kernel_rfl
 i37:=by kernel_rfl
 i75:=by kernel_rfl
 i80:=by kernel_rfl
 i91:=by kernel_rfl
 i93:=by kernel_rfl
 i130:=by kernel_rfl
 i131:=by kernel_rfl
 m14:=by kernel_rfl }
open Go.RowKit in
theorem Tryz.Buffer_WriteByte_kept(B b:Nat)(bs:List Value)(c:Int)(w:World)(h:Lib.IsBuffer 178 5 B b bs w)(hBw:B<=w.heap.size)(h1:∀ v∈bs,v.oneCell'=true)(hlim:bs.length+1<=140737488355328) :
  Calls prog 193 #[.pointer (some ⟨b,0,none⟩),.int .u8 c] w λe w'=>e=.returned .nilIface/\Lib.IsBuffer 178 5 B b (bs++[.int .u8 c]) w'/\Below B w w'/\Lib.OthersKept 5 (some b) w w':=Any.Buffer_WriteByte_kept Tryz.laysM179 B b bs c w h hBw h1 hlim
def Tryz.laysM178_ren:Go.Shelf.Ren:=⟨λ| 178=>195 | 251=>207 | 252=>208 | 181=>214 | 184=>215 | 290=>216 | 324=>221 | n=>n,λ| 130=>193 | 9=>9 | 3=>3 | 75=>180 | 0=>0 | 93=>178 | 91=>176 | 131=>128 | 4=>4 | 37=>174 | 20=>20 | 80=>185 | 5=>5 | n=>n,λ| 14=>0 | n=>n⟩
theorem Tryz.laysM178:Go.Proofs.LaysM.n178 prog Tryz.laysM178_ren:={
 mixed:=by kernel_rfl
 f178:=func195.trans (congrArg some (by kernel_rfl))
 f181:=func214.trans (congrArg some (by kernel_rfl))
 f184:=func215.trans (congrArg some (by kernel_rfl))
 f251:=func207.trans (congrArg some (by kernel_rfl))
 f252:=func208.trans (congrArg some (by kernel_rfl))
 f290:=func216.trans (congrArg some (by kernel_rfl))
 f324:=func221.trans (congrArg some (by kernel_rfl))
 t0:=underlying0
 a0:=isAgg0
 z0:=sizeOf0
 v0:=zeroValue0
 t3:=underlying3
 a3:=isAgg3
 z3:=sizeOf3
 v3:=zeroValue3
 t4:=underlying4
 a4:=isAgg4
 z4:=sizeOf4
 v4:=zeroValue4
 t9:=underlying9
 a9:=isAgg9
 z9:=sizeOf9
 v9:=zeroValue9
 t20:=underlying20
 a20:=isAgg20
 z20:=sizeOf20
 v20:=zeroValue20
 t37:=underlying174
 a37:=isAgg174
 z37:=sizeOf174
 v37:=zeroValue174
 t75:=underlying180
 a75:=isAgg180
 z75:=sizeOf180
 v75:=zeroValue180
 t91:=underlying176
 a91:=isAgg176
 z91:=sizeOf176
 v91:=zeroValue176
 t93:=underlying178
 a93:=isAgg178
 z93:=sizeOf178
 v93:=zeroValue178
 t130:=underlying193
 a130:=isAgg193
 z130:=sizeOf193
 v130:=zeroValue193
 t131:=underlying128
 a131:=isAgg128
 z131:=sizeOf128
 v131:=zeroValue128
 g14:=by kernel_rfl
 t5:=underlying5
 a5:=isAgg5
 z5:=sizeOf5
 v5:=zeroValue5
 t80:=underlying185
 a80:=isAgg185
 z80:=sizeOf185
 v80:=zeroValue185
 i0:=by kernel_rfl
 i3:=by kernel_rfl
 i4:=by kernel_rfl
 i5:=by kernel_rfl
 i9:=by kernel_rfl
 i20:=by kernel_rfl
 i37:=by kernel_rfl
 i75:=by kernel_rfl
 i80:=by kernel_rfl
 i91:=by kernel_rfl
 i93:=by kernel_rfl
 i130:=by kernel_rfl
 i131:=by kernel_rfl
 m14:=by kernel_rfl }
open Go.RowKit in
theorem Tryz.Buffer_WriteString_kept(B b:Nat)(bs:List Value)(s:ByteArray)(w:World)(h:Lib.IsBuffer 178 5 B b bs w)(hBw:B<=w.heap.size)(h1:∀ v∈bs,v.oneCell'=true)(hlim:bs.length+s.size<=140737488355328) :
  Calls prog 195 #[.pointer (some ⟨b,0,none⟩),.string s] w λe w'=>e=.returned (.tuple #[.int .i64 s.size,.nilIface])/\Lib.IsBuffer 178 5 B b (bs++Lib.byteCells s.data.toList) w'/\Below B w w'/\Lib.OthersKept 5 (some b) w w':=Any.Buffer_WriteString_kept Tryz.laysM178 B b bs s w h hBw h1 hlim
end Go.Proofs
namespace Go.Fid
open List
open Go.RowKit (Below)
abbrev kV:=TypeId->Nat->Nat->Prop
abbrev kX:=Nat->Option Nat
inductive jY where
 |val (v:Value)
 |sl (t:TypeId) (s:Nat) (es:List jY)
 |agg (cs:List jY)
 |tup (vs:List jY)
 |cptr (t:TypeId) (cs:List jY) (off:Nat)
 |clo (f:FuncId) (iR:List jY)
instance:Inhabited jY:=⟨.tup []⟩
def jY.cells:jY->List jY
 |.agg cs=>cs
 |d=>[d]
def qK(es:List jY):List jY:=es.flatMap jY.cells
theorem mO(e:jY)(es:List jY):qK (e::es)=e.cells++qK es:=by simp [qK]
theorem bA(a b:List jY):qK (a++b)=qK a++qK b:=by simp [qK]
theorem vQ{s:Nat}:∀ {es:List jY},(∀ e∈es,e.cells.length=s)->(qK es).length=es.length*s
 |[],_=>by simp [qK]
 |e::es,h=>by
  rw[mO,length_append,h e (by simp),vQ (es:=es) (λx hx=>h x (by simp [hx])),length_cons,Nat.add_mul]
  omega
theorem flat_get{s:Nat}:∀ {es:List jY} {i j:Nat} {e:jY},(∀ e∈es,e.cells.length=s)->es[i]?=some e->j<s->(qK es)[i*s+j]?=e.cells[j]?
 |[],i,j,e,_,h,_=>by simp at h
 |x::es,0,j,e,hs,h,hj=>by
  simp at h
  subst h
  rw[mO,Nat.zero_mul,Nat.zero_add,getElem?_append_left (by rw[hs x (by simp)];exact hj)]
 |x::es,i+1,j,e,hs,h,hj=>by
  have hx:=hs x (by simp)
  have ih:=flat_get (es:=es) (i:=i) (j:=j) (e:=e) (λy hy=>hs y (by simp [hy])) (by simpa using h) hj
  have h1:(i+1)*s=i*s+s:=by rw[Nat.add_mul];omega
  rw[mO,getElem?_append_right (by omega),hx,<- ih]
  congr 1
  omega
inductive uS (w:World) (D:kV):Value->jY->Prop
 |val (v:Value):uS w D v (.val v)
 |sl {t:TypeId} {s:Nat} {es:List jY} {a:Option Addr} {n cap:Nat} (g off:Nat) (u:Nat->Value) (hn:n=es.length) (hc:n<=cap) (hm:cap<=maxLen)
   (hs:∀ e∈es,e.cells.length=s) (ha:0<n->a=some ⟨g,off,none⟩)
   (hD:∀ i,i<(qK es).length->D t g (off+i)) (hu:∀ i,i<(qK es).length->w.cell? ⟨g,off+i,none⟩=some (u i))
   (h1:∀ i,i<(qK es).length->(u i).oneCell'=true) (hr:∀ (i:Nat) d,(qK es)[i]?=some d->uS w D (u i) d):uS w D (.slice a n cap) (.sl t s es)
 |agg {cs:List jY} (vs:List Value) (hl:vs.length=cs.length) (h1:∀ v∈vs,v.oneCell'=true) (hr:∀ (i:Nat) v d,vs[i]?=some v->cs[i]?=some d->uS w D v d):uS w D (.agg vs.toArray) (.agg cs)
 |tup {ds:List jY} (vs:List Value) (hl:vs.length=ds.length) (hr:∀ (i:Nat) v d,vs[i]?=some v->ds[i]?=some d->uS w D v d):uS w D (.tuple vs.toArray) (.tup ds)
 |cptr {t:TypeId} {cs:List jY} {off:Nat} (g o:Nat) (u:Nat->Value)
   (hD:∀ i,i<cs.length->D t g (o+i)) (hu:∀ i,i<cs.length->w.cell? ⟨g,o+i,none⟩=some (u i))
   (h1:∀ i,i<cs.length->(u i).oneCell'=true) (hr:∀ (i:Nat) d,cs[i]?=some d->uS w D (u i) d):uS w D (.pointer (some ⟨g,o+off,none⟩)) (.cptr t cs off)
 |clo {f:FuncId} {iR:List jY} (vs:List Value) (hl:vs.length=iR.length) (hr:∀ (i:Nat) v d,vs[i]?=some v->iR[i]?=some d->uS w D v d):uS w D (.func (.func f) #[] vs.toArray) (.clo f iR)
theorem uS.mono{w w':World}{D D':kV}(hk:∀ t g o,D t g o->D' t g o/\w'.cell? ⟨g,o,none⟩=w.cell? ⟨g,o,none⟩){v:Value}{d:jY}(h:uS w D v d):uS w' D' v d:=by
 induction h with
 |val v=>exact .val v
 |sl g off u hn hc hm hs ha hD hu h1 hr ih=>exact .sl g off u hn hc hm hs ha (λi hi=>(hk _ _ _ (hD i hi)).1) (λi hi=>((hk _ _ _ (hD i hi)).2).trans (hu i hi)) h1 ih
 |agg vs hl h1 hr ih=>exact .agg vs hl h1 ih
 |tup vs hl hr ih=>exact .tup vs hl ih
 |cptr g o u hD hu h1 hr ih=>exact .cptr g o u (λi hi=>(hk _ _ _ (hD i hi)).1) (λi hi=>((hk _ _ _ (hD i hi)).2).trans (hu i hi)) h1 ih
 |clo vs hl hr ih=>exact .clo vs hl ih
def Obj.isMp:Obj->Bool
 |.map _ _=>true
 |.mapIter _ _ _ _=>true
 |_=>false
inductive SV where
 |d (x:jY)
 |ref (k o:Nat)
 |own (k:Nat) (t:TypeId) (s n:Nat)
 |clo (f:FuncId) (ks:List Nat)
 |emp
 |view (k o n:Nat)
 |mp (k:Nat)
 |mo (ob:Obj)
 |pr (k:Nat) (t:TypeId) (s n:Nat) (x:jY)
 |refx (k o b:Nat)
 |mpx (k b:Nat)
 |bnd (f k o:Nat)
 |ownx (k:Nat) (t:TypeId) (s n:Nat) (u:Value)
 |junk
instance:Inhabited SV:=⟨.junk⟩
def kZ(w:World)(D:kV)(β:kX):Value->SV->Prop
 |v,.d x=>uS w D v x
 |v,.ref k o=>∃ b,β k=some b/\v=.pointer (some ⟨b,o,none⟩)
 |v,.own k t s n=>(β k=none/\n=0/\v=.slice none 0 0)\/∃ b cap vs,β k=some b/\v=.slice (some ⟨b,0,none⟩) n cap/\w.heap[b]?=some (.cells vs t (0,0))/\vs.size=cap*s/\n<=cap/\cap<=maxLen
 |v,.clo f ks=>∃ vs:List Value,v=.func (.func f) #[] vs.toArray/\vs.length=ks.length/\∀ (i k:Nat),ks[i]?=some k->∃ b,β k=some b/\vs[i]?=some (.pointer (some ⟨b,0,none⟩))
 |v,.emp=>∃ ao,v=.slice ao 0 0
 |v,.view k o n=>∃ b cap,β k=some b/\v=.slice (some ⟨b,o,none⟩) n cap/\n<=cap/\cap<=maxLen
 |v,.mp k=>∃ b,β k=some b/\v=.map (some b)
 |_,.mo _=>False
 |v,.pr k t s n x=>∃ v1 v2,v=.tuple #[v1,v2]/\((β k=none/\n=0/\v1=.slice none 0 0)\/∃ b cap vs,β k=some b/\v1=.slice (some ⟨b,0,none⟩) n cap/\w.heap[b]?=some (.cells vs t (0,0))/\vs.size=cap*s/\n<=cap/\cap<=maxLen)/\uS w D v2 x
 |v,.refx k o b=>β k=some b/\v=.pointer (some ⟨b,o,none⟩)
 |v,.mpx k b=>β k=some b/\v=.map (some b)
 |v,.bnd f k o=>∃ b,β k=some b/\v=.func (.func f) #[.pointer (some ⟨b,o,none⟩)] #[]
 |v,.ownx k t s n u=>v=u/\((β k=none/\n=0/\v=.slice none 0 0)\/∃ b cap vs,β k=some b/\v=.slice (some ⟨b,0,none⟩) n cap/\w.heap[b]?=some (.cells vs t (0,0))/\vs.size=cap*s/\n<=cap/\cap<=maxLen)
 |_,.junk=>True
def SV.names(k:Nat):SV->Bool
 |.ref j _=>Nat.beq k j
 |.own j _ _ _=>Nat.beq k j
 |.view j _ _=>Nat.beq k j
 |.clo _ ks=>ks.any (Nat.beq k)
 |.pr j _ _ _ _=>Nat.beq k j
 |.refx j _ _=>Nat.beq k j
 |.mpx j _=>Nat.beq k j
 |.bnd _ j _=>Nat.beq k j
 |.ownx j _ _ _ _=>Nat.beq k j
 |.mp j=>Nat.beq k j
 |_=>false
abbrev BS:=List (Nat × Option (List SV))
def kC:BS->Nat->Option (List SV)
 |[],_=>none
 |(j,c)::r,k=>bif Nat.beq j k then c else kC r k
abbrev SL:=List (Nat × SV)
def kD:SL->Nat->SV
 |[],_=>.junk
 |(j,x)::r,t=>bif Nat.beq j t then x else kD r t
theorem nM{a b:Nat}(h:Nat.beq a b=true):a=b:=Nat.eq_of_beq_eq_true h
theorem fH{a b:Nat}(h:Nat.beq a b=false):a≠b:=Nat.ne_of_beq_eq_false h
theorem qQ(j:Nat)(x:SV)(r:SL)(t:Nat):kD ((j,x)::r) t=if j=t then x else kD r t:=by
 simp only[kD]
 by_cases h:j=t
 ·subst h;simp
 ·have:Nat.beq j t=false:=by rw[<- Bool.not_eq_true];exact λe=>h (Nat.eq_of_beq_eq_true e)
  simp [this,h]
theorem jI(j:Nat)(x:Option (List SV))(r:BS)(t:Nat):kC ((j,x)::r) t=if j=t then x else kC r t:=by
 simp only[kC]
 by_cases h:j=t
 ·subst h;simp
 ·have:Nat.beq j t=false:=by rw[<- Bool.not_eq_true];exact λe=>h (Nat.eq_of_beq_eq_true e)
  simp [this,h]
def aM(w:World)(D:kV)(β:kX)(k:Nat)(cs:List SV):Prop :=
 (β k=none/\cs=[])\/∃ b ob,β k=some b/\w.heap[b]?=some ob/\Obj.isMp ob=true/\cs=[.mo ob]/\∀ t o,¬ D t b o
def uE(w:World)(D:kV)(β:kX)(k:Nat)(cs:List SV):Prop :=
 aM w D β k cs\/∃ b vs T,β k=some b/\w.heap[b]?=some (.cells vs T (0,0))/\cs.length<=vs.size /\
  (∀ (i:Nat) x,cs[i]?=some x->∃ u,vs[i]?=some u/\u.oneCell'=true/\kZ w D β u x)/\∀ t o,¬ D t b o
def SV.isMo:SV->Bool
 |.mo _=>true
 |_=>false
def yC:List SV->Bool
 |[.mo _]=>true
 |_=>false
theorem mM(l:List jY):yC (l.map .d)=false:=by
 rcases l with _ | ⟨a,_ | ⟨b,l⟩⟩<;>rfl
theorem mapCs_at{l:List SV}{i:Nat}{x:SV}(h:l[i]?=some x)(hx:x.isMo=false):yC l=false:=by
 unfold yC
 split
 ·rename_i ob
  rcases i with _ | i
  ·simp at h;subst h;cases hx
  ·simp at h
 ·rfl
theorem aM.cells{w:World}{D:kV}{β:kX}{k:Nat}{cs:List SV}(h:aM w D β k cs)(hm:yC cs=false):β k=none/\cs=[]:=by
 rcases h with h | ⟨b,ob,_,_,_,h4,_⟩
 ·exact h
 ·subst h4;cases hm
structure Mem (w:World) (D:kV) (β:kX) (bs:BS):Prop where
 ok:∀ k cs,kC bs k=some cs->uE w D β k cs
 inj:∀ k1 k2 c1 c2,kC bs k1=some c1->kC bs k2=some c2->∀ b,β k1=some b->β k2=some b->k1=k2
def tabG:Option Nat:=some 1
def tabV:Array Value:=((range 20).map λi=>Value.int .u64 ((10 ^ i:Nat):Int)).toArray
def TabOk(D:kV)(w:World):Prop:=∀ G,tabG=some G->∀ i,D 1000007 G i/\w.cell? ⟨G,i,none⟩=tabV[i]?
theorem TabOk.mono{D D':kV}{w w':World}(h:TabOk D w)(up:∀ t g o,D t g o->D' t g o)(keep:∀ t g o,D t g o->w'.cell? ⟨g,o,none⟩=w.cell? ⟨g,o,none⟩):TabOk D' w':=λG hG i=>⟨up _ _ _ (h G hG i).1,(keep _ _ _ (h G hG i).1).trans (h G hG i).2⟩
structure iU (D:kV) (w:World):Prop where
 lt:∀ t g o,D t g o->g<w.heap.size
 tab:TabOk D w
structure aJ (D D':kV) (w w':World):Prop where
 up:∀ t g o,D t g o->D' t g o
 new:∀ t g o,D' t g o->D t g o\/(w.heap.size<=g/\g<w'.heap.size)
theorem xW{B:Nat}{w w':World}(h:Below B w w'){g o:Nat}(hg:g<B):w'.cell? ⟨g,o,none⟩=w.cell? ⟨g,o,none⟩:=h.cell (p:=⟨g,o,none⟩) hg
theorem aJ.refl(D:kV)(w:World):aJ D D w w:=⟨λ_ _ _ h=>h,λ_ _ _ h=>.inl h⟩
theorem aJ.of_same(D:kV){w w':World}:aJ D D w w':=⟨λ_ _ _ h=>h,λ_ _ _ h=>.inl h⟩
theorem aJ.ok{D D':kV}{w w':World}(h:aJ D D' w w')(hD:iU D w)(hb:Below w.heap.size w w'):iU D' w':=⟨λt g o hd=>by
 rcases h.new t g o hd with h1 | h1
 ·have:=hD.lt t g o h1;have:=hb.size;omega
 ·exact h1.2,hD.tab.mono h.up λt g o hd=>xW hb (hD.lt t g o hd)⟩
theorem iU.more{D D':kV}{w:World}(hD:iU D w)(up:∀ t g o,D t g o->D' t g o)(h:∀ t g o,D' t g o->g<w.heap.size):iU D' w:=⟨h,hD.tab.mono up λ_ _ _ _=>rfl⟩
theorem iU.kept{D:kV}{w w':World}(hD:iU D w)(hs:w.heap.size<=w'.heap.size)(keep:∀ t g o,D t g o->w'.cell? ⟨g,o,none⟩=w.cell? ⟨g,o,none⟩):iU D w':=⟨λt g o hd=>Nat.lt_of_lt_of_le (hD.lt t g o hd) hs,hD.tab.mono (λ_ _ _ h=>h) keep⟩
section
variable {w w':World} {D D':kV} {β:kX}
theorem uS.up(hb:Below w.heap.size w w')(hu:aJ D D' w w')(hD:iU D w){v:Value}{d:jY}(h:uS w D v d):uS w' D' v d :=
 h.mono λt g o hd=>⟨hu.up t g o hd,xW hb (hD.lt t g o hd)⟩
theorem qW{k:Nat}{o:Obj}(h:w.heap[k]?=some o):k<w.heap.size:=(Array.getElem?_eq_some_iff.1 h).1
theorem kZ.up(hb:Below w.heap.size w w')(hu:aJ D D' w w')(hD:iU D w){v:Value}{x:SV}(h:kZ w D β v x):kZ w' D' β v x:=by
 cases x with
 |d x=>exact uS.up hb hu hD h
 |ref k o=>exact h
 |own k t s n=>
  rcases h with h | ⟨b,cap,vs,h1,h2,h3,h4⟩
  ·exact .inl h
  ·exact .inr ⟨b,cap,vs,h1,h2,(hb.block b (qW h3)).trans h3,h4⟩
 |clo f ks=>exact h
 |emp=>exact h
 |view k o n=>exact h
 |mp k=>exact h
 |mo ob=>exact h
 |pr k t s n x=>
  obtain ⟨v1,v2,e,h1,h2⟩:=h
  refine ⟨v1,v2,e,?_,uS.up hb hu hD h2⟩
  rcases h1 with h | ⟨b,cap,vs,h1,h2,h3,h4⟩
  ·exact .inl h
  ·exact .inr ⟨b,cap,vs,h1,h2,(hb.block b (qW h3)).trans h3,h4⟩
 |refx k o b=>exact h
 |mpx k b=>exact h
 |bnd f k o=>exact h
 |ownx k t s n u=>
  refine ⟨h.1,?_⟩
  rcases h.2 with h | ⟨b,cap,vs,h1,h2,h3,h4⟩
  ·exact .inl h
  ·exact .inr ⟨b,cap,vs,h1,h2,(hb.block b (qW h3)).trans h3,h4⟩
 |junk=>trivial
theorem aM.up(hb:Below w.heap.size w w')(hu:aJ D D' w w')(hD:iU D w){k:Nat}{cs:List SV}(h:aM w D β k cs):aM w' D' β k cs:=by
 rcases h with h | ⟨b,ob,h1,h2,h3,h4,h5⟩
 ·exact .inl h
 ·refine .inr ⟨b,ob,h1,(hb.block b (qW h2)).trans h2,h3,h4,λt o hd=>?_⟩
  rcases hu.new t b o hd with h6 | h6
  ·exact h5 t o h6
  ·have:=qW h2;omega
theorem uE.lt{k:Nat}{cs:List SV}{b:Nat}(h:uE w D β k cs)(hb:β k=some b):b<w.heap.size:=by
 rcases h with (⟨h1,_⟩ | ⟨b',ob,h1,h2,_⟩) | ⟨b',vs,T,h1,h2,_⟩
 ·rw[h1] at hb;cases hb
 ·rw[h1] at hb;injection hb with e;subst e;exact qW h2
 ·rw[h1] at hb;injection hb with e;subst e;exact qW h2
theorem uE.up(hb:Below w.heap.size w w')(hu:aJ D D' w w')(hD:iU D w){k:Nat}{cs:List SV}(h:uE w D β k cs):uE w' D' β k cs:=by
 rcases h with h | ⟨b,vs,T,h1,h2,h3,h4,h5⟩
 ·exact .inl (h.up hb hu hD)
 ·refine .inr ⟨b,vs,T,h1,(hb.block b (qW h2)).trans h2,h3,λi x hx=>?_,λt o hd=>?_⟩
  ·obtain ⟨u,e1,e2,e3⟩:=h4 i x hx
   exact ⟨u,e1,e2,e3.up hb hu hD⟩
  ·rcases hu.new t b o hd with h6 | h6
   ·exact h5 t o h6
   ·have:=qW h2;omega
theorem Mem.up(hb:Below w.heap.size w w')(hu:aJ D D' w w')(hD:iU D w){bs:BS}(h:Mem w D β bs):Mem w' D' β bs :=
 ⟨λk cs hk=>(h.ok k cs hk).up hb hu hD,h.inj⟩
end
def kX.set(β:kX)(k b:Nat):kX:=λj=>if j=k then some b else β j
theorem kZ.frame{w:World}{D:kV}{β β':kX}{k:Nat}{v:Value}{x:SV}(hβ:∀ j,j≠k->β' j=β j)(hx:x.names k=false)(h:kZ w D β v x):kZ w D β' v x:=by
 cases x with
 |d x=>exact h
 |ref j o=>
  have hj:j≠k:=λe=>by subst e;simp [SV.names] at hx
  obtain ⟨b,h1,h2⟩:=h
  exact ⟨b,(hβ j hj).trans h1,h2⟩
 |own j t s n=>
  have hj:j≠k:=λe=>by subst e;simp [SV.names] at hx
  rcases h with ⟨h1,h2⟩ | ⟨b,cap,vs,h1,h2⟩
  ·exact .inl ⟨(hβ j hj).trans h1,h2⟩
  ·exact .inr ⟨b,cap,vs,(hβ j hj).trans h1,h2⟩
 |clo f ks=>
  obtain ⟨vs,h1,h2,h3⟩:=h
  refine ⟨vs,h1,h2,λi j hj=>?_⟩
  obtain ⟨b,h4,h5⟩:=h3 i j hj
  have hne:j≠k:=λe=>by
   subst e
   simp only[SV.names,any_eq_false] at hx
   exact hx j (mem_of_getElem? hj) (by simp)
  exact ⟨b,(hβ j hne).trans h4,h5⟩
 |emp=>exact h
 |view j o n=>
  have hj:j≠k:=λe=>by subst e;simp [SV.names] at hx
  obtain ⟨b,cap,h1,h2⟩:=h
  exact ⟨b,cap,(hβ j hj).trans h1,h2⟩
 |mp j=>
  have hj:j≠k:=λe=>by subst e;simp [SV.names] at hx
  obtain ⟨b,h1,h2⟩:=h
  exact ⟨b,(hβ j hj).trans h1,h2⟩
 |mo ob=>exact h
 |pr j t s n x=>
  have hj:j≠k:=λe=>by subst e;simp [SV.names] at hx
  obtain ⟨v1,v2,e,h1,h2⟩:=h
  refine ⟨v1,v2,e,?_,h2⟩
  rcases h1 with ⟨h1,h2⟩ | ⟨b,cap,vs,h1,h2⟩
  ·exact .inl ⟨(hβ j hj).trans h1,h2⟩
  ·exact .inr ⟨b,cap,vs,(hβ j hj).trans h1,h2⟩
 |refx j o b=>
  have hj:j≠k:=λe=>by subst e;simp [SV.names] at hx
  exact ⟨(hβ j hj).trans h.1,h.2⟩
 |mpx j b=>
  have hj:j≠k:=λe=>by subst e;simp [SV.names] at hx
  exact ⟨(hβ j hj).trans h.1,h.2⟩
 |bnd f j o=>
  have hj:j≠k:=λe=>by subst e;simp [SV.names] at hx
  obtain ⟨b,h1,h2⟩:=h
  exact ⟨b,(hβ j hj).trans h1,h2⟩
 |ownx j t s n u=>
  have hj:j≠k:=λe=>by subst e;simp [SV.names] at hx
  refine ⟨h.1,?_⟩
  rcases h.2 with ⟨h1,h2⟩ | ⟨b,cap,vs,h1,h2⟩
  ·exact .inl ⟨(hβ j hj).trans h1,h2⟩
  ·exact .inr ⟨b,cap,vs,(hβ j hj).trans h1,h2⟩
 |junk=>trivial
def qI(k:Nat)(cs:List SV):Bool:=cs.any (SV.names k)
theorem aM.frame{w:World}{D:kV}{β β':kX}{j:Nat}{cs:List SV}(hβ:β' j=β j)(h:aM w D β j cs):aM w D β' j cs:=by
 rcases h with ⟨h1,h2⟩ | ⟨b,ob,h1,h2⟩
 ·exact .inl ⟨hβ.trans h1,h2⟩
 ·exact .inr ⟨b,ob,hβ.trans h1,h2⟩
theorem aM.more{w:World}{D D':kV}{β:kX}{j g:Nat}{cs:List SV}(h:aM w D β j cs)(hd:∀ t b o,D' t b o->D t b o\/b=g)(hne:β j≠some g):aM w D' β j cs:=by
 rcases h with h | ⟨b,ob,h1,h2,h3,h4,h5⟩
 ·exact .inl h
 ·exact .inr ⟨b,ob,h1,h2,h3,h4,λt o hD=>by
   rcases hd t b o hD with h6 | h6
   ·exact h5 t o h6
   ·exact hne (h6▸h1)⟩
theorem aM.at_cells{w:World}{D:kV}{β:kX}{k b:Nat}{cs:List SV}{vs:Array Value}{T:TypeId}{f:Nat × Nat}(h:aM w D β k cs)(hk:β k=some b)(hb:w.heap[b]?=some (.cells vs T f)):False:=by
 rcases h with ⟨h1,_⟩ | ⟨b',ob,h1,h2,h3,_⟩
 ·rw[hk] at h1;cases h1
 ·rw[hk] at h1;injection h1 with h1;subst h1;rw[hb] at h2;injection h2 with h2;subst h2;cases h3
theorem uE.frame{w:World}{D:kV}{β β':kX}{k j:Nat}{cs:List SV}(hβ:∀ i,i≠k->β' i=β i)(hj:j≠k)(hx:qI k cs=false)(h:uE w D β j cs):uE w D β' j cs:=by
 rcases h with h | ⟨b,vs,T,h1,h2,h3,h4,h5⟩
 ·exact .inl (h.frame (hβ j hj))
 ·refine .inr ⟨b,vs,T,(hβ j hj).trans h1,h2,h3,λi x hi=>?_,h5⟩
  obtain ⟨u,e1,e2,e3⟩:=h4 i x hi
  simp only[qI,any_eq_false] at hx
  exact ⟨u,e1,e2,e3.frame hβ (by simpa using hx x (mem_of_getElem? hi))⟩
structure Wrote (b:Nat) (w w':World):Prop where
 os:w'.os=w.os
 tape:w'.tape=w.tape
 output:w'.output=w.output
 size:w'.heap.size=w.heap.size
 block:∀ k,k≠b->w'.heap[k]?=w.heap[k]?
 own:∀ vs T f,w.heap[b]?=some (.cells vs T f)->∃ vs',w'.heap[b]?=some (.cells vs' T f)/\vs'.size=vs.size
theorem Wrote.rep{w w':World}{D:kV}{b:Nat}(hw:Wrote b w w')(hp:∀ t o,¬ D t b o){v:Value}{d:jY}(h:uS w D v d):uS w' D v d :=
 h.mono λt g o hd=>⟨hd,by
  have:g≠b:=λe=>hp t o (e▸hd)
  exact World.cell?_of_block (hw.block g this)⟩
theorem Wrote.repS{w w':World}{D:kV}{β:kX}{b:Nat}(hw:Wrote b w w')(hp:∀ t o,¬ D t b o){v:Value}{x:SV}(h:kZ w D β v x):kZ w' D β v x:=by
 cases x with
 |d x=>exact hw.rep hp h
 |ref j o=>exact h
 |own j t s n=>
  rcases h with h | ⟨c,cap,vs,h1,h2,h3,h4,h5⟩
  ·exact .inl h
  ·by_cases hc:c=b
   ·subst hc
    obtain ⟨vs',e1,e2⟩:=hw.own _ _ _ h3
    exact .inr ⟨c,cap,vs',h1,h2,e1,e2.trans h4,h5⟩
   ·exact .inr ⟨c,cap,vs,h1,h2,(hw.block c hc).trans h3,h4,h5⟩
 |clo f ks=>exact h
 |emp=>exact h
 |view j o n=>exact h
 |mp j=>exact h
 |mo ob=>exact h
 |pr j t s n x=>
  obtain ⟨v1,v2,e,h1,h2⟩:=h
  refine ⟨v1,v2,e,?_,hw.rep hp h2⟩
  rcases h1 with h | ⟨c,cap,vs,h1,h2,h3,h4,h5⟩
  ·exact .inl h
  ·by_cases hc:c=b
   ·subst hc
    obtain ⟨vs',e1,e2⟩:=hw.own _ _ _ h3
    exact .inr ⟨c,cap,vs',h1,h2,e1,e2.trans h4,h5⟩
   ·exact .inr ⟨c,cap,vs,h1,h2,(hw.block c hc).trans h3,h4,h5⟩
 |refx j o b=>exact h
 |mpx j b=>exact h
 |bnd f j o=>exact h
 |ownx j t s n u=>
  refine ⟨h.1,?_⟩
  rcases h.2 with h | ⟨c,cap,vs,h1,h2,h3,h4,h5⟩
  ·exact .inl h
  ·by_cases hc:c=b
   ·subst hc
    obtain ⟨vs',e1,e2⟩:=hw.own _ _ _ h3
    exact .inr ⟨c,cap,vs',h1,h2,e1,e2.trans h4,h5⟩
   ·exact .inr ⟨c,cap,vs,h1,h2,(hw.block c hc).trans h3,h4,h5⟩
 |junk=>trivial
theorem Wrote.blk{w w':World}{D:kV}{β:kX}{b k:Nat}{cs:List SV}(hw:Wrote b w w')(hp:∀ t o,¬ D t b o)(hk:β k≠some b)(h:uE w D β k cs):uE w' D β k cs:=by
 rcases h with h | ⟨c,vs,T,h1,h2,h3,h4,h5⟩
 ·rcases h with h | ⟨c,ob,h1,h2,h3⟩
  ·exact .inl (.inl h)
  ·exact .inl (.inr ⟨c,ob,h1,(hw.block c (λe=>hk (e▸h1))).trans h2,h3⟩)
 ·have hc:c≠b:=λe=>hk (e▸h1)
  refine .inr ⟨c,vs,T,h1,(hw.block c hc).trans h2,h3,λi x hi=>?_,h5⟩
  obtain ⟨u,e1,e2,e3⟩:=h4 i x hi
  exact ⟨u,e1,e2,hw.repS hp e3⟩
theorem vF{p:Prop}[inst:Decidable p](h:decide p=true):p:=of_decide_eq_true h
theorem vT{p:Prop}[inst:Decidable p](h:decide p=false):¬ p:=of_decide_eq_false h
def ev(S:Nat->SV):Operand->SV
 |.tmp t=>S t
 |.const v=>.d (.val v)
 |.func f=>.d (.val (.func (.func f) #[] #[]))
 |.global _=>.junk
def Opnds(w:World)(D:kV)(β:kX)(a:Act)(o:Oper)(S:Nat->SV):Prop:=∀ y∈o.op.operands,kZ w D β (a.eval y) (ev S y)
def EPost(a:Act)(w:World)(D:kV)(β:kX)(dst:Option Tmp)(x:SV)(a':Act)(w':World):Prop :=
 ∃ v D',a'=a.put dst v/\Below w.heap.size w w'/\aJ D D' w w'/\kZ w' D' β v x
def uP(P:Program)(o:Oper)(S:Nat->SV)(rd:List (Nat × List SV))(x:SV):Prop :=
 ∀ (a:Act) (w:World) (D:kV) (β:kX) (Q:Exit->Act->World->Prop),Opnds w D β a o S->(∀ p∈rd,uE w D β p.1 p.2)->iU D w->o.wp P a w (EPost a w D β o.dst x) Q
def NPost(a:Act)(w:World)(D:kV)(β:kX)(dst:Option Tmp)(k:Nat)(cs:List SV)(x:SV)(a':Act)(w':World):Prop :=
 ∃ v D' b,a'=a.put dst v/\Below w.heap.size w w'/\aJ D D' w w'/\w.heap.size<=b/\b<w'.heap.size/\(∀ t o,¬ D' t b o)/\uE w' D' (β.set k b) k cs/\kZ w' D' (β.set k b) v x
def NOk(P:Program)(o:Oper)(S:Nat->SV)(k:Nat)(cs:List SV)(x:SV):Prop :=
 ∀ (a:Act) (w:World) (D:kV) (β:kX) (Q:Exit->Act->World->Prop),Opnds w D β a o S->iU D w->o.wp P a w (NPost a w D β o.dst k cs x) Q
def TPost(a:Act)(w:World)(D:kV)(β:kX)(dst:Option Tmp)(k:Nat)(cs:List SV)(a':Act)(w':World):Prop :=
 a'=a.put dst undef/\∃ b,β k=some b/\Wrote b w w'/\(∀ t o,¬ D t b o)/\uE w' D β k cs
def TOk(P:Program)(o:Oper)(S:Nat->SV)(k:Nat)(old cs:List SV):Prop :=
 ∀ (a:Act) (w:World) (D:kV) (β:kX) (Q:Exit->Act->World->Prop),Opnds w D β a o S->uE w D β k old->iU D w->o.wp P a w (TPost a w D β o.dst k cs) Q
def APost(a:Act)(w:World)(D:kV)(β:kX)(dst:Option Tmp)(k k':Nat)(cs:List SV)(x:SV)(a':Act)(w':World):Prop :=
 ∃ v b,a'=a.put dst v/\uE w' D (β.set k' b) k' cs/\kZ w' D (β.set k' b) v x/\((Below w.heap.size w w'/\w.heap.size<=b/\b<w'.heap.size)\/(β k=some b/\Wrote b w w'/\∀ t o,¬ D t b o))
def AOk(P:Program)(o:Oper)(S:Nat->SV)(k k':Nat)(old cs:List SV)(x:SV):Prop :=
 ∀ (a:Act) (w:World) (D:kV) (β:kX) (Q:Exit->Act->World->Prop),Opnds w D β a o S->uE w D β k old->iU D w->o.wp P a w (APost a w D β o.dst k k' cs x) Q
section
variable {P:Program} {o:Oper} {S:Nat->SV}
theorem cF{a:Act}{w w':World}{K:Act->World->Prop}{Q:Exit->Act->World->Prop}{v:Value}(h:(execOp a.eval o).run P w=.ok (.value v) w')(hk:K (a.put o.dst v) w'):o.wp P a w K Q:=by
 unfold Oper.wp;rw[h];exact hk
theorem wp_skip_{a:Act}{w w':World}{K:Act->World->Prop}{Q:Exit->Act->World->Prop}(h:(execOp a.eval o).run P w=.ok .skip w')(hk:K (a.put o.dst undef) w'):o.wp P a w K Q:=by
 unfold Oper.wp;rw[h];exact hk
theorem dG{a:Act}{w w':World}{K:Act->World->Prop}{Q:Exit->Act->World->Prop}{f:FuncId}{args:Array Value}(h:(execOp a.eval o).run P w=.ok (.enter f args) w')
  (hk:Calls P f args w' λe w''=>∃ v,e=.returned v/\K (a.put o.dst v) w''):o.wp P a w K Q:=by
 unfold Oper.wp;rw[h]
 exact hk.mono λe w'' ⟨v,he,hK⟩=>by subst he;exact hK
theorem uP.same{rd:List (Nat × List SV)}{x:SV}(h:∀ (a:Act) (w:World) (D:kV) (β:kX),Opnds w D β a o S->(∀ p∈rd,uE w D β p.1 p.2)->∃ v,(execOp a.eval o).run P w=.ok (.value v) w/\kZ w D β v x):uP P o S rd x :=
 λa w D β Q hop hrd _=>by
  obtain ⟨v,h1,h2⟩:=h a w D β hop hrd
  exact cF h1 ⟨v,D,rfl,Below.refl _ _,aJ.refl _ _,h2⟩
theorem uP.weaken{rd:List (Nat × List SV)}{x y:SV}(h:uP P o S rd x)(hxy:∀ w D β v,kZ w D β v x->kZ w D β v y):uP P o S rd y :=
 λa w D β Q hop hrd hD=>Oper.wp_mono (λ_ _ ⟨v,D',h1,h2,h3,h4⟩=>⟨v,D',h1,h2,h3,hxy _ _ _ _ h4⟩) (h a w D β Q hop hrd hD)
theorem e_move{x:Operand}(ho:o.op=.move x\/o.op=.assign x):uP P o S [] (ev S x) :=
 uP.same λa w D β hop _=>⟨a.eval x,by rcases ho with ho | ho<;>simp [execOp,ho],by
  rcases ho with ho | ho<;>exact hop x (by simp [ho,Op.operands])⟩
theorem bB(w:World)(D:kV)(t:TypeId)(s:Nat):uS w D (.slice none 0 0) (.sl t s []) :=
 .sl 0 0 (λ_=>undef) rfl (Nat.le_refl _) (by simp [maxLen]) (by simp) (by simp) (by simp [qK]) (by simp [qK]) (by simp [qK]) (by simp [qK])
theorem e_nil(t:TypeId)(s:Nat)(ho:o.op=.move (.const (.slice none 0 0))\/o.op=.assign (.const (.slice none 0 0))):uP P o S [] (.d (.sl t s [])) :=
 uP.same λa w D β _ _=>⟨.slice none 0 0,by rcases ho with ho | ho<;>simp [execOp,ho,Act.eval],bB w D t s⟩
theorem rep_bool{w:World}{D:kV}{v:Value}{b:Bool}(h:uS w D v (.val (.bool b))):v=.bool b:=by cases h;rfl
theorem vA{w:World}{D:kV}{v u:Value}(h:uS w D v (.val u)):v=u:=by cases h;rfl
theorem e_pick{c x y:Operand}{b:Bool}(ho:o.op=.pick c x y)(hc:ev S c=.d (.val (.bool b))):uP P o S [] (if b then ev S x else ev S y) :=
 uP.same λa w D β hop _=>by
  have h1:=hop c (by simp [ho,Op.operands])
  rw[hc] at h1
  have h2:a.eval c=.bool b:=rep_bool h1
  refine ⟨if b then a.eval x else a.eval y,by simp [execOp,ho,h2,asBool],?_⟩
  cases b
  ·exact hop y (by simp [ho,Op.operands])
  ·exact hop x (by simp [ho,Op.operands])
def isAggD:TypeDesc->Bool
 |.struct _ | .array _ _=>true
 |_=>false
def qD(P:Program)(T:TypeId):Option (Bool × Nat) :=
 match P.underlying T,P.info? T with
 |some d,some i=>some (isAggD d,i.size)
 |_,_=>none
theorem shape_of{T:TypeId}{agg:Bool}{sz:Nat}(h:qD P T=some (agg,sz)):∃ d i,P.underlying T=some d/\P.info? T=some i/\isAggD d=agg/\i.size=sz:=by
 unfold qD at h
 cases h1:P.underlying T with
 |none=>simp [h1] at h
 |some d=>
  cases h2:P.info? T with
  |none=>simp [h1,h2] at h
  |some i=>
   simp [h1,h2] at h
   exact ⟨d,i,rfl,rfl,h.1,h.2⟩
theorem iE{T:TypeId}{d:TypeDesc}(h:P.underlying T=some d)(w:World):(isAgg T).run P w=.ok (isAggD d) w:=by
 unfold isAgg
 simp only[Sem.run_bind,run_underlying h,Result.andThen_ok]
 cases d<;>rfl
theorem xM{T:TypeId}{i:TypeInfo}(h:P.info? T=some i)(w:World):(sizeOf T).run P w=.ok i.size w:=by
 simp [sizeOf,typeInfo,h]
theorem eW{T:TypeId}{sz:Nat}(h:qD P T=some (true,sz))(w:World)(ad:Addr)(us:List Value)(hl:us.length=sz)(hc:∀ (j:Nat) u,us[j]?=some u->w.cell? (ad.add j)=some u) :
  (loadVar T ad).run P w=.ok (.agg us.toArray) w:=by
 obtain ⟨d,i,h1,h2,h3,h4⟩:=shape_of h
 subst hl
 have hl:=run_loadCells_list (P:=P) w ad us hc
 rw[<- h4] at hl
 unfold loadVar
 simp [iE h1,h3,xM h2,hl]
theorem eX{T:TypeId}{sz:Nat}(h:qD P T=some (false,sz))(w:World)(ad:Addr){u:Value}(hc:w.cell? ad=some u) :
  (loadVar T ad).run P w=.ok u w:=by
 obtain ⟨d,i,h1,h2,h3,h4⟩:=shape_of h
 unfold loadVar
 simp [iE h1,h3,hc]
def unD:List SV->Option (List jY)
 |[]=>some []
 |.d x::r=>match unD r with
  |some l=>some (x::l)
  |none=>none
 |_::_=>none
theorem unD_spec:∀ {l:List SV} {ds:List jY},unD l=some ds->l=ds.map .d
 |[],ds,h=>by simp [unD] at h;subst h;rfl
 |.d x::r,ds,h=>by
  simp only[unD] at h
  cases h1:unD r with
  |none=>simp [h1] at h
  |some l=>
   simp [h1] at h
   subst h
   simp [unD_spec h1]
 |.ref _ _::r,ds,h=>by simp [unD] at h
 |.own _ _ _ _::r,ds,h=>by simp [unD] at h
 |.clo _ _::r,ds,h=>by simp [unD] at h
 |.junk::r,ds,h=>by simp [unD] at h
def gF(agg:Bool)(l:List SV):SV :=
 match agg with
 |true=>match unD l with
  |some ds=>.d (.agg ds)
  |none=>.junk
 |false=>match l with
  |[x]=>x
  |_=>.junk
theorem blk_cells{w:World}{D:kV}{β:kX}{k b:Nat}{cs:List SV}(h:uE w D β k cs)(hb:β k=some b)(hm:yC cs=false) :
  ∃ vs:List Value,vs.length=cs.length/\(∀ (j:Nat) u,vs[j]?=some u->w.cell? ⟨b,j,none⟩=some u/\u.oneCell'=true)/\∀ (j:Nat) u x,vs[j]?=some u->cs[j]?=some x->kZ w D β u x:=by
 rcases h with h | ⟨b',vs,T,h1,h2,h3,h4,_⟩
 ·rw[(h.cells hm).1] at hb;cases hb
 ·obtain rfl:b'=b:=by rw[h1] at hb;injection hb
  refine ⟨vs.toList.take cs.length,by simp;omega,λj u hu=>?_,λj u x hu hx=>?_⟩
  ·have hj:j<cs.length:=by
    rcases Nat.lt_or_ge j cs.length with hj | hj
    ·exact hj
    ·rw[getElem?_eq_none (by simp;omega)] at hu;cases hu
   obtain ⟨u',e1,e2,_⟩:=h4 j _ (getElem?_eq_getElem hj)
   rw[getElem?_take_of_lt hj,Array.getElem?_toList,e1] at hu
   injection hu with hu
   subst hu
   exact ⟨by rw[cell_of_row w b' j vs T (0,0) h2];exact e1,e2⟩
  ·have hj:j<cs.length:=(List.getElem?_eq_some_iff.1 hx).1
   obtain ⟨u',e1,_,e3⟩:=h4 j _ hx
   rw[getElem?_take_of_lt hj,Array.getElem?_toList,e1] at hu
   injection hu with hu
   subst hu
   exact e3
theorem repS_agg{w:World}{D:kV}{β:kX}{l:List SV}{vs:List Value}(hl:vs.length=l.length)(h1:∀ v∈vs,v.oneCell'=true)(hr:∀ (i:Nat) v x,vs[i]?=some v->l[i]?=some x->kZ w D β v x):kZ w D β (.agg vs.toArray) (gF true l):=by
 unfold gF
 cases h:unD l with
 |none=>trivial
 |some ds=>
  have hd:=unD_spec h
  subst hd
  refine uS.agg vs (by simpa using hl) h1 λi v d hv hd=>?_
  exact hr i v (.d d) hv (by simp [hd])
theorem oC{T:TypeId}{x:Operand}{k off sz:Nat}{agg:Bool}{cs:List SV}(ho:o.op=.load T x)(hx:ev S x=.ref k off)(hs:qD P T=some (agg,sz))(h1:agg=false->sz=1)(hl:off+sz<=cs.length)(hm:yC cs=false) :
  uP P o S [(k,cs)] (gF agg ((cs.drop off).take sz)) :=
 uP.same λa w D β hop hrd=>by
  have hp:=hop x (by simp [ho,Op.operands])
  rw[hx] at hp
  obtain ⟨b,hb,hv⟩:=hp
  obtain ⟨vs,e1,e2,e3⟩:=blk_cells (hrd (k,cs) (by simp)) hb hm
  dsimp only at e1 e2 e3
  have hun:(execOp a.eval o)=(do pure (.value (<- loadVar T ⟨b,off,none⟩))):=by simp [execOp,ho,hv,Instr.loadAt,Instr.sureAddr]
  rw[hun]
  cases agg with
  |true=>
   refine ⟨.agg ((vs.drop off).take sz).toArray,?_,repS_agg (by simp;omega) (λv hv=>?_) (λi v y hv hy=>?_)⟩
   ·rw[Sem.run_bind,eW hs w _ ((vs.drop off).take sz) (by simp;omega) (λj u hu=>?_)]
    ·rfl
    ·have hj:j<sz:=by
      have:=(List.getElem?_eq_some_iff.1 hu).1
      simp at this;omega
     rw[getElem?_take_of_lt hj,getElem?_drop] at hu
     rw[Addr.add_lit]
     exact (e2 _ _ hu).1
   ·have hm:=mem_of_mem_drop (mem_of_mem_take hv)
    obtain ⟨j,hj⟩:=getElem?_of_mem hm
    exact (e2 j v hj).2
   ·have hj:i<sz:=by
     have:=(List.getElem?_eq_some_iff.1 hv).1
     simp at this;omega
    rw[getElem?_take_of_lt hj,getElem?_drop] at hv hy
    exact e3 _ _ _ hv hy
  |false=>
   obtain rfl:=h1 rfl
   have hlt:off<cs.length:=by omega
   have hlt':off<vs.length:=by omega
   have hu:vs[off]?=some vs[off]:=getElem?_eq_getElem hlt'
   have hy:cs[off]?=some cs[off]:=getElem?_eq_getElem hlt
   refine ⟨vs[off],by rw[Sem.run_bind,eX hs w _ (e2 _ _ hu).1];rfl,?_⟩
   have:(cs.drop off).take 1=[cs[off]]:=by
    rw[drop_eq_getElem_cons hlt];rfl
   rw[this]
   exact e3 _ _ _ hu hy
theorem rep_cptr{w:World}{D:kV}{v:Value}{t:TypeId}{cs:List jY}{off:Nat}(h:uS w D v (.cptr t cs off)) :
  ∃ g p,v=.pointer (some ⟨g,p+off,none⟩)/\∃ vs:List Value,vs.length=cs.length/\(∀ (j:Nat) u,vs[j]?=some u->w.cell? ⟨g,p+j,none⟩=some u/\u.oneCell'=true)/\(∀ i,i<cs.length->D t g (p+i)) /\
   ∀ (j:Nat) u x,vs[j]?=some u->cs[j]?=some x->uS w D u x:=by
 cases h with
 |cptr g p u hD hu h1 hr=>
  have key:∀ (j:Nat) x,((range cs.length).map u)[j]?=some x->j<cs.length/\x=u j:=λj x hx=>by
   have hj:j<cs.length:=by simpa using (List.getElem?_eq_some_iff.1 hx).1
   rw[getElem?_map,getElem?_range hj] at hx
   injection hx with hx
   exact ⟨hj,hx.symm⟩
  refine ⟨g,p,rfl,(range cs.length).map u,by simp,λj x hx=>?_,hD,λj x y hx hy=>?_⟩
  ·obtain ⟨hj,rfl⟩:=key j x hx
   exact ⟨hu j hj,h1 j hj⟩
  ·obtain ⟨hj,rfl⟩:=key j x hx
   exact hr j y hy
theorem e_load_cptr{T t:TypeId}{x:Operand}{off sz:Nat}{agg:Bool}{cs:List jY}(ho:o.op=.load T x)(hx:ev S x=.d (.cptr t cs off))(hs:qD P T=some (agg,sz))(h1:agg=false->sz=1)(hl:off+sz<=cs.length) :
  uP P o S [] (gF agg (((cs.drop off).take sz).map .d)) :=
 uP.same λa w D β hop _=>by
  have hp:=hop x (by simp [ho,Op.operands])
  rw[hx] at hp
  obtain ⟨g,p,hv,vs,e1,e2,_,e3⟩:=rep_cptr hp
  have hun:(execOp a.eval o)=(do pure (.value (<- loadVar T ⟨g,p+off,none⟩))):=by simp [execOp,ho,hv,Instr.loadAt,Instr.sureAddr]
  rw[hun]
  cases agg with
  |true=>
   refine ⟨.agg ((vs.drop off).take sz).toArray,?_,repS_agg (by simp;omega) (λv hv=>?_) (λi v y hv hy=>?_)⟩
   ·rw[Sem.run_bind,eW hs w _ ((vs.drop off).take sz) (by simp;omega) (λj u hu=>?_)]
    ·rfl
    ·have hj:j<sz:=by
      have:=(List.getElem?_eq_some_iff.1 hu).1
      simp at this;omega
     rw[getElem?_take_of_lt hj,getElem?_drop] at hu
     rw[Addr.add_lit,Nat.add_assoc]
     exact (e2 _ _ hu).1
   ·have hm:=mem_of_mem_drop (mem_of_mem_take hv)
    obtain ⟨j,hj⟩:=getElem?_of_mem hm
    exact (e2 j v hj).2
   ·have hj:i<sz:=by
     have:=(List.getElem?_eq_some_iff.1 hv).1
     simp at this;omega
    rw[getElem?_map,Option.map_eq_some_iff] at hy
    obtain ⟨z,hz,rfl⟩:=hy
    rw[getElem?_take_of_lt hj,getElem?_drop] at hv hz
    exact e3 _ _ _ hv hz
  |false=>
   obtain rfl:=h1 rfl
   have hlt:off<cs.length:=by omega
   have hlt':off<vs.length:=by omega
   have hu:vs[off]?=some vs[off]:=getElem?_eq_getElem hlt'
   have hy:cs[off]?=some cs[off]:=getElem?_eq_getElem hlt
   refine ⟨vs[off],by rw[Sem.run_bind,eX hs w _ (e2 _ _ hu).1];rfl,?_⟩
   have:((cs.drop off).take 1).map SV.d=[.d cs[off]]:=by
    rw[drop_eq_getElem_cons hlt];rfl
   rw[this]
   exact e3 _ _ _ hu hy
end
section
variable {P:Program} {o:Oper} {S:Nat->SV}
def uX(P:Program)(T:TypeId)(f:Nat):Option Nat :=
 match P.underlying T with
 |some (.struct fs)=>match fs[f]? with
  |some fl=>match P.info? fl.type with
   |some i=>if i.size=0 then none else some fl.offset
   |none=>none
  |none=>none
 |_=>none
def uU(P:Program)(T:TypeId):Option (TypeId × Nat) :=
 match P.underlying T with
 |some (.slice E)=>(P.info? E).map λi=>(E,i.size)
 |_=>none
def arrB(P:Program)(T:TypeId):Option (Nat × TypeId × Nat) :=
 match P.underlying T with
 |some (.array n E)=>(P.info? E).map λi=>(n,E,i.size)
 |_=>none
def intB(P:Program)(T:TypeId):Option IntKind :=
 match P.underlying T with
 |some (.int k)=>some k
 |_=>none
theorem field_of{T:TypeId}{f off:Nat}(h:uX P T f=some off):∃ fs fl i,P.underlying T=some (.struct fs)/\fs[f]?=some fl/\P.info? fl.type=some i/\i.size≠0/\fl.offset=off:=by
 unfold uX at h
 split at h
 ·rename_i fs hfs
  split at h
  ·rename_i fl hfl
   split at h
   ·rename_i i hi
    split at h
    ·cases h
    ·rename_i hne
     injection h with h
     exact ⟨fs,fl,i,hfs,hfl,hi,hne,h⟩
   ·cases h
  ·cases h
 ·cases h
theorem cL{T E:TypeId}{s:Nat}(h:uU P T=some (E,s)):∃ i,P.underlying T=some (.slice E)/\P.info? E=some i/\i.size=s:=by
 unfold uU at h
 split at h
 ·rename_i E' hE
  rw[Option.map_eq_some_iff] at h
  obtain ⟨i,h1,h2⟩:=h
  simp only[Prod.mk.injEq] at h2
  obtain ⟨rfl,rfl⟩:=h2
  exact ⟨i,hE,h1,rfl⟩
 ·cases h
theorem arr_of{T E:TypeId}{n s:Nat}(h:arrB P T=some (n,E,s)):∃ i,P.underlying T=some (.array n E)/\P.info? E=some i/\i.size=s:=by
 unfold arrB at h
 split at h
 ·rename_i n' E' hE
  rw[Option.map_eq_some_iff] at h
  obtain ⟨i,h1,h2⟩:=h
  simp only[Prod.mk.injEq] at h2
  obtain ⟨rfl,rfl,rfl⟩:=h2
  exact ⟨i,hE,h1,rfl⟩
 ·cases h
theorem int_of{T:TypeId}{k:IntKind}(h:intB P T=some k):P.underlying T=some (.int k):=by
 unfold intB at h
 split at h
 ·rename_i k' hk
  injection h with h
  rw[hk,h]
 ·cases h
theorem run_fieldAt{T:TypeId}{f off:Nat}(h:uX P T f=some off)(w:World)(a:Addr):(Instr.fieldAt T (.pointer (some a)) f).run P w=.ok (.pointer (some (a.add off))) w:=by
 obtain ⟨fs,fl,i,h1,h2,h3,h4,h5⟩:=field_of h
 simp [Instr.fieldAt,run_underlying h1,h2,Instr.sureAddr,fieldPlace,xM h3,h4,h5]
theorem e_fieldAddr_ref{T:TypeId}{x:Operand}{f off k p:Nat}(ho:o.op=.fieldAddr T x f)(hx:ev S x=.ref k p)(hf:uX P T f=some off):uP P o S [] (.ref k (p+off)) :=
 uP.same λa w D β hop _=>by
  have hp:=hop x (by simp [ho,Op.operands])
  rw[hx] at hp
  obtain ⟨b,hb,hv⟩:=hp
  exact ⟨.pointer (some ⟨b,p+off,none⟩),by simp [execOp,ho,hv,run_fieldAt hf,Addr.add_lit],b,hb,rfl⟩
theorem e_fieldAddr_cptr{T t:TypeId}{x:Operand}{f off p:Nat}{cs:List jY}(ho:o.op=.fieldAddr T x f)(hx:ev S x=.d (.cptr t cs p))(hf:uX P T f=some off):uP P o S [] (.d (.cptr t cs (p+off))) :=
 uP.same λa w D β hop _=>by
  have hp:=hop x (by simp [ho,Op.operands])
  rw[hx] at hp
  generalize hvv:a.eval x=v at hp
  cases hp with
  |cptr g q u hD hu h1 hr=>
   exact ⟨.pointer (some ⟨g,q+(p+off),none⟩),by simp [execOp,ho,hvv,run_fieldAt hf,Addr.add_lit,Nat.add_assoc],uS.cptr g q u hD hu h1 hr⟩
theorem run_indexAt_sl{T E:TypeId}{s:Nat}(h:uU P T=some (E,s))(w:World)(a:Addr)(n cap:Nat)(k:IntKind)(i:Int)(h0:0<=i)(h1:i<n) :
  (Instr.indexAt T (.slice (some a) n cap) (.int k i)).run P w=.ok (.pointer (some (a.add (i.toNat*s)))) w:=by
 obtain ⟨j,e1,e2,e3⟩:=cL h
 simp [Instr.indexAt,run_underlying e1,asIntOf,h0,h1,xM e2,e3]
theorem run_indexAt_arr{T E:TypeId}{n s:Nat}(h:arrB P T=some (n,E,s))(w:World)(a:Addr)(k:IntKind)(i:Int)(h0:0<=i)(h1:i<n) :
  (Instr.indexAt T (.pointer (some a)) (.int k i)).run P w=.ok (.pointer (some (a.add (i.toNat*s)))) w:=by
 obtain ⟨j,e1,e2,e3⟩:=arr_of h
 simp [Instr.indexAt,run_underlying e1,asIntOf,Instr.sureAddr,h0,h1,xM e2,e3]
theorem e_index_sl{T E t:TypeId}{x ix:Operand}{s:Nat}{es:List jY}{k:IntKind}{i:Int}{e:jY}(ho:o.op=.indexAddr T x ix)(hT:uU P T=some (E,s))(hx:ev S x=.d (.sl t s es))(hi:ev S ix=.d (.val (.int k i)))
  (h0:0<=i) (he:es[i.toNat]?=some e):uP P o S [] (.d (.cptr t e.cells 0)) :=
 uP.same λa w D β hop _=>by
  have hp:=hop x (by simp [ho,Op.operands])
  have hq:=hop ix (by simp [ho,Op.operands])
  rw[hx] at hp
  rw[hi] at hq
  have hiv:=vA hq
  have hlt:i.toNat<es.length:=(List.getElem?_eq_some_iff.1 he).1
  generalize hvv:a.eval x=v at hp
  cases hp with
  |sl g off u hn hc hm hs ha hD hu h1 hr=>
   rename_i ad n cap
   have hse:=hs e (mem_of_getElem? he)
   have had:=ha (by omega)
   subst had
   have hfl:=vQ hs
   have hle:i.toNat*s+s<=(qK es).length:=by
    rw[hfl]
    have:=Nat.mul_le_mul_right s (show i.toNat+1<=es.length by omega)
    rw[Nat.add_mul] at this;omega
   refine ⟨.pointer (some ⟨g,(off+i.toNat*s)+0,none⟩),?_,uS.cptr (cs:=e.cells) g (off+i.toNat*s) (λj=>u (i.toNat*s+j)) (λj hj=>?_) (λj hj=>?_) (λj hj=>?_) (λj d hd=>?_)⟩
   ·simp [execOp,ho,hvv,hiv,run_indexAt_sl hT w ⟨g,off,none⟩ n cap k i h0 (by omega),Addr.add_lit]
   ·rw[Nat.add_assoc];exact hD _ (by omega)
   ·rw[Nat.add_assoc];exact hu _ (by omega)
   ·exact h1 _ (by omega)
   ·have hj:j<s:=by have:=(List.getElem?_eq_some_iff.1 hd).1;omega
    exact hr _ _ ((flat_get hs he hj).trans hd)
theorem e_index_own{T E t:TypeId}{x ix:Operand}{s b n:Nat}{k:IntKind}{i:Int}(ho:o.op=.indexAddr T x ix)(hT:uU P T=some (E,s))(hx:ev S x=.own b t s n)(hi:ev S ix=.d (.val (.int k i)))
  (h0:0<=i) (h1:i<n):uP P o S [] (.ref b (i.toNat*s)) :=
 uP.same λa w D β hop _=>by
  have hp:=hop x (by simp [ho,Op.operands])
  have hq:=hop ix (by simp [ho,Op.operands])
  rw[hx] at hp
  rw[hi] at hq
  have hiv:=vA hq
  rcases hp with ⟨_,h3,_⟩ | ⟨c,cap,vs,e1,e2,_⟩
  ·omega
  ·exact ⟨.pointer (some ⟨c,i.toNat*s,none⟩),by simp [execOp,ho,e2,hiv,run_indexAt_sl hT w ⟨c,0,none⟩ n cap k i h0 h1,Addr.add_lit],c,e1,rfl⟩
theorem e_index_aref{T E:TypeId}{x ix:Operand}{s b n p:Nat}{k:IntKind}{i:Int}(ho:o.op=.indexAddr T x ix)(hT:arrB P T=some (n,E,s))(hx:ev S x=.ref b p)(hi:ev S ix=.d (.val (.int k i)))
  (h0:0<=i) (h1:i<n):uP P o S [] (.ref b (p+i.toNat*s)) :=
 uP.same λa w D β hop _=>by
  have hp:=hop x (by simp [ho,Op.operands])
  have hq:=hop ix (by simp [ho,Op.operands])
  rw[hx] at hp
  rw[hi] at hq
  have hiv:=vA hq
  obtain ⟨c,e1,e2⟩:=hp
  exact ⟨.pointer (some ⟨c,p+i.toNat*s,none⟩),by simp [execOp,ho,e2,hiv,run_indexAt_arr hT w ⟨c,p,none⟩ k i h0 h1,Addr.add_lit],c,e1,rfl⟩
theorem e_len_sl{T E t:TypeId}{x:Operand}{s:Nat}{es:List jY}(ho:o.op=.call { callee:=.builtin .len,args:=#[x],argTypes:=#[T] })(hT:uU P T=some (E,s))(hx:ev S x=.d (.sl t s es)):uP P o S [] (.d (.val (.int .i64 es.length))) :=
 uP.same λa w D β hop _=>by
  have hp:=hop x (by simp [ho,Op.operands,Call.operands])
  rw[hx] at hp
  obtain ⟨i,e1,e2,e3⟩:=cL hT
  generalize hvv:a.eval x=v at hp
  cases hp with
  |sl g off u hn hc hm hs ha hD hu h1 hr=>
   subst hn
   exact ⟨.int .i64 es.length,by simp [execOp,ho,resolve,invoke,builtin,hvv,Builtin.len_,run_underlying e1,goInt],.val _⟩
theorem e_len_own{T E t:TypeId}{x:Operand}{s k n:Nat}(ho:o.op=.call { callee:=.builtin .len,args:=#[x],argTypes:=#[T] })(hT:uU P T=some (E,s))(hx:ev S x=.own k t s n):uP P o S [] (.d (.val (.int .i64 n))) :=
 uP.same λa w D β hop _=>by
  have hp:=hop x (by simp [ho,Op.operands,Call.operands])
  rw[hx] at hp
  obtain ⟨i,e1,e2,e3⟩:=cL hT
  have:∃ q cap,a.eval x=.slice q n cap:=by
   rcases hp with ⟨_,h3,h4⟩ | ⟨c,cap,vs,_,h4,_⟩
   ·subst h3;exact ⟨_,_,h4⟩
   ·exact ⟨_,_,h4⟩
  obtain ⟨q,cap,hv⟩:=this
  exact ⟨.int .i64 n,by simp [execOp,ho,resolve,invoke,builtin,hv,Builtin.len_,run_underlying e1,goInt],.val _⟩
theorem e_not{T:TypeId}{x:Operand}{b:Bool}(ho:o.op=.unOp .not T x)(hx:ev S x=.d (.val (.bool b))):uP P o S [] (.d (.val (.bool !b))) :=
 uP.same λa w D β hop _=>by
  have hp:=hop x (by simp [ho,Op.operands])
  rw[hx] at hp
  have hv:=vA hp
  exact ⟨.bool !b,by simp [execOp,ho,hv,Op.unary],.val _⟩
theorem e_neg{T:TypeId}{x:Operand}{k:IntKind}{n r:Int}(ho:o.op=.unOp .neg T x)(hx:ev S x=.d (.val (.int k n)))(hr:k.wrap (0-n)=r):uP P o S [] (.d (.val (.int k r))) :=
 uP.same λa w D β hop _=>by
  have hp:=hop x (by simp [ho,Op.operands])
  rw[hx] at hp
  have hv:=vA hp
  exact ⟨.int k r,by simp only[execOp,ho,hv,Op.unary,Op.intArith];rw[hr];rfl,.val _⟩
theorem ints2{a:Act}{w:World}{D:kV}{β:kX}{x y:Operand}{op:BinOp}{T T':TypeId}{u v:Value}(ho:o.op=.binOp op T x y T')(hop:Opnds w D β a o S)(hx:ev S x=.d (.val u))(hy:ev S y=.d (.val v)):a.eval x=u/\a.eval y=v:=by
 have h1:=hop x (by simp [ho,Op.operands])
 have h2:=hop y (by simp [ho,Op.operands])
 rw[hx] at h1
 rw[hy] at h2
 exact ⟨vA h1,vA h2⟩
theorem aP{op:BinOp}{T T':TypeId}{x y:Operand}{u v r:Value}(ho:o.op=.binOp op T x y T')(hx:ev S x=.d (.val u))(hy:ev S y=.d (.val v))(hg:eqGuard op T x y u v=pure ())(hr:∀ w,(binOp op T u v).run P w=.ok r w):uP P o S [] (.d (.val r)) :=
 uP.same λa w D β hop _=>by
  obtain ⟨h1,h2⟩:=ints2 ho hop hx hy
  exact ⟨r,by simp [execOp,ho,h1,h2,hg,hr],.val _⟩
section ints
variable {T T':TypeId} {x y:Operand} {k:IntKind} {m n r:Int}
theorem e_add(ho:o.op=.binOp .add T x y T')(hx:ev S x=.d (.val (.int k m)))(hy:ev S y=.d (.val (.int k n)))(hr:k.wrap (m+n)=r):uP P o S [] (.d (.val (.int k r))) :=
 aP ho hx hy rfl λw=>by subst hr;simp [binOp,Op.intArith]
theorem e_sub(ho:o.op=.binOp .sub T x y T')(hx:ev S x=.d (.val (.int k m)))(hy:ev S y=.d (.val (.int k n)))(hr:k.wrap (m-n)=r):uP P o S [] (.d (.val (.int k r))) :=
 aP ho hx hy rfl λw=>by subst hr;simp [binOp,Op.intArith]
theorem e_mul(ho:o.op=.binOp .mul T x y T')(hx:ev S x=.d (.val (.int k m)))(hy:ev S y=.d (.val (.int k n)))(hr:k.wrap (m*n)=r):uP P o S [] (.d (.val (.int k r))) :=
 aP ho hx hy rfl λw=>by subst hr;simp [binOp,Op.intArith]
theorem e_quo(ho:o.op=.binOp .quo T x y T')(hx:ev S x=.d (.val (.int k m)))(hy:ev S y=.d (.val (.int k n)))(h0:n≠0)(hr:k.wrap (m.tdiv n)=r):uP P o S [] (.d (.val (.int k r))) :=
 aP ho hx hy rfl λw=>by subst hr;simp [binOp,Op.intDiv,h0]
theorem e_rem(ho:o.op=.binOp .rem T x y T')(hx:ev S x=.d (.val (.int k m)))(hy:ev S y=.d (.val (.int k n)))(h0:n≠0)(hr:m.tmod n=r):uP P o S [] (.d (.val (.int k r))) :=
 aP ho hx hy rfl λw=>by subst hr;simp [binOp,Op.intDiv,h0]
theorem e_eql(ho:o.op=.binOp .eql T x y T')(hx:ev S x=.d (.val (.int k m)))(hy:ev S y=.d (.val (.int k n))):uP P o S [] (.d (.val (.bool (m == n)))) :=
 aP ho hx hy (by simp [eqGuard]) λw=>by simp [binOp,Op.intCmp]
theorem e_neq(ho:o.op=.binOp .neq T x y T')(hx:ev S x=.d (.val (.int k m)))(hy:ev S y=.d (.val (.int k n))):uP P o S [] (.d (.val (.bool (m != n)))) :=
 aP ho hx hy (by simp [eqGuard]) λw=>by simp [binOp,Op.intCmp]
theorem e_lss(ho:o.op=.binOp .lss T x y T')(hx:ev S x=.d (.val (.int k m)))(hy:ev S y=.d (.val (.int k n))):uP P o S [] (.d (.val (.bool (decide (m<n))))) :=
 aP ho hx hy rfl λw=>by simp [binOp,Op.intCmp]
theorem e_leq(ho:o.op=.binOp .leq T x y T')(hx:ev S x=.d (.val (.int k m)))(hy:ev S y=.d (.val (.int k n))):uP P o S [] (.d (.val (.bool (decide (m<=n))))) :=
 aP ho hx hy rfl λw=>by simp [binOp,Op.intCmp]
theorem e_gtr(ho:o.op=.binOp .gtr T x y T')(hx:ev S x=.d (.val (.int k m)))(hy:ev S y=.d (.val (.int k n))):uP P o S [] (.d (.val (.bool (decide (n<m))))) :=
 aP ho hx hy rfl λw=>by simp [binOp,Op.intCmp]
theorem e_geq(ho:o.op=.binOp .geq T x y T')(hx:ev S x=.d (.val (.int k m)))(hy:ev S y=.d (.val (.int k n))):uP P o S [] (.d (.val (.bool (decide (n<=m))))) :=
 aP ho hx hy rfl λw=>by simp [binOp,Op.intCmp]
end ints
def boolB(P:Program)(T:TypeId):Bool :=
 match P.underlying T with
 |some .bool=>true
 |_=>false
theorem bool_of{T:TypeId}(h:boolB P T=true):P.underlying T=some .bool:=by
 unfold boolB at h
 split at h
 ·assumption
 ·cases h
theorem run_equal_bool{T:TypeId}(hT:boolB P T=true)(p q:Bool)(w:World):(Op.equal T (.bool p) (.bool q)).run P w=.ok (p == q) w:=by
 have hd:=bool_of hT
 have:∀ d:Nat,(Op.equalIn (d+1) T (.bool p) (.bool q)).run P w=.ok (p == q) w:=λd=>by
  simp [Op.equalIn,run_underlying hd]
 exact this 9999
theorem e_eqlb{T T':TypeId}{x y:Operand}{p q:Bool}(ho:o.op=.binOp .eql T x y T')(hT:boolB P T=true)(hx:ev S x=.d (.val (.bool p)))(hy:ev S y=.d (.val (.bool q))):uP P o S [] (.d (.val (.bool (p == q)))) :=
 aP ho hx hy (by simp [eqGuard]) λw=>by simp [binOp,run_equal_bool hT]
theorem e_neqb{T T':TypeId}{x y:Operand}{p q:Bool}(ho:o.op=.binOp .neq T x y T')(hT:boolB P T=true)(hx:ev S x=.d (.val (.bool p)))(hy:ev S y=.d (.val (.bool q))):uP P o S [] (.d (.val (.bool (!(p == q))))) :=
 aP ho hx hy (by simp [eqGuard]) λw=>by simp [binOp,run_equal_bool hT]
theorem e_conv{src dst:TypeId}{x:Operand}{k l:IntKind}{n r:Int}(ho:o.op=.convert src dst x)(hs:(P.underlying src).isSome=true)(hd:intB P dst=some l)(hx:ev S x=.d (.val (.int k n)))(hr:l.wrap n=r):uP P o S [] (.d (.val (.int l r))) :=
 uP.same λa w D β hop _=>by
  have hp:=hop x (by simp [ho,Op.operands])
  rw[hx] at hp
  have hv:=vA hp
  obtain ⟨d,hd'⟩:=Option.isSome_iff_exists.mp hs
  refine ⟨.int l r,?_,.val _⟩
  subst hr
  simp [execOp,ho,hv,convert,run_underlying hd',run_underlying (int_of hd),Conv.intToInt]
theorem e_max{T T':TypeId}{x y:Operand}{k:IntKind}{m n:Int}(ho:o.op=.call { callee:=.builtin .max,args:=#[x,y],argTypes:=#[T,T'] })(hx:ev S x=.d (.val (.int k m)))(hy:ev S y=.d (.val (.int k n))):uP P o S [] (.d (.val (.int k (if m<n then n else m)))) :=
 uP.same λa w D β hop _=>by
  have h1:=hop x (by simp [ho,Op.operands,Call.operands])
  have h2:=hop y (by simp [ho,Op.operands,Call.operands])
  rw[hx] at h1
  rw[hy] at h2
  have e1:=vA h1
  have e2:=vA h2
  exact ⟨_,by simp [execOp,ho,resolve,invoke,builtin,e1,e2,Builtin.max_,Builtin.max2],.val _⟩
theorem e_min{T T':TypeId}{x y:Operand}{k:IntKind}{m n:Int}(ho:o.op=.call { callee:=.builtin .min,args:=#[x,y],argTypes:=#[T,T'] })(hx:ev S x=.d (.val (.int k m)))(hy:ev S y=.d (.val (.int k n))):uP P o S [] (.d (.val (.int k (if n<m then n else m)))) :=
 uP.same λa w D β hop _=>by
  have h1:=hop x (by simp [ho,Op.operands,Call.operands])
  have h2:=hop y (by simp [ho,Op.operands,Call.operands])
  rw[hx] at h1
  rw[hy] at h2
  have e1:=vA h1
  have e2:=vA h2
  exact ⟨_,by simp [execOp,ho,resolve,invoke,builtin,e1,e2,Builtin.min_,Builtin.min2],.val _⟩
theorem rep_agg{w:World}{D:kV}{v:Value}{cs:List jY}(h:uS w D v (.agg cs)) :
  ∃ vs:List Value,v=.agg vs.toArray/\vs.length=cs.length/\(∀ v∈vs,v.oneCell'=true)/\∀ (i:Nat) v d,vs[i]?=some v->cs[i]?=some d->uS w D v d:=by
 cases h with
 |agg vs hl h1 hr=>exact ⟨vs,rfl,hl,h1,hr⟩
theorem rep_tup{w:World}{D:kV}{v:Value}{cs:List jY}(h:uS w D v (.tup cs)) :
  ∃ vs:List Value,v=.tuple vs.toArray/\vs.length=cs.length/\∀ (i:Nat) v d,vs[i]?=some v->cs[i]?=some d->uS w D v d:=by
 cases h with
 |tup vs hl hr=>exact ⟨vs,rfl,hl,hr⟩
theorem e_extract{x:Operand}{i:Nat}{ds:List jY}{d:jY}(ho:o.op=.extract x i)(hx:ev S x=.d (.tup ds))(hd:ds[i]?=some d):uP P o S [] (.d d) :=
 uP.same λa w D β hop _=>by
  have hp:=hop x (by simp [ho,Op.operands])
  rw[hx] at hp
  obtain ⟨vs,hv,hl,hr⟩:=rep_tup hp
  have hi:i<vs.length:=by rw[hl];exact (List.getElem?_eq_some_iff.1 hd).1
  exact ⟨vs[i],by simp [execOp,ho,hv,Instr.extract,getElem?_eq_getElem hi],hr i _ _ (getElem?_eq_getElem hi) hd⟩
theorem run_part{t:TypeId}{agg:Bool}{sz:Nat}(hs:qD P t=some (agg,sz))(h1:agg=false->sz=1)(w:World)(D:kV){β:kX}(vs:List Value)(cs:List jY)(off:Nat)(hl:vs.length=cs.length)(eD:∀ v∈vs,v.oneCell'=true)
  (hr:∀ (i:Nat) v d,vs[i]?=some v->cs[i]?=some d->uS w D v d) (hle:off+sz<=cs.length):∃ v,(part t vs.toArray off).run P w=.ok v w/\kZ w D β v (gF agg (((cs.drop off).take sz).map .d)):=by
 obtain ⟨d,i,e1,e2,e3,e4⟩:=shape_of hs
 cases agg with
 |true=>
  refine ⟨.agg ((vs.drop off).take sz).toArray,?_,repS_agg (by simp;omega) (λv hv=>eD v (mem_of_mem_drop (mem_of_mem_take hv))) (λj v y hv hy=>?_)⟩
  ·simp only[part,Sem.run_bind,iE e1,e3,Result.andThen_ok,if_true,xM e2,e4,Sem.run_pure]
   congr 2
   simp [extract_eq_take_drop]
  ·have hj:j<sz:=by
    have:=(List.getElem?_eq_some_iff.1 hv).1
    simp at this;omega
   rw[getElem?_map,Option.map_eq_some_iff] at hy
   obtain ⟨z,hz,rfl⟩:=hy
   rw[getElem?_take_of_lt hj,getElem?_drop] at hv hz
   exact hr _ _ _ hv hz
 |false=>
  obtain rfl:=h1 rfl
  have hlt:off<cs.length:=by omega
  have hlt':off<vs.length:=by omega
  refine ⟨vs[off],by simp [part,iE e1,e3,getElem?_eq_getElem hlt'],?_⟩
  have:((cs.drop off).take 1).map SV.d=[.d cs[off]]:=by
   rw[drop_eq_getElem_cons hlt];rfl
  rw[this]
  exact hr _ _ _ (getElem?_eq_getElem hlt') (getElem?_eq_getElem hlt)
def lM(P:Program)(T:TypeId)(f:Nat):Option (Nat × TypeId) :=
 match P.underlying T with
 |some (.struct fs)=>(fs[f]?).map λfl=>(fl.offset,fl.type)
 |_=>none
theorem fieldT_of{T t:TypeId}{f off:Nat}(h:lM P T f=some (off,t)):∃ fs fl,P.underlying T=some (.struct fs)/\fs[f]?=some fl/\fl.offset=off/\fl.type=t:=by
 unfold lM at h
 split at h
 ·rename_i fs hfs
  rw[Option.map_eq_some_iff] at h
  obtain ⟨fl,h1,h2⟩:=h
  simp only[Prod.mk.injEq] at h2
  exact ⟨fs,fl,hfs,h1,h2.1,h2.2⟩
 ·cases h
theorem e_field{T t:TypeId}{x:Operand}{f off sz:Nat}{agg:Bool}{cs:List jY}(ho:o.op=.field T x f)(hx:ev S x=.d (.agg cs))(hf:lM P T f=some (off,t))(hs:qD P t=some (agg,sz))(h1:agg=false->sz=1)(hle:off+sz<=cs.length) :
  uP P o S [] (gF agg (((cs.drop off).take sz).map .d)) :=
 uP.same λa w D β hop _=>by
  have hp:=hop x (by simp [ho,Op.operands])
  rw[hx] at hp
  obtain ⟨vs,hv,hl,eD,hr⟩:=rep_agg hp
  obtain ⟨fs,fl,e1,e2,e3,e4⟩:=fieldT_of hf
  subst e3;subst e4
  obtain ⟨v,h2,h3⟩:=run_part (β:=β) hs h1 w D vs cs fl.offset hl eD hr hle
  exact ⟨v,by simp [execOp,ho,hv,Instr.field,run_underlying e1,e2,asAgg,h2],h3⟩
end
end Go.Fid
