import Derived.Test.YtmfndnlifgphjaaGreatDoorQzc
import Derived.Shelf.LaysM
import Derived.Shelf.Small.Wraps
import Derived.Shelf.Strings.Builder1
import Derived.Shelf.Strings.BuilderK
import Derived.Shelf.Strconv.Itoa3
import Derived.Shelf.Strings.Cut
import Derived.Shelf.Strings.Prefix
import Derived.Shelf.Strings.SplitShaped
import Derived.Test.YtmfndnlifgphjaaGreatDoorProg
import Derived.Maps.AppendAt
import Derived.Lib.SliceRun
import Derived.Lib.OthersKept
import Derived.Laws.Concat
import Derived.Laws.Strings3
import Derived.Laws.IdiomStrings
set_option maxHeartbeats 64000000
open Go.Proofs.YtmfndnlifgphjaaGreatDoor
namespace Go.Proofs
open Go.Shelf
namespace Go.Proofs
open Go.Shelf
def Tryz.rC:Go.Shelf.Ren:=⟨λ|169=>28|n=>n,λ|70=>60|9=>9|0=>0|72=>63|37=>61|127=>119|3=>3|5=>5|n=>n,λn=>n⟩
theorem Tryz.J6:Go.Proofs.Lays.n169 Tryz.prog Tryz.rC:={
 mixed:=az
 f169:=Tryz.func28.trans (congrArg some az)
 t0:=Tryz.underlying0
 a0:=Tryz.isAgg0
 z0:=Tryz.sizeOf0
 v0:=Tryz.zeroValue0
 t3:=Tryz.underlying3
 a3:=Tryz.isAgg3
 z3:=Tryz.sizeOf3
 v3:=Tryz.zeroValue3
 t9:=Tryz.underlying9
 a9:=Tryz.isAgg9
 z9:=Tryz.sizeOf9
 v9:=Tryz.zeroValue9
 t37:=Tryz.underlying61
 a37:=Tryz.isAgg61
 z37:=Tryz.sizeOf61
 v37:=Tryz.zeroValue61
 t70:=Tryz.underlying60
 a70:=Tryz.isAgg60
 z70:=Tryz.sizeOf60
 v70:=Tryz.zeroValue60
 t72:=Tryz.underlying63
 a72:=Tryz.isAgg63
 z72:=Tryz.sizeOf63
 v72:=Tryz.zeroValue63
 t127:=Tryz.underlying119
 a127:=Tryz.isAgg119
 z127:=Tryz.sizeOf119
 v127:=Tryz.zeroValue119 }
theorem Tryz.qF:Builder.Extra Tryz.prog Tryz.rC:={
 sizeBuilder:=az
 liesBuilder:=az
 t5:=Tryz.underlying5
 a5:=Tryz.isAgg5
 z5:=Tryz.sizeOf5
 v5:=Tryz.zeroValue5
 infoByte:=az
 cellsByte:=az
 sizeByte:=az
 neB5:=by decide }
open Go.RowKit in
theorem Tryz.Builder_String_any(B b:Nat)(l:List UInt8)(w:World)(h:Lib.IsBuilder 63 5 B b (Lib.byteCells l) w)(a:B<=w.heap.size):
 Calls Tryz.prog 28 #[.pointer (some ⟨b,0,none⟩)] w λe c=>e=.returned (.string ⟨l.toArray⟩)/\Below B w c:=Any.Builder_String_any Tryz.J6 Tryz.qF B b l w h a
def Tryz.zY:Go.Shelf.Ren:=⟨λ|103=>70|210=>131|206=>170|n=>n,λ|9=>9|4=>4|24=>69|3=>3|n=>n,λn=>n⟩
theorem Tryz.J9:Go.Proofs.Lays.n103 Tryz.prog Tryz.zY:={
 mixed:=az
 f103:=Tryz.func70.trans (congrArg some az)
 f206:=Tryz.func170.trans (congrArg some az)
 f210:=Tryz.func131.trans (congrArg some az)
 t3:=Tryz.underlying3
 a3:=Tryz.isAgg3
 z3:=Tryz.sizeOf3
 v3:=Tryz.zeroValue3
 t4:=Tryz.underlying4
 a4:=Tryz.isAgg4
 z4:=Tryz.sizeOf4
 v4:=Tryz.zeroValue4
 t9:=Tryz.underlying9
 a9:=Tryz.isAgg9
 z9:=Tryz.sizeOf9
 v9:=Tryz.zeroValue9
 t24:=Tryz.underlying69
 a24:=Tryz.isAgg69
 z24:=Tryz.sizeOf69
 v24:=Tryz.zeroValue69 }
open Go.RowKit in
theorem Tryz.strings_CutPrefix(s p:ByteArray)(w:World):
 Calls Tryz.prog 70 #[.string s,.string p] w λe a=>e=.returned (.tuple #[.string ⟨(Lib.trimPrefix s.data.toList p.data.toList).toArray⟩,.bool (Lib.hasPrefix s.data.toList p.data.toList)])/\a=w:=Any.strings_CutPrefix Tryz.J9 s p w
def Tryz.zU:Go.Shelf.Ren:=⟨λ|171=>25|243=>66|246=>126|283=>166|284=>167|285=>168|286=>169|129=>190|317=>189|318=>191|319=>192|320=>193|337=>211|338=>212|n=>n,λ|3=>3|9=>9|2=>2|4=>4|171=>192|0=>0|53=>133|37=>61|5=>5|173=>195|212=>205|51=>153|20=>20|213=>206|46=>169|232=>220|233=>221|n=>n,λ|17=>0|18=>2|19=>3|n=>n⟩
theorem Tryz.J5:Go.Proofs.Lays.n171 Tryz.prog Tryz.zU:={
 mixed:=az
 f129:=Tryz.func190.trans (congrArg some az)
 f171:=Tryz.func25.trans (congrArg some az)
 f243:=Tryz.func66.trans (congrArg some az)
 f246:=Tryz.func126.trans (congrArg some az)
 f283:=Tryz.func166.trans (congrArg some az)
 f284:=Tryz.func167.trans (congrArg some az)
 f285:=Tryz.func168.trans (congrArg some az)
 f286:=Tryz.func169.trans (congrArg some az)
 f317:=Tryz.func189.trans (congrArg some az)
 f318:=Tryz.func191.trans (congrArg some az)
 f319:=Tryz.func192.trans (congrArg some az)
 f320:=Tryz.func193.trans (congrArg some az)
 f337:=Tryz.func211.trans (congrArg some az)
 f338:=Tryz.func212.trans (congrArg some az)
 t0:=Tryz.underlying0
 a0:=Tryz.isAgg0
 z0:=Tryz.sizeOf0
 v0:=Tryz.zeroValue0
 t2:=Tryz.underlying2
 a2:=Tryz.isAgg2
 z2:=Tryz.sizeOf2
 v2:=Tryz.zeroValue2
 t3:=Tryz.underlying3
 a3:=Tryz.isAgg3
 z3:=Tryz.sizeOf3
 v3:=Tryz.zeroValue3
 t4:=Tryz.underlying4
 a4:=Tryz.isAgg4
 z4:=Tryz.sizeOf4
 v4:=Tryz.zeroValue4
 t5:=Tryz.underlying5
 a5:=Tryz.isAgg5
 z5:=Tryz.sizeOf5
 v5:=Tryz.zeroValue5
 t9:=Tryz.underlying9
 a9:=Tryz.isAgg9
 z9:=Tryz.sizeOf9
 v9:=Tryz.zeroValue9
 t20:=Tryz.underlying20
 a20:=Tryz.isAgg20
 z20:=Tryz.sizeOf20
 v20:=Tryz.zeroValue20
 t37:=Tryz.underlying61
 a37:=Tryz.isAgg61
 z37:=Tryz.sizeOf61
 v37:=Tryz.zeroValue61
 t46:=Tryz.underlying169
 a46:=Tryz.isAgg169
 z46:=Tryz.sizeOf169
 v46:=Tryz.zeroValue169
 t51:=Tryz.underlying153
 a51:=Tryz.isAgg153
 z51:=Tryz.sizeOf153
 v51:=Tryz.zeroValue153
 t53:=Tryz.underlying133
 a53:=Tryz.isAgg133
 z53:=Tryz.sizeOf133
 v53:=Tryz.zeroValue133
 t171:=Tryz.underlying192
 a171:=Tryz.isAgg192
 z171:=Tryz.sizeOf192
 v171:=Tryz.zeroValue192
 t173:=Tryz.underlying195
 a173:=Tryz.isAgg195
 z173:=Tryz.sizeOf195
 v173:=Tryz.zeroValue195
 t212:=Tryz.underlying205
 a212:=Tryz.isAgg205
 z212:=Tryz.sizeOf205
 v212:=Tryz.zeroValue205
 t213:=Tryz.underlying206
 a213:=Tryz.isAgg206
 z213:=Tryz.sizeOf206
 t232:=Tryz.underlying220
 a232:=Tryz.isAgg220
 z232:=Tryz.sizeOf220
 v232:=Tryz.zeroValue220
 t233:=Tryz.underlying221
 a233:=Tryz.isAgg221
 z233:=Tryz.sizeOf221
 v233:=Tryz.zeroValue221
 g17:=az
 g18:=az
 g19:=by kernel_rfl }
open Go.RowKit Go.Sort Go.Lib in
theorem Tryz.strconv_Itoa_small(i:Nat)(c:i<100)(w:World):
 Calls Tryz.prog 25 #[.int .i64 i] w λe b=>e=.returned (.string ⟨(Lib.decDigits i).toArray⟩)/\b=w:=Any.strconv_Itoa_small Tryz.J5 i c w
def Tryz.zX:Go.Shelf.Ren:=⟨λ|145=>73|220=>134|219=>174|217=>197|225=>198|224=>199|267=>200|266=>214|314=>215|n=>n,λ|9=>9|4=>4|59=>125|3=>3|5=>5|46=>169|146=>218|51=>153|n=>n,λ|1=>1|n=>n⟩
theorem Tryz.J8:Go.Proofs.Lays.n145 Tryz.prog Tryz.zX:={
 mixed:=az
 f145:=Tryz.func73.trans (congrArg some az)
 f217:=Tryz.func197.trans (congrArg some az)
 f219:=Tryz.func174.trans (congrArg some az)
 f220:=Tryz.func134.trans (congrArg some az)
 f224:=Tryz.func199.trans (congrArg some az)
 f225:=Tryz.func198.trans (congrArg some az)
 f266:=Tryz.func214.trans (congrArg some az)
 f267:=Tryz.func200.trans (congrArg some az)
 f314:=Tryz.func215.trans (congrArg some az)
 t3:=Tryz.underlying3
 a3:=Tryz.isAgg3
 z3:=Tryz.sizeOf3
 v3:=Tryz.zeroValue3
 t4:=Tryz.underlying4
 a4:=Tryz.isAgg4
 z4:=Tryz.sizeOf4
 v4:=Tryz.zeroValue4
 t5:=Tryz.underlying5
 a5:=Tryz.isAgg5
 z5:=Tryz.sizeOf5
 v5:=Tryz.zeroValue5
 t9:=Tryz.underlying9
 a9:=Tryz.isAgg9
 z9:=Tryz.sizeOf9
 v9:=Tryz.zeroValue9
 t46:=Tryz.underlying169
 a46:=Tryz.isAgg169
 z46:=Tryz.sizeOf169
 v46:=Tryz.zeroValue169
 t51:=Tryz.underlying153
 a51:=Tryz.isAgg153
 z51:=Tryz.sizeOf153
 v51:=Tryz.zeroValue153
 t59:=Tryz.underlying125
 a59:=Tryz.isAgg125
 z59:=Tryz.sizeOf125
 v59:=Tryz.zeroValue125
 t146:=Tryz.underlying218
 a146:=Tryz.isAgg218
 z146:=Tryz.sizeOf218
 v146:=Tryz.zeroValue218
 g1:=by kernel_rfl }
open Go.RowKit Go.Lib in
theorem Tryz.strings_Cut(s a:ByteArray)(m:Int)(w:World)(c:s.size<4294967281)(d:w.cell? ⟨1,0,none⟩=some (.int .i64 m)):
 Calls Tryz.prog 73 #[.string s,.string a] w λe b=>e=.returned (.tuple #[.string ⟨(Lib.cut s.data.toList a.data.toList).1.toArray⟩,.string ⟨(Lib.cut s.data.toList a.data.toList).2.1.toArray⟩,.bool (Lib.cut s.data.toList a.data.toList).2.2])/\∃n,b=w.drewN n:=Any.strings_Cut Tryz.J8 s a m w c d
def Tryz.zZ:Go.Shelf.Ren:=⟨λ|101=>69|208=>130|206=>170|n=>n,λ|9=>9|4=>4|3=>3|n=>n,λn=>n⟩
theorem Tryz.J_:Go.Proofs.Lays.n101 Tryz.prog Tryz.zZ:={
 mixed:=az
 f101:=Tryz.func69.trans (congrArg some az)
 f206:=Tryz.func170.trans (congrArg some az)
 f208:=Tryz.func130.trans (congrArg some az)
 t3:=Tryz.underlying3
 a3:=Tryz.isAgg3
 z3:=Tryz.sizeOf3
 v3:=Tryz.zeroValue3
 t4:=Tryz.underlying4
 a4:=Tryz.isAgg4
 z4:=Tryz.sizeOf4
 v4:=Tryz.zeroValue4
 t9:=Tryz.underlying9
 a9:=Tryz.isAgg9
 z9:=Tryz.sizeOf9
 v9:=Tryz.zeroValue9 }
open Go.RowKit Go.Lib in
theorem Tryz.strings_TrimPrefix(s p:ByteArray)(w:World):
 Calls Tryz.prog 69 #[.string s,.string p] w λe a=>e=.returned (.string ⟨(Lib.trimPrefix s.data.toList p.data.toList).toArray⟩)/\a=w:=Any.strings_TrimPrefix Tryz.J_ s p w
def Tryz.zV:Go.Shelf.Ren:=⟨λ|147=>71|221=>132|268=>171|138=>172|143=>173|195=>194|197=>195|218=>196|219=>174|260=>213|217=>197|225=>198|224=>199|267=>200|266=>214|314=>215|n=>n,λ|9=>9|3=>3|31=>121|4=>4|0=>0|105=>209|21=>21|5=>5|46=>169|119=>222|139=>225|138=>224|146=>218|51=>153|n=>n,λ|1=>1|3=>4|4=>5|n=>n⟩
theorem Tryz.J7:Go.Proofs.Lays.n147 Tryz.prog Tryz.zV:={
 mixed:=az
 f138:=Tryz.func172.trans (congrArg some az)
 f143:=Tryz.func173.trans (congrArg some az)
 f147:=Tryz.func71.trans (congrArg some az)
 f195:=Tryz.func194.trans (congrArg some az)
 f197:=Tryz.func195.trans (congrArg some az)
 f217:=Tryz.func197.trans (congrArg some az)
 f218:=Tryz.func196.trans (congrArg some az)
 f219:=Tryz.func174.trans (congrArg some az)
 f221:=Tryz.func132.trans (congrArg some az)
 f224:=Tryz.func199.trans (congrArg some az)
 f225:=Tryz.func198.trans (congrArg some az)
 f260:=Tryz.func213.trans (congrArg some az)
 f266:=Tryz.func214.trans (congrArg some az)
 f267:=Tryz.func200.trans (congrArg some az)
 f268:=Tryz.func171.trans (congrArg some az)
 f314:=Tryz.func215.trans (congrArg some az)
 t0:=Tryz.underlying0
 a0:=Tryz.isAgg0
 z0:=Tryz.sizeOf0
 v0:=Tryz.zeroValue0
 t3:=Tryz.underlying3
 a3:=Tryz.isAgg3
 z3:=Tryz.sizeOf3
 v3:=Tryz.zeroValue3
 t4:=Tryz.underlying4
 a4:=Tryz.isAgg4
 z4:=Tryz.sizeOf4
 v4:=Tryz.zeroValue4
 t5:=Tryz.underlying5
 a5:=Tryz.isAgg5
 z5:=Tryz.sizeOf5
 v5:=Tryz.zeroValue5
 t9:=Tryz.underlying9
 a9:=Tryz.isAgg9
 z9:=Tryz.sizeOf9
 v9:=Tryz.zeroValue9
 t21:=Tryz.underlying21
 a21:=Tryz.isAgg21
 z21:=Tryz.sizeOf21
 v21:=Tryz.zeroValue21
 t31:=Tryz.underlying121
 a31:=Tryz.isAgg121
 z31:=Tryz.sizeOf121
 v31:=Tryz.zeroValue121
 t46:=Tryz.underlying169
 a46:=Tryz.isAgg169
 z46:=Tryz.sizeOf169
 v46:=Tryz.zeroValue169
 t51:=Tryz.underlying153
 a51:=Tryz.isAgg153
 z51:=Tryz.sizeOf153
 v51:=Tryz.zeroValue153
 t105:=Tryz.underlying209
 a105:=Tryz.isAgg209
 z105:=Tryz.sizeOf209
 v105:=Tryz.zeroValue209
 t119:=Tryz.underlying222
 a119:=Tryz.isAgg222
 z119:=Tryz.sizeOf222
 t138:=Tryz.underlying224
 a138:=Tryz.isAgg224
 z138:=Tryz.sizeOf224
 v138:=Tryz.zeroValue224
 t139:=Tryz.underlying225
 a139:=Tryz.isAgg225
 z139:=Tryz.sizeOf225
 v139:=Tryz.zeroValue225
 t146:=Tryz.underlying218
 a146:=Tryz.isAgg218
 z146:=Tryz.sizeOf218
 v146:=Tryz.zeroValue218
 g1:=az
 g3:=az
 g4:=by kernel_rfl }
open Go.RowKit Go.Lib in
theorem Tryz.strings_SplitN(s a:ByteArray)(n:Nat)(m:Int)(w:World)(d:s.size<4294967281)(g:w.cell? ⟨1,0,none⟩=some (.int .i64 m))(h1:1<=a.size)(f:1<=n)(b:n<=9223372036854775807):
 Calls Tryz.prog 71 #[.string s,.string a,.int .i64 n] w λe c=>
  e=.returned (.slice (some ⟨w.heap.size,0,none⟩) (Lib.splitB a 0 (min n (s.size+1)-1) s).length (min n (s.size+1)))/\c=w.alloc (.cells (Lib.cellsOf (Lib.splitB a 0 (min n (s.size+1)-1) s) (min n (s.size+1))) 9):=Any.strings_SplitN Tryz.J7 az s a n m w d g h1 f b
end Go.Proofs
end Go.Proofs
namespace Go.cW
section
open Go Go.RowKit
section
variable {P:Program}{n:Nat}{S:World->World->Prop}{k:Nat}{K:Fr->World->Prop}{f:Fr}{w:World}
 {d ty t t2:Nat} {x y:Operand} {pos:String} {aft:Array Edge} {gd:Option (Nat×Bool)}
theorem rR(base:Nat)(t ty e:TypeId)(i:TypeInfo)(a:Nat)(h:P.underlying t=some (.slice e))(j:P.info? e=some i)
 (v:Value) (m:Nat) (xs:List Value) (b:w.ownsRow base e a v m xs) (c:Nat):(Builtin.append_ #[t,t] ty #[v,.slice none 0 c]).run P w=.ok v w:=by
 rcases b.2 with⟨rfl,rfl⟩|⟨g,cap,cur,rfl,_,_,l,_⟩
 ·simp[Builtin.append_,run_underlying h,sizeOf,typeInfo,j,Builtin.lenOf,Builtin.firstCells]
 ·simp[Builtin.append_,run_underlying h,sizeOf,typeInfo,j,Builtin.lenOf,Builtin.firstCells,l,storeCells]
theorem AQ{w w':World}{a:Option Nat}(h:w.grownBy w' a):Ch (λb=>some b=a) w w':=⟨h.os,h.tape,h.output,h.size,λb c a=>h.block b c a⟩
theorem ou{base e o p m m0 c:Nat}{z v:Value}{xs news:List Value}{A:Option Addr}(hT:dh P t e o p z)(O:z.cells.size=o)(H:0<o)
 (Z:k=2\/k=1/\∀w',Ch (λb=>some b=v.ownBlock) w w'->S w w') (V:ev n f x=v) (s:w.ownsRow base e o v m0 xs) (U:ev n f y=.slice A m c)
 (M:news.length=m*o) (B:∀j u,news[j]?=some u->∃C,A=some C/\w.cell? (C.add j)=some u) (h1:∀u∈news,u.oneCell'=true)
 (R:m0+m<=9223372036854775807) (D:(m0+m)*p<=140737488355328) (G:base<=w.heap.size)
 (h:∀g w',w'.ownsRow base e o g (m0+m) (xs++news)->Ch (λb=>some b=v.ownBlock) w w'->(g.ownBlock=v.ownBlock\/g.ownBlock=some w.heap.size)->K (cg f d g) w'):
 R1 P n S k ⟨some d,.call { callee:=.builtin .append,args:=#[x,y],argTypes:=#[t,t] },ty,pos,aft,gd⟩ K f w:=by
 have N:∃g w',(Builtin.append_ #[t,t] ty #[v,.slice A m c]).run P w=.ok g w'/\w'.ownsRow base e o g (m0+m) (xs++news)/\Ch (λb=>some b=v.ownBlock) w w'/\(g.ownBlock=v.ownBlock\/g.ownBlock=some w.heap.size):=by
  obtain⟨L,l⟩:=hT;cases hi:P.info? e with
  |none=>rw[hi]at l;simp at l
  |some i=>
   rw[hi]at l;simp at l;obtain⟨T,W,Q⟩:=l;rcases A with _|C
   ·have X:news=[]:=by
     rcases news with _|⟨u,r⟩
     ·rfl
     ·obtain⟨C,h,_⟩:=B 0 u F;cases h
    subst X;have Y:m=0:=by
     rcases Nat.eq_zero_or_pos m with J|J
     ·exact J
     ·have:=Nat.mul_pos J H;simp at M;omega
    subst Y;exact⟨v,w,rR base t ty e i o L hi v m0 xs s c,by simpa using s,Ch.refl _ _,.inl F⟩
   ·obtain⟨g,w',q,I,E,_,h5⟩:=run_append_own_at (P:=P) w base t ty e i z o p L hi T W Q O H v m0 xs s C m c news M
     (λj u b=>by obtain⟨l,e,hc⟩:=B j u b;injection e with e;subst e;exact hc) h1 (by simp only[maxLen];exact R) D G
    exact⟨g,w',q,I,AQ E,h5⟩
 obtain⟨g,w',q,I,E,b⟩:=N;refine iE (w':=w') (v:=g) (Z.imp id λh=>⟨h.1,h.2 _ E⟩) ?_ (h g w' I E b);simp only[execOp,resolve,invoke,builtin,Sem.run_bind,Sem.run_pure,Result.andThen_ok,List.map_toArray,List.map_cons,List.map_nil,V,U,q]
theorem F_{e c a:Nat}{z:Value}(j:dh P t e c a z)(c:k=2\/k=1/\∀a,Ext w a->S w a)
 (h:∀a,bg a w.heap.size e #[]->Ext w a->a.heap.size=w.heap.size+1->K (cg f d (.slice (some ⟨w.heap.size,0,none⟩) 0 0)) a):R1 P n S k ⟨some d,.buildSlice t 0 #[],ty,pos,aft,gd⟩ K f w:=by
 refine ph (T:=e) (cs:=#[]) (v:=.slice (some ⟨w.heap.size,0,none⟩) 0 0) c ?_ h;obtain⟨g,b⟩:=j;cases hi:P.info? e with
 |none=>rw[hi]at b;simp at b
 |some i=>simp[execOp,Instr.buildSlice,run_underlying g,sizeOf,typeInfo,hi,Instr.fill,newRow,Array.range];congr 2;exact Array.eq_empty_of_size_eq_zero aA
theorem Jr(xs:Array Value)(h:xs.size=1){v0:Value}:xs.setIfInBounds 0 v0=#[v0]:=by
 obtain⟨l⟩:=xs
 match l,h with
 |[_],_=>rfl
theorem dp{e c:Nat}{z v0:Value}{g:Operand}(o:dh P t e 1 c z)(l:z.oneCell'=true)(p:k=2\/k=1/\∀c,Ext w c->S w c)(q:ev n f g=v0)(j:v0.oneCell'=true)
 (h:∀c,bg c w.heap.size e #[v0]->Ext w c->c.heap.size=w.heap.size+1->K (cg f d (.slice (some ⟨w.heap.size,0,none⟩) 1 1)) c):R1 P n S k ⟨some d,.buildSlice t 1 #[(0,g)],ty,pos,aft,gd⟩ K f w:=by
 refine ph (T:=e) (cs:=#[v0]) (v:=.slice (some ⟨w.heap.size,0,none⟩) 1 1) p ?_ h;obtain⟨m,b⟩:=o;cases hi:P.info? e with
 |none=>rw[hi]at b;simp at b
 |some i=>
  rw[hi]at b;simp at b;obtain⟨g,c,h⟩:=b;simp[execOp,Instr.buildSlice,run_underlying m,sizeOf,typeInfo,hi,c,zeroValue,g,q,Instr.fill,eh j,eh l,newRow,Array.range];rw[Jr _ (by simp[c])]
theorem IW{e b a m c:Nat}{z:Value}{A:Option Addr}(g:dh P t e b a z)(a:ev n f x=.slice A m c)(h:K (cg f d (.bool A.isNone)) w):
 R1 P n S k ⟨some d,.binOp .eql t x (.const (.slice none 0 0)) t2,ty,pos,aft,gd⟩ K f w:=
 cw a F (λ_=>by simp[eqGuard,go_sem]) (λw=>Lib.run_eql_slice_nil w t e A m c 0 0 g.LZ) h
end
abbrev Tx(l:List UInt8):Value:=.string ⟨l.toArray⟩
theorem fJ(l:List UInt8):(ByteArray.mk l.toArray).size=l.length:=by simp[ByteArray.size]
theorem Gr{l:List UInt8}{j:Nat}(h:j<(ByteArray.mk l.toArray).size):(ByteArray.mk l.toArray)[j]'h=l[j]'(by rw[fJ]at h;exact h):=by
 show(ByteArray.mk l.toArray).data[j]=_;simp
def It(w:World)(k:Nat)(l:List UInt8)(pos:Nat):Prop:=w.heap[k]?=some (.stringIter ⟨l.toArray⟩ pos)
theorem It.lt{w:World}{k:Nat}{l:List UInt8}{pos:Nat}(h:It w k l pos):k<w.heap.size:=(Array.getElem?_eq_some_iff.1 h).1
theorem It.Y{w w':World}{k:Nat}{l:List UInt8}{pos:Nat}(h:It w k l pos)(a:Ext w w'):It w' k l pos:=(a.mb h.lt).trans h
theorem FK{w:World}{k:Nat}(s:ByteArray)(pos:Nat):Ch (λb=>b=k) w (w.iterAt k s pos):=
 ⟨F,F,F,by rw[Lib.iterAt_size];exact Nat.le_refl _,λb _ a=>Lib.iterAt_other w k b s pos a⟩
theorem xN{B:Nat}{b w w':World}(a:Ext b w)(c:b.heap.size<=B)(h:Below B w w'):Ext b w':=
 ⟨h.os.trans a.os,h.tape.trans a.tape,h.output.trans a.output,Nat.le_trans a.size h.size,λb c _=>(h.block b aq).trans (a.block b c id)⟩
section
variable {P:Program}{n:Nat}{S:World->World->Prop}{k:Nat}{K:Fr->World->Prop}{f:Fr}{w:World}
 {d ty t t2:Nat} {x y:Operand} {pos:String} {aft:Array Edge} {gd:Option (Nat×Bool)}
theorem Le{l:List UInt8}(a:jV P t .string)(b:ev n f x=Tx l)(h:K (cg f d (.int .i64 (l.length:Int))) w):
 R1 P n S k ⟨some d,.call { callee:=.builtin .len,args:=#[x],argTypes:=#[t] },ty,pos,aft,gd⟩ K f w:=by
 unfold jV at a;refine cH (v:=.int .i64 (l.length:Int)) (λw=>?_) h;simp only[execOp,resolve,invoke,builtin,Sem.run_bind,Sem.run_pure,Result.andThen_ok,List.map_toArray,List.map_cons,List.map_nil,b,run_len_string _ _ _ _ a,fJ,goInt]
theorem Ex{a b:List UInt8}(e:ev n f x=Tx a)(c:ev n f y=Tx b)(g:a.length+b.length<=9223372036854775807)(h:K (cg f d (Tx (a++b))) w):
 R1 P n S k ⟨some d,.binOp .add t x y t2,ty,pos,aft,gd⟩ K f w:=
 cw e c (λ_=>by simp[eqGuard,go_sem]) (λw=>by rw[binOp_string_add,run_string_add_sum w _ _ (by rw[fJ,fJ];exact g),ByteArray.mk_append_mk]) h
theorem Li{a b:List UInt8}(e:ev n f x=Tx a)(c:ev n f y=Tx b)(h:K (cg f d (.bool (decide (a=b)))) w):
 R1 P n S k ⟨some d,.binOp .eql t x y t2,ty,pos,aft,gd⟩ K f w:=
 cw e c (λ_=>by simp[eqGuard,go_sem]) (λw=>by
  rw[binOp_string_eql,ByteArray.toList_mk,ByteArray.toList_mk,show(a == b)=decide (a=b) by by_cases h:a=b<;>simp[h]];rfl) h
theorem K9{a b:List UInt8}(e:ev n f x=Tx a)(c:ev n f y=Tx b)(h:K (cg f d (.bool (decide (¬a=b)))) w):
 R1 P n S k ⟨some d,.binOp .neq t x y t2,ty,pos,aft,gd⟩ K f w:=
 cw e c (λ_=>by simp[eqGuard,go_sem]) (λw=>by
  rw[binOp_string_neq,ByteArray.toList_mk,ByteArray.toList_mk,show(!(a == b))=decide (¬a=b) by by_cases h:a=b<;>simp[h]];rfl) h
theorem kZ{l:List UInt8}{b:UInt8}{g:IntKind}{j:Nat}(o:jV P t .string)(m:ev n f x=Tx l)(i:ev n f y=.int g (j:Int))(a:l[j]?=some b)(h:K (cg f d (.int .u8 (b.toNat:Int))) w):
 R1 P n S k ⟨some d,.index t x y,ty,pos,aft,gd⟩ K f w:=
 rP o m i (by
  have e:j<l.length:=by
   rcases Nat.lt_or_ge j l.length with c|c
   ·exact c
   ·rw[List.getElem?_eq_none c]at a;cases a
  rw[ByteArray.getElem?_lt' _ _ (by rw[fJ];exact e),Gr];rw[List.getElem?_eq_getElem e]at a;exact a) h
def xY(l:List UInt8):List Value:=l.map λb=>.int .u8 (b.toNat:Int)
theorem sb(l:List UInt8):(xY l).length=l.length:=by simp[xY]
theorem tQ{l:List UInt8}{a:Addr}{m cap:Nat}(r:k≠3)(c:∃e,jV P t (.slice e)/\jV P e (.int .u8))(g:jV P t2 .string)(o:ev n f x=.slice (some a) m cap)(p:m=l.length)
 (q:∀b,S w b\/b=w->∀j (s:j<l.length),b.cell? (a.add j)=some (.int .u8 (l[j].toNat:Int))) (h:K (cg f d (Tx l)) w):
 R1 P n S k ⟨some d,.convert t t2 x,ty,pos,aft,gd⟩ K f w:=by
 obtain⟨e,c,i⟩:=c;unfold jV at c i g;subst p;refine iD (v:=Tx l) r (λb j=>?_) h;simp only[execOp,o,Sem.run_bind,run_convert_bytes_back b t t2 e a cap l c i g (q b j),Result.andThen_ok,Sem.run_pure]
theorem v_{l:List UInt8}(a:jV P t .string)(c:k=2\/k=1/\∀w',Ext w w'->S w w')(b:ev n f x=Tx l)
 (h:∀w',It w' w.heap.size l 0->Ext w w'->w'.heap.size=w.heap.size+1->K (cg f d (.pointer (some ⟨w.heap.size,0,none⟩))) w'):
 R1 P n S k ⟨some d,.range t x,ty,pos,aft,gd⟩ K f w:=by
 unfold jV at a;refine iE (w':=w.alloc (.stringIter ⟨l.toArray⟩ 0)) (v:=.pointer (some ⟨w.heap.size,0,none⟩)) (c.imp id λh=>⟨h.1,h.2 _ (nR w _)⟩) ?_ (h _ (heap_alloc_new w _) (nR w _) aA);simp only[execOp,b,Sem.run_bind,run_range_string w t _ a,Result.andThen_ok,Sem.run_pure];rfl
theorem Be{l:List UInt8}{g p:Nat}{c:UInt8}(v:k=2)(u:ev n f x=.pointer (some ⟨g,0,none⟩))(s:It w g l p)(m:l[p]?=some c)
 (h:∀j (q:Nat) (r:Int),It j g l q->Ch (λb=>b=g) w j->j.heap.size=w.heap.size->p<q->r<=2147483647->(c.toNat<128->q=p+1/\r=(c.toNat:Int))->(128<=c.toNat->128<=r)->
  K (cg f d (.tuple #[.bool true,.int .i64 (p:Int),.int .i32 r])) j):
 R1 P n S k ⟨some d,.next x true,ty,pos,aft,gd⟩ K f w:=by
 have o:p<l.length:=by
  rcases Nat.lt_or_ge p l.length with a|a
  ·exact a
  ·rw[List.getElem?_eq_none a]at m;cases m
 have i:p<(ByteArray.mk l.toArray).size:=by rw[fJ];exact o
 have e:(ByteArray.mk l.toArray)[p]'i=c:=by
  rw[Gr];rw[List.getElem?_eq_getElem o]at m;exact Option.some.inj m
 have z:=h (w.iterAt g ⟨l.toArray⟩ (p+(Utf8.decode ⟨l.toArray⟩ p).2)) (p+(Utf8.decode ⟨l.toArray⟩ p).2) (Utf8.decode ⟨l.toArray⟩ p).1 (Lib.iterAt_heap w g _ p _ s) (FK _ _) (Lib.iterAt_size _ _ _ _)
  (by
   rcases Nat.lt_or_ge c.toNat 128 with a|a
   ·rw[decode_ascii _ p i (by rw[e];exact a)];simp
   ·have:=(decode_high _ p i (by rw[e];exact a)).2;omega)
  (Int.ofNat_le.2 (decode_le _ _))
  (λa=>by rw[decode_ascii _ p i (by rw[e];exact a),e];exact⟨F,F⟩)
  (λa=>Int.ofNat_le.2 (decode_high _ p i (by rw[e];exact a)).1)
 refine iE (.inl v) ?_ z;simp only[execOp,u,Sem.run_bind,Lib.run_next_any_at w g _ p _ s i,Result.andThen_ok,Sem.run_pure]
theorem Bf{l:List UInt8}{g p:Nat}(a:ev n f x=.pointer (some ⟨g,0,none⟩))(b:k=2)(c:It w g l p)(e:l.length<=p)
 (h:K (cg f d (.tuple #[.bool false])) w):R1 P n S k ⟨some d,.next x true,ty,pos,aft,gd⟩ K f w:=by
 refine iE (w':=w) (.inl b) ?_ h;simp only[execOp,a,Sem.run_bind,Lib.run_next_end_at w g _ p _ c (by rw[fJ];omega),Result.andThen_ok,Sem.run_pure]
theorem Ns{c:Array Oper}{o:Oper}{e:List Oper}{j:Nat}{b:Bool}{t:Tmp}(h:o.guard=some (j,b))(p:(c[j]?).bind (·.dst)=some t)(l:ev n f (.tmp t)=undef)(g:Nat.blt t n=true)
 (m:Rl P n c K e (fZ f o.dst undef) w):Rl P n c K (o::e) f w:=by
 have e:want n c f o=false:=by
  have c:t<n:=by simpa using g
  have i:f t=undef:=by simpa[ev,g]using l
  simp[want,Region.wanted,h,yielded,p,act,c,i,undef]
 unfold Rl;rw[e];simpa using m
end
end
end Go.cW
namespace Go.c7
def B:Nat:=4294967296
def val:List Nat->Nat
 |[]=>0
 |x::l=>x+B*val l
def fH(l:List Nat):Prop:=∀x∈l,x<4294967296
def dz(l:List Nat):Prop:=∀h:l≠[],l.getLast h≠0
theorem jJ(l m:List Nat):val (l++m)=val l+B^l.length*val m:=by
 induction l with
 |nil=>simp[val]
 |cons x l a=>simp only[List.cons_append,val,a,List.length_cons,Nat.pow_succ];rw[Nat.mul_add,<-Nat.mul_assoc,Nat.mul_comm B (B^l.length)];omega
theorem bN(l:List Nat)(k:Nat)(h:k<l.length):val (l.take (k+1))=val (l.take k)+B^k*l.getD k 0:=by
 rw[List.take_succ_eq_append_getElem h,jJ];simp[val,List.length_take,Nat.min_eq_left (Nat.le_of_lt h),List.getD,h]
theorem g_(l:List Nat)(h:fH l):val l<B^l.length:=by
 induction l with
 |nil=>simp[val]
 |cons x l a=>
  have b:=a λy a=>h y (List.mem_cons_of_mem _ a);have a:x<B:=h x aG;simp only[val,List.length_cons,Nat.pow_succ];have:B*val l+B<=B^l.length*B:=by
   have:=Nat.mul_le_mul_left B (Nat.succ_le_of_lt b);rw[Nat.mul_succ]at this;rw[Nat.mul_comm (B^l.length) B];exact this
  omega
theorem fH.take{l:List Nat}(h:fH l)(k:Nat):fH (l.take k):=λx a=>h x (List.mem_of_mem_take a)
theorem fH.getD{l:List Nat}(h:fH l)(k:Nat):l.getD k 0<4294967296:=by
 by_cases a:k<l.length
 ·simp[List.getD,a];exact h _ (List.getElem_mem _)
 ·simp[List.getD,a]
theorem dz.nil:dz []:=λh=>absurd rfl h
theorem sl{l:List Nat}{k:Nat}(a:k<l.length)(h:l.getD k 0≠0):dz (l.take (k+1)):=by
 have b:∀m:List Nat,m=l.take k++[l[k]]->dz m:=by
  rintro m rfl c;rw[List.getLast_append_of_ne_nil _ aA];simpa[List.getD,a]using h
 exact b _ (List.take_succ_eq_append_getElem a)
theorem uv(L:List Nat)(i x:Nat)(h:i<L.length):(L.set i x).take (i+1)=L.take i++[x]:=by
 rw[List.take_succ_eq_append_getElem (by simpa using h),List.take_set_of_le (Nat.le_refl i)];simp
theorem ft(L:List Nat)(i x:Nat)(h:i<L.length):val ((L.set i x).take (i+1))=val (L.take i)+B^i*x:=by
 rw[uv L i x h,jJ];simp[val,Nat.min_eq_left (Nat.le_of_lt h)]
theorem fH.set{L:List Nat}(h:fH L){i x:Nat}(c:x<4294967296):fH (L.set i x):=by
 intro y b;rcases List.mem_or_eq_of_mem_set b with a|a
 ·exact h y a
 ·rw[a];exact c
theorem fz(n:Nat):fH (List.replicate n 0):=by
 intro x a;rw[List.eq_of_mem_replicate a];decide
theorem dK(l:List Nat):val (l.take l.length)=val l:=by rw[List.take_length]
theorem nW(p v1 c s x y:Nat)(h:v1+c*p=s):v1+p*((c+(x+y))%B)+(c+(x+y))/B*(p*B)=s+p*x+p*y:=by
 have e:=Nat.div_add_mod (c+(x+y)) B;generalize (c+(x+y))/B=q at*;generalize (c+(x+y))%B=r at*;subst h;have:p*(c+(x+y))=p*(B*q+r):=by rw[e]
 rw[Nat.mul_add,Nat.mul_add,Nat.mul_add]at this;have a:q*(p*B)=p*(B*q):=by rw[Nat.mul_comm q,Nat.mul_assoc]
 rw[a,Nat.mul_comm c p];omega
theorem oh(p v1 c s x:Nat)(h:v1+c*p=s):v1+p*((c+x)%B)+(c+x)/B*(p*B)=s+p*x:=by
 have:=nW p v1 c s x 0 h;simpa using this
theorem fP(l:List Nat)(k:Nat)(h:k<=l.length):val l=val (l.take k)+B^k*val (l.drop k):=by
 conv=>lhs;rw[<-List.take_append_drop k l]
 rw[jJ,List.length_take_of_le h]
theorem fX{l:List Nat}(h:fH l)(k:Nat):val (l.take k)<B^k:=by
 have a:=g_ _ (h.take k);refine Nat.lt_of_lt_of_le a (Nat.pow_le_pow_right aw ?_);exact List.length_take_le _ _
theorem drop_cons(l:List Nat)(k:Nat)(h:k<l.length):l.drop k=l.getD k 0::l.drop (k+1):=by
 rw[List.drop_eq_getElem_cons h];simp[List.getD,h]
theorem kQ{l:List Nat}(a:l≠[])(b:dz l):B^(l.length-1)<=val l:=by
 have c:0<l.length:=List.length_pos_iff.2 a;rw[fP l (l.length-1) aq,drop_cons l _ aq];have e:l.drop (l.length-1+1)=[]:=by rw[List.drop_eq_nil_iff];omega
 rw[e];have c:l.getD (l.length-1) 0≠0:=by
  have:=b a;rw[List.getLast_eq_getElem]at this;have a:l.length-1<l.length:=aq;simpa[List.getD,a]using this
 have:B^(l.length-1)*1<=B^(l.length-1)*val [l.getD (l.length-1) 0]:=Nat.mul_le_mul_left _ (by simp only[val];omega);omega
theorem il{e d:List Nat}(h1:fH e)(f:dz d)(h:e.length<d.length):val e<val d:=by
 have c:d≠[]:=by rintro rfl;simp at h
 have a:=g_ e h1;have b:=kQ c f;have c:B^e.length<=B^(d.length-1):=Nat.pow_le_pow_right aw aq;omega
theorem nY{b c:List Nat}(h1:fH b)(a:b.length=c.length){j:Nat}(a:j<b.length)(e:b.drop (j+1)=c.drop (j+1))(f:b.getD j 0<c.getD j 0):val b<val c:=by
 rw[fP b j aq,fP c j aq,drop_cons b j a,drop_cons c j aq,e];simp only[val];have a:=fX h1 j;generalize c.drop (j+1)=d at*;generalize b.getD j 0=x at*;generalize c.getD j 0=y at*;have:B^j*(x+B*val d)+B^j<=B^j*(y+B*val d):=by
  rw[<-Nat.mul_succ];exact Nat.mul_le_mul_left _ aq
 omega
def fl(a b:Nat):Int:=if a<b then -1 else if b<a then 1 else 0
theorem Gz(a b c:Nat)(d:a<4294967296)(d:b<4294967296)(d:c<=1):
 ((a+(18446744073709551616-c))%18446744073709551616+(18446744073709551616-b))%18446744073709551616%4294967296+b+c
  = a+4294967296*(((a+(18446744073709551616-c))%18446744073709551616+(18446744073709551616-b))%18446744073709551616/9223372036854775808)/\
 ((a+(18446744073709551616-c))%18446744073709551616+(18446744073709551616-b))%18446744073709551616/9223372036854775808<=1:=aq
theorem ER(a b:Nat)(c:a<4294967296)(c:b<=1):
 (a+(18446744073709551616-b))%18446744073709551616%4294967296+b
  = a+4294967296*((a+(18446744073709551616-b))%18446744073709551616/9223372036854775808)/\
 (a+(18446744073709551616-b))%18446744073709551616/9223372036854775808<=1:=aq
theorem sB(p d e v1 a b f x c:Nat)(h:d+e=v1+f*p)(g:x+b+f=a+B*c):d+p*x+(e+p*b)=v1+p*a+c*(p*B):=by
 have e:p*(x+b+f)=p*(a+B*c):=by rw[g]
 simp only[Nat.mul_add]at e;have e:c*(p*B)=p*(B*c):=by rw[Nat.mul_comm c,Nat.mul_assoc]
 have c:f*p=p*f:=Nat.mul_comm _ _;omega
theorem EP(p d b v1 a e x c:Nat)(h:d+b=v1+e*p)(f:x+e=a+B*c):d+p*x+b=v1+p*a+c*(p*B):=by
 have:=sB p d b v1 a 0 e x c h aq;rw[Nat.mul_zero,Nat.add_zero]at this;exact this
theorem dk(l:List Nat)(k:Nat)(h:l.length<=k):val (l.take k)=val l:=by rw[List.take_of_length_le h]
theorem pC(L:List Nat)(k x:Nat)(h:k<L.length):val (L.set k x)+B^k*L.getD k 0=val L+B^k*x:=by
 rw[fP L k aq,fP (L.set k x) k (by simp;omega),drop_cons L k h,drop_cons (L.set k x) k (by simpa using h)];rw[List.take_set_of_le (Nat.le_refl k),List.drop_set_of_lt aq];simp[val,List.getD,h,Nat.mul_add];omega
theorem zN(P c p x y r Q:Nat)(b:P+c*p=Q):∀a,a+p*r=P+p*((c+(x*y+r))%B)->a+(c+(x*y+r))/B*(p*B)=Q+p*(x*y):=by
 intro a h;have e:=Nat.div_add_mod (c+(x*y+r)) B;generalize (c+(x*y+r))/B=q at*;generalize (c+(x*y+r))%B=s at*;subst b;have:p*(c+(x*y+r))=p*(B*q+s):=by rw[e]
 simp only[Nat.mul_add]at this;have a:q*(p*B)=p*(B*q):=by rw[Nat.mul_comm q,Nat.mul_assoc]
 rw[a,Nat.mul_comm c p];omega
theorem lU(x y:Nat)(a:x<4294967296)(a:y<4294967296):x*y<=18446744065119617025:=by
 have:x*y<=4294967295*4294967295:=Nat.mul_le_mul aq aq;omega
theorem val_one(l:List Nat)(h:fH l)(b:l.length<=1):val l<4294967296:=by
 have:=g_ l h;have a:B^l.length<=B^1:=Nat.pow_le_pow_right aw b;rw[Nat.pow_one]at a;exact Nat.lt_of_lt_of_le this a
theorem getD_set_ne{L:List Nat}{i j x:Nat}(h:i≠j):(L.set i x).getD j 0=L.getD j 0:=by
 simp[List.getD,List.getElem?_set_ne h]
theorem qH(n:Nat):val (List.replicate n 0)=0:=by
 induction n with
 |zero=>rfl
 |succ n a=>simp[List.replicate_succ,val,a]
theorem nJ(n j:Nat):(List.replicate n 0).getD j 0=0:=by
 by_cases h:j<n<;>simp[List.getD,h]
theorem wO(r x:Nat)(a:r<4294967296)(a:x<4294967296):r*2^32%18446744073709551616 ||| x=r*4294967296+x/\r*4294967296+x<18446744073709551616:=by
 have e:r*2^32%18446744073709551616=2^32*r:=aq;rw[e,<-Nat.two_pow_add_eq_or_of_lt (i:=32) (b:=x) aq r];omega
theorem ti(b r x V W:Nat)(c:0<b)(d:r<b)(e:x<B)(h:V=W*b+r):
 (r*B+x)/b<B/\(r*B+x)%b<b/\x+B*V=((r*B+x)/b+B*W)*b+(r*B+x)%b:=by
 refine⟨?_,Nat.mod_lt _ c,?_⟩
 ·rw[Nat.div_lt_iff_lt_mul c];have:(r+1)*B<=b*B:=Nat.mul_le_mul_right _ d;rw[Nat.add_mul]at this;rw[Nat.mul_comm B b];omega
 ·have e:=Nat.div_add_mod (r*B+x) b;generalize (r*B+x)/b=q at*;generalize (r*B+x)%b=s at*;subst h;rw[Nat.add_mul,Nat.mul_add,Nat.mul_comm q b,Nat.mul_assoc,Nat.mul_comm B r];omega
theorem drop_set(L:List Nat)(j x:Nat)(h:j<L.length):(L.set j x).drop j=x::L.drop (j+1):=by
 rw[drop_cons _ j (by simpa using h),List.drop_set_of_lt aq];simp[List.getD,h]
theorem Jp(s c x:Nat)(a:s<32)(b:c<2^s)(a:x<4294967296):c ||| x*2^s%18446744073709551616=c+x*2^s/\c+x*2^s<18446744073709551616/\(c+x*2^s)/4294967296<2^s:=by
 have d:2^s<=2^31:=Nat.pow_le_pow_right aw aq;have d:x*2^s+2^s<=4294967296*2^s:=by rw[<-Nat.succ_mul];exact Nat.mul_le_mul_right _ a
 have a:0<2^s:=Nat.two_pow_pos s;have a:x*2^s%18446744073709551616=2^s*x:=by rw[Nat.mul_comm];apply Nat.mod_eq_of_lt;rw[Nat.mul_comm];omega
 refine⟨?_,aq,?_⟩
 ·rw[a,Nat.or_comm,<-Nat.two_pow_add_eq_or_of_lt b x,Nat.mul_comm];omega
 ·rw[Nat.div_lt_iff_lt_mul aw];rw[Nat.mul_comm (2^s) 4294967296];omega
theorem GH(p V c x s W:Nat)(h:V+c*p=W*2^s):V+p*((c+x*2^s)%B)+(c+x*2^s)/B*(p*B)=(W+p*x)*2^s:=by
 have e:=oh p V c (W*2^s) (x*2^s) h;rw[e,Nat.add_mul,Nat.mul_assoc]
def sr(s:Nat):List Nat->List Nat
 |[]=>[]
 |[x]=>[x/2^s]
 |x::y::l=>(x+B*y)/2^s%B::sr s (y::l)
theorem wK(s:Nat):∀l,(sr s l).length=l.length
 |[]=>rfl
 |[_]=>rfl
 |_::y::l=>by simp[sr,wK s (y::l)]
theorem GC(s:Nat)(g:s<32):∀l,fH l->val (sr s l)=val l/2^s
 |[],_=>by simp[sr,val]
 |[x],_=>by simp[sr,val]
 |x::y::l,h=>by
  have e:=GC s g (y::l) λz g=>h z (List.mem_cons_of_mem _ g);have i:x<B:=h x aG;simp only[sr,val]at e⊢;rw[e];generalize val l=W;have a:B=2^s*2^(32-s):=by rw[<-Nat.pow_add,show s+(32-s)=32 by omega];rfl
  have b:0<2^s:=Nat.two_pow_pos s;generalize 2^s=p at*;generalize 2^(32-s)=r at*;have k:(x+B*y)/p=x/p+r*y:=by rw[a,Nat.mul_assoc,Nat.add_mul_div_left _ _ b]
  have g:(x+B*(y+B*W))/p=x/p+r*(y+B*W):=by rw[a,Nat.mul_assoc,Nat.add_mul_div_left _ _ b]
  have e:(y+B*W)/p=y/p+r*W:=by rw[a,Nat.mul_assoc,Nat.add_mul_div_left _ _ b]
  rw[k,g,e];have f:=Nat.div_add_mod y p;have j:=Nat.mod_lt y b;have e:x/p<r:=by rw[Nat.div_lt_iff_lt_mul b,Nat.mul_comm r p,<-a];exact i
  generalize b:y/p=d at*;generalize b:y%p=c at*;have e:x/p+r*y=(x/p+r*c)+B*d:=by rw[<-f,a,Nat.mul_add,<-Nat.mul_assoc,Nat.mul_comm r p];omega
  have b:x/p+r*c<B:=by
   have:r*c+r<=r*p:=by rw[<-Nat.mul_succ];exact Nat.mul_le_mul_left _ j
   rw[a,Nat.mul_comm p r];omega
  rw[e,Nat.add_mul_mod_self_left,Nat.mod_eq_of_lt b];have b:r*(y+B*W)=r*c+B*d+B*(r*W):=by
   rw[Nat.mul_add,<-f,Nat.mul_add,<-Nat.mul_assoc r p,Nat.mul_comm r p,<-a,Nat.mul_left_comm];omega
  rw[b,Nat.mul_add];omega
theorem BS(s:Nat):∀l,fH l->fH (sr s l)
 |[],h=>h
 |[x],h=>by
  intro z a;simp[sr]at a;subst a;exact Nat.lt_of_le_of_lt (Nat.div_le_self _ _) (h x aG)
 |x::y::l,h=>by
  intro z a;rw[sr]at a;rcases List.mem_cons.1 a with rfl|a
  ·exact Nat.mod_lt _ aw
  ·exact BS s (y::l) (λz a=>h z (List.mem_cons_of_mem _ a)) z a
theorem BU(s:Nat):∀(l:List Nat) (i:Nat),i<l.length->(sr s l).getD i 0=if i+1<l.length then(l.getD i 0+B*l.getD (i+1) 0)/2^s%B else l.getD i 0/2^s
 |[],i,h=>by simp at h
 |[x],i,h=>by
  have:i=0:=by simpa using h
  subst this;simp[sr,List.getD]
 |x::y::l,i,h=>by
  rcases i with _|i
  ·simp[sr,List.getD]
  ·have:=BU s (y::l) i (by simpa using h);simp only[sr,List.getD_cons_succ,List.length_cons,Nat.add_lt_add_iff_right]at this⊢;rw[this]
theorem qc{a b:List Nat}(c:a.length=b.length)(h:∀j,j<a.length->a.getD j 0=b.getD j 0):a=b:=by
 apply List.ext_getElem c;intro i c d;have:=h i c;simpa[List.getD,c,d]using this
theorem fE{L:List Nat}{j x:Nat}(h:j<L.length):(L.set j x).getD j 0=x:=by simp[List.getD,h]
theorem Ji(s:Nat)(l:List Nat)(i:Nat)(h:i+1<l.length):(sr s l).getD i 0=(l.getD (i+1) 0*4294967296+l.getD i 0)/2^s%4294967296:=by
 rw[BU s l i aq,ab h,Nat.add_comm,Nat.mul_comm B];unfold B;rfl
theorem Jj(s:Nat)(l:List Nat)(i:Nat)(h:i<l.length)(h':¬i+1<l.length):(sr s l).getD i 0=l.getD i 0/2^s:=by
 rw[BU s l i h,aa h']
def fu(j b:Nat):Bool:=if j=0 then b == 0 else decide (0<b/\2^(b-1)<=j/\j<2^b)
theorem zG(x n b:Nat)(c:2^n<=x)(h:fu (x/2^n) b=true):fu x (n+b)=true:=by
 have a:0<2^n:=Nat.two_pow_pos n;have d:0<x/2^n:=Nat.div_pos c a;unfold fu at h⊢;rw[aa aq]at h;rw[aa aq];simp only[decide_eq_true_eq]at h⊢;obtain⟨c,d,c⟩:=h;refine⟨aq,?_,?_⟩
 ·have:=(Nat.le_div_iff_mul_le a).1 d;rw[show n+b-1=(b-1)+n by omega,Nat.pow_add];exact this
 ·have:=(Nat.div_lt_iff_lt_mul a).1 c;rw[Nat.pow_add,Nat.mul_comm];exact this
def Lx(s:ByteArray):Bool:=(List.range 256).all λj=>match s[j]? with|some b=>fu j b.toNat&&decide (b.toNat<=8)|none=>false
theorem L4{s:ByteArray}(h:Lx s=true){j:Nat}(a:j<256):∃b,s[j]?=some b/\fu j b.toNat=true/\b.toNat<=8:=by
 have:=List.all_eq_true.1 h j (List.mem_range.2 a);cases e:s[j]? with
 |none=>rw[e]at this;cases this
 |some b=>
  rw[e]at this;simp only[Bool.and_eq_true,decide_eq_true_eq]at this;exact⟨b,F,this.1,this.2⟩
