/- Joined: Wrd, Shf, She. -/
import Derived.Test.YtncbjgblcofddaaGreatDoorQoa
import Derived.Lib.SplitLaws
import Derived.Lib.CutLaws
import Derived.Shelf.LaysM
import Derived.Shelf.Small.Wraps
import Derived.Shelf.Strings.Builder1
import Derived.Shelf.Strings.BuilderK
import Derived.Shelf.Strconv.Itoa3
import Derived.Shelf.Strings.Cut
import Derived.Shelf.Strings.Prefix
import Derived.Shelf.Strings.SplitShaped
import Derived.Test.YtncbjgblcofddaaGreatDoorProg
/- A text's pieces between the places of one byte; what the text of a Gram matrix is read as. A plain text. -/
namespace Go.Dig
open Go.Lib
def wd (c:UInt8):List UInt8→List (List UInt8)
 | []=>[[]]
 | b :: r=>if b = c then [] :: wd c r else match wd c r with
  | []=>[[b]]
  | w :: ws=>(b :: w) :: ws
theorem wd_cons (c b:UInt8) (r:List UInt8):wd c (b :: r) = if b = c then [] :: wd c r else match wd c r with
 | []=>[[b]]
 | w :: ws=>(b :: w) :: ws:=rfl
theorem wd_ne (c:UInt8) (s:List UInt8):wd c s ≠ []:=by
 cases s with
 | nil=>simp [wd]
 | cons b r =>
  unfold wd
  split
  · simp
  · split <;> simp
theorem wd_none {c:UInt8} {s:List UInt8} (h:c ∉ s):wd c s = [s]:=by
 induction s with
 | nil=>rfl
 | cons b r ih =>
  simp only [List.mem_cons,not_or] at h
  unfold wd
  rw [if_neg (fun e=>h.1 e.symm),ih h.2]
theorem wd_cut {c:UInt8} {a r:List UInt8} (h:c ∉ a):wd c (a ++ c :: r) = a :: wd c r:=by
 induction a with
 | nil=>simp [wd]
 | cons b a ih =>
  simp only [List.mem_cons,not_or] at h
  rw [List.cons_append,wd_cons,if_neg (fun e=>h.1 e.symm),ih h.2]
theorem wd_len (c:UInt8) (s:List UInt8):(wd c s).length = s.count c + 1:=by
 induction s with
 | nil=>rfl
 | cons b r ih =>
  unfold wd
  by_cases h:b = c
  · subst h
    rw [if_pos rfl,List.count_cons_self,List.length_cons,ih]
  · rw [if_neg h,List.count_cons_of_ne (by simpa using h),← ih]
    cases hw:wd c r with
    | nil=>exact absurd hw (wd_ne c r)
    | cons w ws=>rfl
theorem wd_nil {c:UInt8} {s:List UInt8} (h:wd c s = [[]]):s = []:=by
 cases s with
 | nil=>rfl
 | cons b r =>
  unfold wd at h
  split at h
  · simp at h
    exact absurd h (wd_ne c r)
  · split at h <;> simp at h
theorem index_split (c:UInt8) (s:List UInt8):(index s [c] = -1∧c ∉ s) ∨ ∃ a r,s = a ++ c :: r∧c ∉ a∧index s [c] = (a.length:Int):=by
 induction s with
 | nil=>exact .inl ⟨by simp [index],by simp⟩
 | cons b s ih =>
  by_cases h:b = c
  · subst h
    exact .inr ⟨[],s,rfl,by simp,by rw [index]; simp [List.isPrefixOf]⟩
  · have hix:index (b :: s) [c] = if index s [c] == -1 then -1 else index s [c] + 1:=by
     rw [index]; simp [List.isPrefixOf,Ne.symm h]
    rcases ih with ⟨h1,h2⟩ | ⟨a,r,h1,h2,h3⟩
    · exact .inl ⟨by rw [hix,h1]; rfl,by simp [h2,Ne.symm h]⟩
    · refine .inr ⟨b :: a,r,by rw [h1]; rfl,by simp [h2,Ne.symm h],?_⟩
      rw [hix,h3,if_neg (by simp)]
      simp
theorem splitK_len (c:UInt8):∀ (k:Nat) (s:List UInt8),(splitK [c] 0 k s).length = min (s.count c) k + 1:=by
 intro k
 induction k with
 | zero=>intro s; simp [splitK]
 | succ k ih =>
  intro s
  rcases index_split c s with ⟨h1,h2⟩ | ⟨a,r,h1,h2,h3⟩
  · rw [splitK,if_pos (by rw [h1]; rfl),List.count_eq_zero.2 h2]
    simp
  · rw [splitK,if_neg (by rw [h3]; simp),h3]
    simp only [List.length_cons,ih,Int.toNat_natCast,List.length_nil]
    rw [show s.drop (a.length + (0 + 1)) = r by rw [h1]; simp]
    have:s.count c = r.count c + 1:=by rw [h1]; simp [List.count_append,List.count_eq_zero.2 h2]
    omega
theorem splitK_wd (c:UInt8):∀ (k:Nat) (s:List UInt8),s.count c≤k→splitK [c] 0 k s = wd c s:=by
 intro k
 induction k with
 | zero =>
  intro s h
  rw [splitK,wd_none (List.count_eq_zero.1 (by omega))]
 | succ k ih =>
  intro s h
  rcases index_split c s with ⟨h1,h2⟩ | ⟨a,r,h1,h2,h3⟩
  · rw [splitK,if_pos (by rw [h1]; rfl),wd_none h2]
  · have hc:s.count c = r.count c + 1:=by rw [h1]; simp [List.count_append,List.count_eq_zero.2 h2]
    rw [splitK,if_neg (by rw [h3]; simp),h3]
    simp only [Int.toNat_natCast,List.length_cons,List.length_nil]
    rw [show s.drop (a.length + (0 + 1)) = r by rw [h1]; simp,ih r (by omega),show s.take (a.length + 0) = a by rw [h1]; simp]
    conv=>rhs; rw [h1]
    rw [wd_cut h2]
theorem cut_some {c:UInt8} {s l m:List UInt8} {ws:List (List UInt8)} (h:wd c s = l :: m :: ws):∃ r,cut s [c] = (l,r,true)∧wd c r = m :: ws∧r.length < s.length∧l.length≤s.length:=by
 rcases index_split c s with ⟨h1,h2⟩ | ⟨a,r,h1,h2,h3⟩
 · rw [wd_none h2] at h; simp at h
 · rw [h1,wd_cut h2] at h
   simp only [List.cons.injEq] at h
   refine ⟨r,?_,h.2,by rw [h1]; simp; omega,by rw [h1,← h.1]; simp⟩
   unfold cut
   rw [if_pos (by rw [h3]; omega),h3,Int.toNat_natCast,← h.1,show s.take a.length = a by rw [h1]; simp,show s.drop (a.length + [c].length) = r by rw [h1]; simp]
theorem cut_none {c:UInt8} {s l:List UInt8} (h:wd c s = [l]):cut s [c] = (s,[],false):=by
 rcases index_split c s with ⟨h1,h2⟩ | ⟨a,r,h1,h2,h3⟩
 · unfold cut
   rw [if_neg (by rw [h1]; decide)]
 · rw [h1,wd_cut h2] at h
   simp only [List.cons.injEq] at h
   exact absurd h.2 (wd_ne c r)
instance (s:List UInt8):Decidable (isNum s):=by unfold isNum; exact inferInstance
instance (s:List UInt8):Decidable (okNum s):=by unfold okNum; exact inferInstance
def okRow (i:Nat) (l:List UInt8):Prop:=(wd 32 l).length = i + 1∧∀ w ∈ wd 32 l,okNum w
instance (i:Nat) (l:List UInt8):Decidable (okRow i l):=by unfold okRow; exact inferInstance
def okHd (l:List UInt8):Prop:=l.length = 6∧l.take 5 = [102,111,114,109,32]∧49≤(l.getD 5 0).toNat∧(l.getD 5 0).toNat≤56
instance (l:List UInt8):Decidable (okHd l):=by unfold okHd; exact inferInstance
def dimT (l:List UInt8):Nat:=(l.getD 5 0).toNat - 48
def rowE (ws:List (List UInt8)):Nat→Nat→Nat
 | 0,_=>0
 | k + 1,i=>if i + 2 < ws.length∧okRow i (ws.getD (i + 1) []) then rowE ws k (i + 1) else i + 2
def perr (ws:List (List UInt8)):Nat :=
 if 1 < ws.length∧okHd (ws.getD 0 []) then
  if rowE ws (dimT (ws.getD 0 [])) 0 ≠ 0 then rowE ws (dimT (ws.getD 0 [])) 0
  else if ws.drop (dimT (ws.getD 0 []) + 1) = [[]] then 0 else dimT (ws.getD 0 []) + 2
 else 1
def entT (ws:List (List UInt8)) (i j:Nat):Int:=pval ((wd 32 (ws.getD (i + 1) [])).getD j [])
def matT (ws:List (List UInt8)) (i j:Nat):Int:=entT ws (max i j) (min i j)
theorem awk_perr:perr (wd 10 [102,111,114,109,32,50,10,50,10,49,32,50]) = 3:=by decide
end Go.Dig
namespace Go.Proofs
open Go.Shelf
namespace Go.Proofs
open Go.Shelf
def Tryz.lays169_ren:Go.Shelf.Ren:=⟨fun | 169=>75 | n=>n,fun | 70=>92 | 9=>9 | 0=>0 | 72=>94 | 37=>61 | 127=>147 | 3=>3 | 5=>5 | n=>n,fun | n=>n⟩
theorem Tryz.lays169:Go.Proofs.Lays.n169 Tryz.prog Tryz.lays169_ren:={
 mixed:=by kernel_rfl
 f169:=Tryz.func75.trans (congrArg some (by kernel_rfl))
 t0:=Tryz.underlying0
 a0:=Tryz.isAgg0
 z0:=Tryz.sizeOf0
 v0:=Tryz.zeroValue0
 t3:=Tryz.underlying3
 a3:=Tryz.isAgg3
 z3:=Tryz.sizeOf3
 v3:=Tryz.zeroValue3
 t9:=Tryz.underlying9
 a9:=Tryz.isAgg9
 z9:=Tryz.sizeOf9
 v9:=Tryz.zeroValue9
 t37:=Tryz.underlying61
 a37:=Tryz.isAgg61
 z37:=Tryz.sizeOf61
 v37:=Tryz.zeroValue61
 t70:=Tryz.underlying92
 a70:=Tryz.isAgg92
 z70:=Tryz.sizeOf92
 v70:=Tryz.zeroValue92
 t72:=Tryz.underlying94
 a72:=Tryz.isAgg94
 z72:=Tryz.sizeOf94
 v72:=Tryz.zeroValue94
 t127:=Tryz.underlying147
 a127:=Tryz.isAgg147
 z127:=Tryz.sizeOf147
 v127:=Tryz.zeroValue147 }
theorem Tryz.Builder_Extra_169:Builder.Extra Tryz.prog Tryz.lays169_ren:={
 sizeBuilder:=by kernel_rfl
 liesBuilder:=by kernel_rfl
 t5:=Tryz.underlying5
 a5:=Tryz.isAgg5
 z5:=Tryz.sizeOf5
 v5:=Tryz.zeroValue5
 infoByte:=by kernel_rfl
 cellsByte:=by kernel_rfl
 sizeByte:=by kernel_rfl
 neB5:=by decide }
open Go.RowKit in
theorem Tryz.Builder_String_any (B b:Nat) (l:List UInt8) (w:World) (h:Lib.IsBuilder 94 5 B b (Lib.byteCells l) w) (hBw:B≤w.heap.size) :
 Calls Tryz.prog 75 #[.pointer (some ⟨b,0,none⟩)] w fun e w'=>e = .returned (.string ⟨l.toArray⟩)∧Below B w w':=Any.Builder_String_any Tryz.lays169 Tryz.Builder_Extra_169 B b l w h hBw
def Tryz.lays103_ren:Go.Shelf.Ren:=⟨fun | 103=>137 | 210=>177 | 206=>196 | n=>n,fun | 9=>9 | 4=>4 | 24=>99 | 3=>3 | n=>n,fun | n=>n⟩
theorem Tryz.lays103:Go.Proofs.Lays.n103 Tryz.prog Tryz.lays103_ren:={
 mixed:=by kernel_rfl
 f103:=Tryz.func137.trans (congrArg some (by kernel_rfl))
 f206:=Tryz.func196.trans (congrArg some (by kernel_rfl))
 f210:=Tryz.func177.trans (congrArg some (by kernel_rfl))
 t3:=Tryz.underlying3
 a3:=Tryz.isAgg3
 z3:=Tryz.sizeOf3
 v3:=Tryz.zeroValue3
 t4:=Tryz.underlying4
 a4:=Tryz.isAgg4
 z4:=Tryz.sizeOf4
 v4:=Tryz.zeroValue4
 t9:=Tryz.underlying9
 a9:=Tryz.isAgg9
 z9:=Tryz.sizeOf9
 v9:=Tryz.zeroValue9
 t24:=Tryz.underlying99
 a24:=Tryz.isAgg99
 z24:=Tryz.sizeOf99
 v24:=Tryz.zeroValue99 }
open Go.RowKit in
theorem Tryz.strings_CutPrefix (s p:ByteArray) (w:World) :
 Calls Tryz.prog 137 #[.string s,.string p] w fun e w'=>e = .returned (.tuple #[.string ⟨(Lib.trimPrefix s.data.toList p.data.toList).toArray⟩,.bool (Lib.hasPrefix s.data.toList p.data.toList)])∧w' = w:=Any.strings_CutPrefix Tryz.lays103 s p w
def Tryz.lays171_ren:Go.Shelf.Ren:=⟨fun | 171=>72 | 243=>131 | 246=>172 | 283=>192 | 284=>193 | 285=>194 | 286=>195 | 129=>206 | 317=>205 | 318=>207 | 319=>208 | 320=>209 | 337=>215 | 338=>216 | n=>n,fun | 3=>3 | 9=>9 | 2=>2 | 4=>4 | 171=>179 | 0=>0 | 53=>108 | 37=>61 | 5=>5 | 173=>182 | 212=>191 | 51=>107 | 20=>20 | 213=>192 | 46=>109 | 232=>201 | 233=>202 | n=>n,fun | 17=>0 | 18=>4 | 19=>5 | n=>n⟩
theorem Tryz.lays171:Go.Proofs.Lays.n171 Tryz.prog Tryz.lays171_ren:={
 mixed:=by kernel_rfl
 f129:=Tryz.func206.trans (congrArg some (by kernel_rfl))
 f171:=Tryz.func72.trans (congrArg some (by kernel_rfl))
 f243:=Tryz.func131.trans (congrArg some (by kernel_rfl))
 f246:=Tryz.func172.trans (congrArg some (by kernel_rfl))
 f283:=Tryz.func192.trans (congrArg some (by kernel_rfl))
 f284:=Tryz.func193.trans (congrArg some (by kernel_rfl))
 f285:=Tryz.func194.trans (congrArg some (by kernel_rfl))
 f286:=Tryz.func195.trans (congrArg some (by kernel_rfl))
 f317:=Tryz.func205.trans (congrArg some (by kernel_rfl))
 f318:=Tryz.func207.trans (congrArg some (by kernel_rfl))
 f319:=Tryz.func208.trans (congrArg some (by kernel_rfl))
 f320:=Tryz.func209.trans (congrArg some (by kernel_rfl))
 f337:=Tryz.func215.trans (congrArg some (by kernel_rfl))
 f338:=Tryz.func216.trans (congrArg some (by kernel_rfl))
 t0:=Tryz.underlying0
 a0:=Tryz.isAgg0
 z0:=Tryz.sizeOf0
 v0:=Tryz.zeroValue0
 t2:=Tryz.underlying2
 a2:=Tryz.isAgg2
 z2:=Tryz.sizeOf2
 v2:=Tryz.zeroValue2
 t3:=Tryz.underlying3
 a3:=Tryz.isAgg3
 z3:=Tryz.sizeOf3
 v3:=Tryz.zeroValue3
 t4:=Tryz.underlying4
 a4:=Tryz.isAgg4
 z4:=Tryz.sizeOf4
 v4:=Tryz.zeroValue4
 t5:=Tryz.underlying5
 a5:=Tryz.isAgg5
 z5:=Tryz.sizeOf5
 v5:=Tryz.zeroValue5
 t9:=Tryz.underlying9
 a9:=Tryz.isAgg9
 z9:=Tryz.sizeOf9
 v9:=Tryz.zeroValue9
 t20:=Tryz.underlying20
 a20:=Tryz.isAgg20
 z20:=Tryz.sizeOf20
 v20:=Tryz.zeroValue20
 t37:=Tryz.underlying61
 a37:=Tryz.isAgg61
 z37:=Tryz.sizeOf61
 v37:=Tryz.zeroValue61
 t46:=Tryz.underlying109
 a46:=Tryz.isAgg109
 z46:=Tryz.sizeOf109
 v46:=Tryz.zeroValue109
 t51:=Tryz.underlying107
 a51:=Tryz.isAgg107
 z51:=Tryz.sizeOf107
 v51:=Tryz.zeroValue107
 t53:=Tryz.underlying108
 a53:=Tryz.isAgg108
 z53:=Tryz.sizeOf108
 v53:=Tryz.zeroValue108
 t171:=Tryz.underlying179
 a171:=Tryz.isAgg179
 z171:=Tryz.sizeOf179
 v171:=Tryz.zeroValue179
 t173:=Tryz.underlying182
 a173:=Tryz.isAgg182
 z173:=Tryz.sizeOf182
 v173:=Tryz.zeroValue182
 t212:=Tryz.underlying191
 a212:=Tryz.isAgg191
 z212:=Tryz.sizeOf191
 v212:=Tryz.zeroValue191
 t213:=Tryz.underlying192
 a213:=Tryz.isAgg192
 z213:=Tryz.sizeOf192
 t232:=Tryz.underlying201
 a232:=Tryz.isAgg201
 z232:=Tryz.sizeOf201
 v232:=Tryz.zeroValue201
 t233:=Tryz.underlying202
 a233:=Tryz.isAgg202
 z233:=Tryz.sizeOf202
 v233:=Tryz.zeroValue202
 g17:=by kernel_rfl
 g18:=by kernel_rfl
 g19:=by kernel_rfl }
open Go.RowKit Go.Sort Go.Lib in
theorem Tryz.strconv_Itoa_small (i:Nat) (hi:i < 100) (w:World) :
 Calls Tryz.prog 72 #[.int .i64 i] w fun e w'=>e = .returned (.string ⟨(Lib.decDigits i).toArray⟩)∧w' = w:=Any.strconv_Itoa_small Tryz.lays171 i hi w
def Tryz.lays145_ren:Go.Shelf.Ren:=⟨fun | 145=>140 | 220=>179 | 219=>198 | 217=>210 | 225=>211 | 224=>212 | 267=>213 | 266=>217 | 314=>218 | n=>n,fun | 9=>9 | 4=>4 | 59=>152 | 3=>3 | 5=>5 | 46=>109 | 146=>195 | 51=>107 | n=>n,fun | 1=>1 | n=>n⟩
theorem Tryz.lays145:Go.Proofs.Lays.n145 Tryz.prog Tryz.lays145_ren:={
 mixed:=by kernel_rfl
 f145:=Tryz.func140.trans (congrArg some (by kernel_rfl))
 f217:=Tryz.func210.trans (congrArg some (by kernel_rfl))
 f219:=Tryz.func198.trans (congrArg some (by kernel_rfl))
 f220:=Tryz.func179.trans (congrArg some (by kernel_rfl))
 f224:=Tryz.func212.trans (congrArg some (by kernel_rfl))
 f225:=Tryz.func211.trans (congrArg some (by kernel_rfl))
 f266:=Tryz.func217.trans (congrArg some (by kernel_rfl))
 f267:=Tryz.func213.trans (congrArg some (by kernel_rfl))
 f314:=Tryz.func218.trans (congrArg some (by kernel_rfl))
 t3:=Tryz.underlying3
 a3:=Tryz.isAgg3
 z3:=Tryz.sizeOf3
 v3:=Tryz.zeroValue3
 t4:=Tryz.underlying4
 a4:=Tryz.isAgg4
 z4:=Tryz.sizeOf4
 v4:=Tryz.zeroValue4
 t5:=Tryz.underlying5
 a5:=Tryz.isAgg5
 z5:=Tryz.sizeOf5
 v5:=Tryz.zeroValue5
 t9:=Tryz.underlying9
 a9:=Tryz.isAgg9
 z9:=Tryz.sizeOf9
 v9:=Tryz.zeroValue9
 t46:=Tryz.underlying109
 a46:=Tryz.isAgg109
 z46:=Tryz.sizeOf109
 v46:=Tryz.zeroValue109
 t51:=Tryz.underlying107
 a51:=Tryz.isAgg107
 z51:=Tryz.sizeOf107
 v51:=Tryz.zeroValue107
 t59:=Tryz.underlying152
 a59:=Tryz.isAgg152
 z59:=Tryz.sizeOf152
 v59:=Tryz.zeroValue152
 t146:=Tryz.underlying195
 a146:=Tryz.isAgg195
 z146:=Tryz.sizeOf195
 v146:=Tryz.zeroValue195
 g1:=by kernel_rfl }
open Go.RowKit Go.Lib in
theorem Tryz.strings_Cut (s sep:ByteArray) (m:Int) (w:World) (hs:s.size < 4294967281) (hm:w.cell? ⟨1,0,none⟩ = some (.int .i64 m)) :
 Calls Tryz.prog 140 #[.string s,.string sep] w fun e w'=>e = .returned (.tuple #[.string ⟨(Lib.cut s.data.toList sep.data.toList).1.toArray⟩,.string ⟨(Lib.cut s.data.toList sep.data.toList).2.1.toArray⟩,.bool (Lib.cut s.data.toList sep.data.toList).2.2])∧∃ n,w' = w.drewN n:=Any.strings_Cut Tryz.lays145 s sep m w hs hm
def Tryz.lays101_ren:Go.Shelf.Ren:=⟨fun | 101=>133 | 208=>175 | 206=>196 | n=>n,fun | 9=>9 | 4=>4 | 3=>3 | n=>n,fun | n=>n⟩
theorem Tryz.lays101:Go.Proofs.Lays.n101 Tryz.prog Tryz.lays101_ren:={
 mixed:=by kernel_rfl
 f101:=Tryz.func133.trans (congrArg some (by kernel_rfl))
 f206:=Tryz.func196.trans (congrArg some (by kernel_rfl))
 f208:=Tryz.func175.trans (congrArg some (by kernel_rfl))
 t3:=Tryz.underlying3
 a3:=Tryz.isAgg3
 z3:=Tryz.sizeOf3
 v3:=Tryz.zeroValue3
 t4:=Tryz.underlying4
 a4:=Tryz.isAgg4
 z4:=Tryz.sizeOf4
 v4:=Tryz.zeroValue4
 t9:=Tryz.underlying9
 a9:=Tryz.isAgg9
 z9:=Tryz.sizeOf9
 v9:=Tryz.zeroValue9 }
open Go.RowKit Go.Lib in
theorem Tryz.strings_TrimPrefix (s p:ByteArray) (w:World) :
 Calls Tryz.prog 133 #[.string s,.string p] w fun e w'=>e = .returned (.string ⟨(Lib.trimPrefix s.data.toList p.data.toList).toArray⟩)∧w' = w:=Any.strings_TrimPrefix Tryz.lays101 s p w
def Tryz.lays146_ren:Go.Shelf.Ren:=⟨fun | 146=>88 | 221=>147 | 268=>182 | 138=>183 | 143=>184 | 195=>201 | 197=>202 | 218=>203 | 219=>198 | 260=>214 | 217=>210 | 225=>211 | 224=>212 | 267=>213 | 266=>217 | 314=>218 | n=>n,fun | 9=>9 | 31=>119 | 3=>3 | 4=>4 | 0=>0 | 105=>187 | 21=>21 | 5=>5 | 46=>109 | 119=>197 | 139=>200 | 138=>199 | 146=>195 | 51=>107 | n=>n,fun | 1=>1 | 3=>2 | 4=>3 | n=>n⟩
theorem Tryz.lays146:Go.Proofs.Lays.n146 Tryz.prog Tryz.lays146_ren:={
 mixed:=by kernel_rfl
 f138:=Tryz.func183.trans (congrArg some (by kernel_rfl))
 f143:=Tryz.func184.trans (congrArg some (by kernel_rfl))
 f146:=Tryz.func88.trans (congrArg some (by kernel_rfl))
 f195:=Tryz.func201.trans (congrArg some (by kernel_rfl))
 f197:=Tryz.func202.trans (congrArg some (by kernel_rfl))
 f217:=Tryz.func210.trans (congrArg some (by kernel_rfl))
 f218:=Tryz.func203.trans (congrArg some (by kernel_rfl))
 f219:=Tryz.func198.trans (congrArg some (by kernel_rfl))
 f221:=Tryz.func147.trans (congrArg some (by kernel_rfl))
 f224:=Tryz.func212.trans (congrArg some (by kernel_rfl))
 f225:=Tryz.func211.trans (congrArg some (by kernel_rfl))
 f260:=Tryz.func214.trans (congrArg some (by kernel_rfl))
 f266:=Tryz.func217.trans (congrArg some (by kernel_rfl))
 f267:=Tryz.func213.trans (congrArg some (by kernel_rfl))
 f268:=Tryz.func182.trans (congrArg some (by kernel_rfl))
 f314:=Tryz.func218.trans (congrArg some (by kernel_rfl))
 t0:=Tryz.underlying0
 a0:=Tryz.isAgg0
 z0:=Tryz.sizeOf0
 v0:=Tryz.zeroValue0
 t3:=Tryz.underlying3
 a3:=Tryz.isAgg3
 z3:=Tryz.sizeOf3
 v3:=Tryz.zeroValue3
 t4:=Tryz.underlying4
 a4:=Tryz.isAgg4
 z4:=Tryz.sizeOf4
 v4:=Tryz.zeroValue4
 t5:=Tryz.underlying5
 a5:=Tryz.isAgg5
 z5:=Tryz.sizeOf5
 v5:=Tryz.zeroValue5
 t9:=Tryz.underlying9
 a9:=Tryz.isAgg9
 z9:=Tryz.sizeOf9
 v9:=Tryz.zeroValue9
 t21:=Tryz.underlying21
 a21:=Tryz.isAgg21
 z21:=Tryz.sizeOf21
 v21:=Tryz.zeroValue21
 t31:=Tryz.underlying119
 a31:=Tryz.isAgg119
 z31:=Tryz.sizeOf119
 v31:=Tryz.zeroValue119
 t46:=Tryz.underlying109
 a46:=Tryz.isAgg109
 z46:=Tryz.sizeOf109
 v46:=Tryz.zeroValue109
 t51:=Tryz.underlying107
 a51:=Tryz.isAgg107
 z51:=Tryz.sizeOf107
 v51:=Tryz.zeroValue107
 t105:=Tryz.underlying187
 a105:=Tryz.isAgg187
 z105:=Tryz.sizeOf187
 v105:=Tryz.zeroValue187
 t119:=Tryz.underlying197
 a119:=Tryz.isAgg197
 z119:=Tryz.sizeOf197
 t138:=Tryz.underlying199
 a138:=Tryz.isAgg199
 z138:=Tryz.sizeOf199
 v138:=Tryz.zeroValue199
 t139:=Tryz.underlying200
 a139:=Tryz.isAgg200
 z139:=Tryz.sizeOf200
 v139:=Tryz.zeroValue200
 t146:=Tryz.underlying195
 a146:=Tryz.isAgg195
 z146:=Tryz.sizeOf195
 v146:=Tryz.zeroValue195
 g1:=by kernel_rfl
 g3:=by kernel_rfl
 g4:=by kernel_rfl }
open Go.RowKit Go.Lib in
theorem Tryz.strings_Split (s sep:ByteArray) (m:Int) (w:World) (hs:s.size < 4294967281) (hm:w.cell? ⟨1,0,none⟩ = some (.int .i64 m)) (h1:1≤sep.size) :
 Calls Tryz.prog 88 #[.string s,.string sep] w fun e w' =>
  e = .returned (.slice (some ⟨w.heap.size,0,none⟩) (Lib.countB s sep + 1) (Lib.countB s sep + 1))∧w' = w.alloc (.cells ((Lib.splitB sep 0 (Lib.countB s sep) s).map Value.string).toArray 9):=Any.strings_Split Tryz.lays146 (by kernel_rfl) s sep m w hs hm h1
def Tryz.lays147_ren:Go.Shelf.Ren:=⟨fun | 147=>138 | 221=>147 | 268=>182 | 138=>183 | 143=>184 | 195=>201 | 197=>202 | 218=>203 | 219=>198 | 260=>214 | 217=>210 | 225=>211 | 224=>212 | 267=>213 | 266=>217 | 314=>218 | n=>n,fun | 9=>9 | 3=>3 | 31=>119 | 4=>4 | 0=>0 | 105=>187 | 21=>21 | 5=>5 | 46=>109 | 119=>197 | 139=>200 | 138=>199 | 146=>195 | 51=>107 | n=>n,fun | 1=>1 | 3=>2 | 4=>3 | n=>n⟩
theorem Tryz.lays147:Go.Proofs.Lays.n147 Tryz.prog Tryz.lays147_ren:={
 mixed:=by kernel_rfl
 f138:=Tryz.func183.trans (congrArg some (by kernel_rfl))
 f143:=Tryz.func184.trans (congrArg some (by kernel_rfl))
 f147:=Tryz.func138.trans (congrArg some (by kernel_rfl))
 f195:=Tryz.func201.trans (congrArg some (by kernel_rfl))
 f197:=Tryz.func202.trans (congrArg some (by kernel_rfl))
 f217:=Tryz.func210.trans (congrArg some (by kernel_rfl))
 f218:=Tryz.func203.trans (congrArg some (by kernel_rfl))
 f219:=Tryz.func198.trans (congrArg some (by kernel_rfl))
 f221:=Tryz.func147.trans (congrArg some (by kernel_rfl))
 f224:=Tryz.func212.trans (congrArg some (by kernel_rfl))
 f225:=Tryz.func211.trans (congrArg some (by kernel_rfl))
 f260:=Tryz.func214.trans (congrArg some (by kernel_rfl))
 f266:=Tryz.func217.trans (congrArg some (by kernel_rfl))
 f267:=Tryz.func213.trans (congrArg some (by kernel_rfl))
 f268:=Tryz.func182.trans (congrArg some (by kernel_rfl))
 f314:=Tryz.func218.trans (congrArg some (by kernel_rfl))
 t0:=Tryz.underlying0
 a0:=Tryz.isAgg0
 z0:=Tryz.sizeOf0
 v0:=Tryz.zeroValue0
 t3:=Tryz.underlying3
 a3:=Tryz.isAgg3
 z3:=Tryz.sizeOf3
 v3:=Tryz.zeroValue3
 t4:=Tryz.underlying4
 a4:=Tryz.isAgg4
 z4:=Tryz.sizeOf4
 v4:=Tryz.zeroValue4
 t5:=Tryz.underlying5
 a5:=Tryz.isAgg5
 z5:=Tryz.sizeOf5
 v5:=Tryz.zeroValue5
 t9:=Tryz.underlying9
 a9:=Tryz.isAgg9
 z9:=Tryz.sizeOf9
 v9:=Tryz.zeroValue9
 t21:=Tryz.underlying21
 a21:=Tryz.isAgg21
 z21:=Tryz.sizeOf21
 v21:=Tryz.zeroValue21
 t31:=Tryz.underlying119
 a31:=Tryz.isAgg119
 z31:=Tryz.sizeOf119
 v31:=Tryz.zeroValue119
 t46:=Tryz.underlying109
 a46:=Tryz.isAgg109
 z46:=Tryz.sizeOf109
 v46:=Tryz.zeroValue109
 t51:=Tryz.underlying107
 a51:=Tryz.isAgg107
 z51:=Tryz.sizeOf107
 v51:=Tryz.zeroValue107
 t105:=Tryz.underlying187
 a105:=Tryz.isAgg187
 z105:=Tryz.sizeOf187
 v105:=Tryz.zeroValue187
 t119:=Tryz.underlying197
 a119:=Tryz.isAgg197
 z119:=Tryz.sizeOf197
 t138:=Tryz.underlying199
 a138:=Tryz.isAgg199
 z138:=Tryz.sizeOf199
 v138:=Tryz.zeroValue199
 t139:=Tryz.underlying200
 a139:=Tryz.isAgg200
 z139:=Tryz.sizeOf200
 v139:=Tryz.zeroValue200
 t146:=Tryz.underlying195
 a146:=Tryz.isAgg195
 z146:=Tryz.sizeOf195
 v146:=Tryz.zeroValue195
 g1:=by kernel_rfl
 g3:=by kernel_rfl
 g4:=by kernel_rfl }
open Go.RowKit Go.Lib in
theorem Tryz.strings_SplitN (s sep:ByteArray) (n:Nat) (m:Int) (w:World) (hs:s.size < 4294967281) (hm:w.cell? ⟨1,0,none⟩ = some (.int .i64 m)) (h1:1≤sep.size) (hn:1≤n) (hn63:n≤9223372036854775807) :
 Calls Tryz.prog 138 #[.string s,.string sep,.int .i64 n] w fun e w' =>
  e = .returned (.slice (some ⟨w.heap.size,0,none⟩) (Lib.splitB sep 0 (min n (s.size + 1) - 1) s).length (min n (s.size + 1)))∧w' = w.alloc (.cells (Lib.cellsOf (Lib.splitB sep 0 (min n (s.size + 1) - 1) s) (min n (s.size + 1))) 9):=Any.strings_SplitN Tryz.lays147 (by kernel_rfl) s sep n m w hs hm h1 hn hn63
end Go.Proofs
end Go.Proofs
namespace Go.Proofs.YtncbjgblcofddaaGreatDoor
open Go Go.Eng Go.Num Go.Dig Go.Proofs
def ML (w:World):Prop:=∃ m,w.cell? ⟨1,0,none⟩ = some (.int .i64 m)
theorem ML.ext {w w':World} (h:ML w) (hE:Ext w w'):ML w':=by
 obtain ⟨m,h⟩:=h
 exact ⟨m,cell_ext hE h⟩
theorem ext_drewN (w:World) (n:Nat):Ext w (w.drewN n):=⟨rfl,rfl,rfl,Nat.le_refl _,fun _ _ _=>rfl⟩
theorem tx_data (l:List UInt8):(ByteArray.mk l.toArray).data.toList = l:=by simp
theorem tx_of (b:ByteArray):Value.string b = Tx b.data.toList:=by
 show Value.string b = Value.string ⟨b.data.toList.toArray⟩
 rw [Array.toArray_toList]
theorem cut_ok (l:List UInt8) (c:UInt8) (w:World) (hm:ML w) (hl:l.length < 4294967281) :
 Meets Tryz.prog 140 #[Tx l,Tx [c]] w fun v w'=>Ext w w'∧v = .tuple #[Tx (Lib.cut l [c]).1,Tx (Lib.cut l [c]).2.1,.bool (Lib.cut l [c]).2.2]:=by
 obtain ⟨m,hm⟩:=hm
 refine ⟨enters_of Tryz.func140 rfl rfl,(Tryz.strings_Cut ⟨l.toArray⟩ ⟨[c].toArray⟩ m w (by rw [tx_size]; exact hl) hm).mono ?_⟩
 rintro e w' ⟨rfl,n,rfl⟩
 exact ⟨_,rfl,ext_drewN w n,by simp only⟩
theorem cutPrefix_ok (l p:List UInt8) (w:World) :
 Meets Tryz.prog 137 #[Tx l,Tx p] w fun v w'=>w = w'∧v = .tuple #[Tx (Lib.trimPrefix l p),.bool (Lib.hasPrefix l p)]:=by
 refine ⟨enters_of Tryz.func137 rfl rfl,(Tryz.strings_CutPrefix ⟨l.toArray⟩ ⟨p.toArray⟩ w).mono ?_⟩
 rintro e w' ⟨rfl,rfl⟩
 exact ⟨_,rfl,rfl,by simp only⟩
theorem trimPrefix_ok (l p:List UInt8) (w:World) :
 Meets Tryz.prog 133 #[Tx l,Tx p] w fun v w'=>w = w'∧v = Tx (Lib.trimPrefix l p):=by
 refine ⟨enters_of Tryz.func133 rfl rfl,(Tryz.strings_TrimPrefix ⟨l.toArray⟩ ⟨p.toArray⟩ w).mono ?_⟩
 rintro e w' ⟨rfl,rfl⟩
 exact ⟨_,rfl,rfl,by simp only⟩
theorem dec_small {i:Nat} (h2:i≤9):Lib.decDigits i = [ch i]:=by
 rw [Lib.decDigits,dif_pos (by omega)]
 rfl
theorem itoa_ok (i:Nat) (w:World) (h2:i≤9) :
 Meets Tryz.prog 72 #[.int .i64 ((i:Nat):Int)] w fun v w'=>w = w'∧v = Tx [ch i]:=by
 refine ⟨enters_of Tryz.func72 rfl rfl,(Tryz.strconv_Itoa_small i (by omega) w).mono ?_⟩
 rintro e w' ⟨rfl,rfl⟩
 exact ⟨_,rfl,rfl,by rw [dec_small h2]⟩
def TL (w:World) (g:Nat) (ws:List (List UInt8)):Prop:=∀ j,j < ws.length→w.cell? ⟨g,0 + j * 1,none⟩ = some (Tx (ws.getD j []))
theorem TL.ext {w w':World} {g:Nat} {ws:List (List UInt8)} (h:TL w g ws) (hE:Ext w w'):TL w' g ws:=fun j hj=>cell_ext hE (h j hj)
theorem tl_of {w:World} {g N:Nat} {L:List ByteArray} (hb:Blk w g 9 (Lib.cellsOf L N)):TL w g (L.map fun b=>b.data.toList):=by
 intro j hj
 rw [List.length_map] at hj
 rw [hb.cell,Nat.zero_add,Nat.mul_one]
 unfold Lib.cellsOf
 simp [List.getElem?_append_left,hj,List.getD,tx_of]
theorem splitN_ok (l:List UInt8) (c:UInt8) (n:Nat) (w:World) (hm:ML w) (hl:l.length < 4294967281) (hn:1≤n) (hn2:n≤1000) :
 Meets Tryz.prog 138 #[Tx l,Tx [c],.int .i64 ((n:Nat):Int)] w fun v w'=>Ext w w'∧∃ ws cap,ws = Lib.splitK [c] 0 (min n (l.length + 1) - 1) l∧v = .slice (some ⟨w.heap.size,0,none⟩) ws.length cap∧TL w' w.heap.size ws:=by
 obtain ⟨m,hm⟩:=hm
 refine ⟨enters_of Tryz.func138 rfl rfl,(Tryz.strings_SplitN ⟨l.toArray⟩ ⟨[c].toArray⟩ n m w (by rw [tx_size]; exact hl) hm (by rw [tx_size]; simp) hn (by omega)).mono ?_⟩
 rintro e w' ⟨rfl,rfl⟩
 have hd:=Lib.splitB_data ⟨[c].toArray⟩ 0 (min n ((ByteArray.mk l.toArray).size + 1) - 1) ⟨l.toArray⟩
 simp only [tx_size] at hd
 refine ⟨_,rfl,ch_alloc w _,_,min n (l.length + 1),rfl,?_,?_⟩
 · rw [← hd,List.length_map,tx_size]
 · rw [← hd]
   rw [tx_size]
   exact tl_of (Blk.new w _ _)
theorem split_ok (l:List UInt8) (c:UInt8) (w:World) (hm:ML w) (hl:l.length < 4294967281) :
 Meets Tryz.prog 88 #[Tx l,Tx [c]] w fun v w'=>Ext w w'∧v = .slice (some ⟨w.heap.size,0,none⟩) (wd c l).length (wd c l).length∧TL w' w.heap.size (wd c l):=by
 obtain ⟨m,hm⟩:=hm
 refine ⟨enters_of Tryz.func88 rfl rfl,(Tryz.strings_Split ⟨l.toArray⟩ ⟨[c].toArray⟩ m w (by rw [tx_size]; exact hl) hm (by rw [tx_size]; simp)).mono ?_⟩
 rintro e w' ⟨rfl,rfl⟩
 have hc:Lib.countB ⟨l.toArray⟩ ⟨[c].toArray⟩ = l.count c:=by
  show Lib.count _ _ = _
  rw [tx_data,tx_data,Lib.count_one]
 have hd:=Lib.splitB_data ⟨[c].toArray⟩ 0 (l.count c) ⟨l.toArray⟩
 simp only at hd
 rw [splitK_wd c _ l (Nat.le_refl _)] at hd
 rw [hc]
 refine ⟨_,rfl,ch_alloc w _,by rw [wd_len],?_⟩
 rw [← hd]
 refine tl_of (N:=(Lib.splitB ⟨[c].toArray⟩ 0 (l.count c) ⟨l.toArray⟩).length) ?_
 rw [Lib.cellsOf_full]
 exact Blk.new w _ _
end Go.Proofs.YtncbjgblcofddaaGreatDoor
