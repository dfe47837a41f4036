/- Joined: Dig, Pnm, Str, Byt. -/
import Derived.Test.YtncbjgblcofddaaGreatDoorQb
import Derived.Test.YtncbjgblcofddaaGreatDoorQa
import Derived.Lib.OthersKept
import Derived.Laws.Concat
import Derived.Laws.Strings3
import Derived.Laws.IdiomStrings
import Derived.Test.YtncbjgblcofddaaGreatDoorQd
/- Decimal digits of natural numbers,their texts,and what a text of digits is read as: a plain text. -/
namespace Go.Dig
def dig:Nat→Nat→List Nat
 | 0,_=>[]
 | k + 1,n=>n % 10 :: dig k (n / 10)
theorem dig_len (k n:Nat):(dig k n).length = k:=by
 induction k generalizing n with
 | zero=>rfl
 | succ k ih=>simp [dig,ih]
theorem dig_add (a b n:Nat):dig (a + b) n = dig a n ++ dig b (n / 10 ^ a):=by
 induction a generalizing n with
 | zero=>simp [dig]
 | succ a ih =>
  rw [show a + 1 + b = (a + b) + 1 by omega]
  simp only [dig,ih,List.cons_append]
  rw [Nat.div_div_eq_div_mul,Nat.pow_succ,Nat.mul_comm 10]
theorem dig_snoc (k n:Nat):dig (k + 1) n = dig k n ++ [n / 10 ^ k % 10]:=dig_add k 1 n
theorem dig_lt (k n:Nat):∀ d ∈ dig k n,d < 10:=by
 induction k generalizing n with
 | zero=>simp [dig]
 | succ k ih =>
  intro d hd
  simp only [dig,List.mem_cons] at hd
  rcases hd with rfl | h
  · omega
  · exact ih _ d h
def dlenF:Nat→Nat→Nat
 | 0,_=>0
 | k + 1,n=>if n = 0 then 0 else dlenF k (n / 10) + 1
def dlen (n:Nat):Nat:=dlenF n n
theorem dlenF_uniq:∀ (k n L:Nat),n≤k→n < 10 ^ L→(0 < L→10 ^ (L - 1)≤n)→L = dlenF k n:=by
 intro k
 induction k with
 | zero =>
  intro n L hk h1 h2
  obtain rfl:n = 0:=by omega
  rcases Nat.eq_zero_or_pos L with h | h
  · exact h
  · have:=h2 h
    have:=Nat.pow_pos (n:=L - 1) (show 0 < 10 by decide)
    omega
 | succ k ih =>
  intro n L hk h1 h2
  unfold dlenF
  by_cases h0:n = 0
  · rw [if_pos h0]
    rcases Nat.eq_zero_or_pos L with h | h
    · exact h
    · have:=h2 h
      have:=Nat.pow_pos (n:=L - 1) (show 0 < 10 by decide)
      omega
  · rw [if_neg h0]
    rcases L with _ | L
    · simp at h1; omega
    · have h3:=h2 (by omega)
      rw [Nat.add_sub_cancel] at h3
      have e:=ih (n / 10) L (by omega) ?_ ?_
      · rw [← e]
      · rw [Nat.pow_succ] at h1
        exact Nat.div_lt_of_lt_mul (by omega)
      · intro hL
        rcases L with _ | L
        · omega
        · rw [Nat.pow_succ] at h3
          rw [Nat.add_sub_cancel]
          exact (Nat.le_div_iff_mul_le (by decide)).2 h3
theorem dlen_uniq {n L:Nat} (h1:n < 10 ^ L) (h2:0 < L→10 ^ (L - 1)≤n):L = dlen n:=dlenF_uniq n n L (Nat.le_refl _) h1 h2
theorem dlenF_spec:∀ (k n:Nat),n≤k→n < 10 ^ dlenF k n∧(0 < dlenF k n→10 ^ (dlenF k n - 1)≤n):=by
 intro k
 induction k with
 | zero=>intro n h; obtain rfl:n = 0:=by omega
         simp [dlenF]
 | succ k ih =>
  intro n h
  unfold dlenF
  by_cases h0:n = 0
  · rw [if_pos h0]; simp [h0]
  · rw [if_neg h0]
    obtain ⟨a,b⟩:=ih (n / 10) (by omega)
    generalize dlenF k (n / 10) = L at a b
    constructor
    · rw [Nat.pow_succ]
      have:=Nat.div_add_mod n 10
      have:=Nat.mod_lt n (show 10 > 0 by decide)
      omega
    · intro _
      rw [Nat.add_sub_cancel]
      rcases L with _ | L
      · simp; omega
      · have:=b (by omega)
        rw [Nat.add_sub_cancel] at this
        rw [Nat.pow_succ]
        exact (Nat.le_div_iff_mul_le (by decide)).1 this
theorem dlen_lt (n:Nat):n < 10 ^ dlen n:=(dlenF_spec n n (Nat.le_refl _)).1
theorem dlen_ge {n:Nat} (h:0 < dlen n):10 ^ (dlen n - 1)≤n:=(dlenF_spec n n (Nat.le_refl _)).2 h
theorem dlen_pos {n:Nat} (h:0 < n):0 < dlen n:=by
 rcases Nat.eq_zero_or_pos (dlen n) with h' | h'
 · have:=dlen_lt n
   rw [h'] at this
   simp at this
   omega
 · exact h'
theorem dlen_le {n k:Nat} (h:n < 10 ^ k):dlen n≤k:=by
 rcases Nat.lt_or_ge k (dlen n) with h' | h'
 · exfalso
   have a:=dlen_ge (n:=n) (by omega)
   have b:10 ^ k≤10 ^ (dlen n - 1):=Nat.pow_le_pow_right (by decide) (by omega)
   omega
 · exact h'
def ch (d:Nat):UInt8:=UInt8.ofNat (48 + d)
theorem ch_nat {d:Nat} (h:d < 10):(ch d).toNat = 48 + d:=by
 unfold ch
 rw [UInt8.toNat_ofNat']
 omega
def nt (n:Nat):List UInt8:=((dig (dlen n) n).map ch).reverse
def zt (z:Int):List UInt8:=if z = 0 then [48] else if z < 0 then 45 :: nt z.natAbs else nt z.natAbs
theorem nt_len (n:Nat):(nt n).length = dlen n:=by simp [nt,dig_len]
def rdn (l:List UInt8):Nat:=l.foldl (fun a c=>10 * a + (c.toNat - 48)) 0
theorem rdn_snoc (l:List UInt8) (c:UInt8):rdn (l ++ [c]) = 10 * rdn l + (c.toNat - 48):=by simp [rdn]
theorem rdn_dig (k n:Nat):rdn (((dig k n).map ch).reverse) = n % 10 ^ k:=by
 induction k generalizing n with
 | zero=>simp [dig,rdn,Nat.mod_one]
 | succ k ih =>
  simp only [dig,List.map_cons,List.reverse_cons,rdn_snoc,ih]
  rw [ch_nat (by omega),Nat.pow_succ,Nat.mul_comm (10 ^ k) 10,Nat.mod_mul]
  omega
theorem rdn_nt (n:Nat):rdn (nt n) = n:=by rw [nt,rdn_dig,Nat.mod_eq_of_lt (dlen_lt n)]
def isDig (c:UInt8):Bool:=decide (48≤c.toNat) && decide (c.toNat≤57)
theorem isDig_ch {d:Nat} (h:d < 10):isDig (ch d) = true:=by
 unfold isDig
 rw [ch_nat h]
 simp
 omega
theorem nt_dig (n:Nat):∀ c ∈ nt n,isDig c = true:=by
 intro c hc
 simp only [nt,List.mem_reverse,List.mem_map] at hc
 obtain ⟨d,hd,rfl⟩:=hc
 exact isDig_ch (dig_lt _ _ d hd)
theorem nt_cons {n:Nat} (h:0 < n):∃ d l,nt n = ch d :: l∧0 < d∧d < 10:=by
 have hp:=dlen_pos h
 obtain ⟨k,hk⟩ : ∃ k,dlen n = k + 1:=⟨dlen n - 1,by omega⟩
 refine ⟨n / 10 ^ k % 10,((dig k n).map ch).reverse,by rw [nt,hk,dig_snoc]; simp,?_,by omega⟩
 have a:=dlen_lt n
 have b:=dlen_ge hp
 rw [hk] at a b
 rw [Nat.add_sub_cancel] at b
 have hpk:=Nat.pow_pos (n:=k) (show 0 < 10 by decide)
 have c1:n / 10 ^ k < 10:=Nat.div_lt_of_lt_mul (by rw [Nat.pow_succ] at a; omega)
 have c2:1≤n / 10 ^ k:=(Nat.le_div_iff_mul_le hpk).2 (by omega)
 rw [Nat.mod_eq_of_lt c1]
 omega
end Go.Dig
namespace Go.Dig
def unsg (s:List UInt8):List UInt8:=if s.head? = some 45 then s.tail else s
def isNum (s:List UInt8):Prop:=unsg s ≠ []∧(∀ c ∈ unsg s,isDig c = true)∧¬ ((unsg s).head? = some 48∧s ≠ [48])
def pval (s:List UInt8):Int:=if s.head? = some 45 then - ((rdn (unsg s):Nat):Int) else ((rdn (unsg s):Nat):Int)
def okNum (s:List UInt8):Prop:=isNum s∧(unsg s).length≤2000
def isNml (d:List UInt8):Prop:=d ≠ []∧(∀ c ∈ d,isDig c = true)∧¬ (2≤d.length∧d.head? = some 48)
theorem isNum_iff (s:List UInt8):isNum s ↔ isNml (unsg s)∧¬ (s.head? = some 45∧unsg s = [48]):=by
 unfold isNum isNml
 constructor
 · rintro ⟨h1,h2,h3⟩
   refine ⟨⟨h1,h2,fun h=>h3 ⟨h.2,?_⟩⟩,fun h=>h3 ⟨by rw [h.2]; rfl,?_⟩⟩
   · rintro rfl
     exact absurd h.1 (by decide)
   · rintro rfl
     exact absurd h.1 (by decide)
 · rintro ⟨⟨h1,h2,h3⟩,h4⟩
   refine ⟨h1,h2,fun h=>?_⟩
   by_cases hs:s.head? = some 45
   · rcases hd:unsg s with _ | ⟨a,_ | ⟨b,r⟩⟩
     · exact h1 hd
     · rw [hd] at h
       simp at h
       exact h4 ⟨hs,by rw [hd,h.1]⟩
     · rw [hd] at h h3
       exact h3 ⟨by simp,h.1⟩
   · have e:unsg s = s:=if_neg hs
     rw [e] at h h3 h1
     rcases s with _ | ⟨a,_ | ⟨b,r⟩⟩
     · exact h1 rfl
     · simp at h
     · exact h3 ⟨by simp,h.1⟩
theorem isDig_ne45:isDig 45 = false:=by decide
theorem nt_head (n:Nat):(nt n).head? ≠ some 45:=by
 intro h
 rcases hl:nt n with _ | ⟨a,r⟩
 · rw [hl] at h; cases h
 · rw [hl] at h
   have:=nt_dig n a (by rw [hl]; simp)
   simp at h
   rw [h,isDig_ne45] at this
   cases this
theorem unsg_zt (z:Int) (hz:z ≠ 0):unsg (zt z) = nt z.natAbs:=by
 unfold zt
 rw [if_neg hz]
 split
 · rfl
 · exact if_neg (nt_head _)
theorem zt_head (z:Int):(zt z).head? = some 45 ↔ z < 0:=by
 unfold zt
 by_cases h0:z = 0
 · rw [if_pos h0]; subst h0; decide
 · rw [if_neg h0]
   by_cases h1:z < 0
   · rw [if_pos h1]; simp [h1]
   · rw [if_neg h1]
     exact ⟨fun h=>absurd h (nt_head _),fun h=>absurd h h1⟩
theorem zt_num (z:Int):isNum (zt z):=by
 by_cases h0:z = 0
 · subst h0; exact ⟨by decide,by decide,by decide⟩
 · unfold isNum
   rw [unsg_zt z h0]
   obtain ⟨d,l,hd,h1,h2⟩:=nt_cons (n:=z.natAbs) (by omega)
   refine ⟨by rw [hd]; simp,nt_dig _,?_⟩
   rw [hd]
   rintro ⟨h,_⟩
   simp at h
   have:=ch_nat h2
   rw [h] at this
   simp at this
   omega
theorem pval_zt (z:Int):pval (zt z) = z:=by
 by_cases h0:z = 0
 · subst h0; decide
 · unfold pval
   rw [unsg_zt z h0,rdn_nt]
   by_cases h1:z < 0
   · rw [if_pos ((zt_head z).2 h1)]; omega
   · rw [if_neg (fun h=>h1 ((zt_head z).1 h))]; omega
def okLen (z:Int):Prop:=dlen z.natAbs≤2000
instance (z:Int):Decidable (okLen z):=by unfold okLen; exact inferInstance
theorem unsg_len (z:Int):(unsg (zt z)).length≤2000 ↔ okLen z:=by
 by_cases h0:z = 0
 · subst h0; decide
 · rw [unsg_zt z h0,nt_len]; rfl
theorem okNum_zt {z:Int} (h:okLen z):okNum (zt z):=⟨zt_num z,(unsg_len z).2 h⟩
theorem zt_len (z:Int):(zt z).length≤dlen z.natAbs + 1:=by
 unfold zt
 split
 · simp
 · split
   · simp [nt_len]
   · rw [nt_len]; omega
def rowT (M:Nat→Nat→Int) (i:Nat):Nat→List UInt8
 | 0=>[]
 | j + 1=>rowT M i j ++ (if j = 0 then [] else [32]) ++ zt (M i j)
def linesT (M:Nat→Nat→Int):Nat→List UInt8
 | 0=>[]
 | i + 1=>linesT M i ++ (rowT M i (i + 1) ++ [10])
def headT (n:Nat):List UInt8:=[102,111,114,109,32] ++ [ch n] ++ [10]
def formT (n:Nat) (M:Nat→Nat→Int):List UInt8:=headT n ++ linesT M n
def okT (n:Nat) (M:Nat→Nat→Int):Prop:=∀ i j,i < n→j≤i→okLen (M i j)
theorem rowT_len {M:Nat→Nat→Int} {i j:Nat} (h:∀ k,k < j→okLen (M i k)):(rowT M i j).length≤2002 * j:=by
 induction j with
 | zero=>simp [rowT]
 | succ j ih =>
  have a:=ih fun k hk=>h k (by omega)
  have b:=zt_len (M i j)
  have c:=h j (by omega)
  unfold okLen at c
  simp only [rowT,List.length_append]
  split
  · simp; omega
  · simp; omega
theorem linesT_len {M:Nat→Nat→Int} {i:Nat} (hi:i≤8) (h:∀ a k,a < i→k≤a→okLen (M a k)):(linesT M i).length≤16017 * i:=by
 induction i with
 | zero=>simp [linesT]
 | succ i ih =>
  have a:=ih (by omega) fun a k ha hk=>h a k (by omega) hk
  have b:=rowT_len (M:=M) (i:=i) (j:=i + 1) fun k hk=>h i k (by omega) (by omega)
  simp only [linesT,List.length_append,List.length_cons,List.length_nil]
  omega
end Go.Dig
namespace Go.Eng
open Go Go.RowKit
abbrev Tx (l:List UInt8):Value:=.string ⟨l.toArray⟩
theorem tx_size (l:List UInt8):(ByteArray.mk l.toArray).size = l.length:=by simp [ByteArray.size]
theorem tx_get {l:List UInt8} {j:Nat} (h:j < (ByteArray.mk l.toArray).size):(ByteArray.mk l.toArray)[j]'h = l[j]'(by rw [tx_size] at h; exact h):=by
 show (ByteArray.mk l.toArray).data[j] = _
 simp
def It (w:World) (k:Nat) (l:List UInt8) (pos:Nat):Prop:=w.heap[k]? = some (.stringIter ⟨l.toArray⟩ pos)
theorem It.lt {w:World} {k:Nat} {l:List UInt8} {pos:Nat} (h:It w k l pos):k < w.heap.size:=(Array.getElem?_eq_some_iff.1 h).1
theorem It.ext {w w':World} {k:Nat} {l:List UInt8} {pos:Nat} (h:It w k l pos) (hE:Ext w w'):It w' k l pos:=(hE.blk h.lt).trans h
theorem ch_iterAt {w:World} {k:Nat} (s:ByteArray) (pos:Nat):Ch (fun b=>b = k) w (w.iterAt k s pos) :=
 ⟨rfl,rfl,rfl,by rw [Lib.iterAt_size]; exact Nat.le_refl _,fun b _ hn=>Lib.iterAt_other w k b s pos hn⟩
theorem ext_of_below {B:Nat} {w0 w w':World} (h0:Ext w0 w) (hB:w0.heap.size≤B) (h:Below B w w'):Ext w0 w' :=
 ⟨h.os.trans h0.os,h.tape.trans h0.tape,h.output.trans h0.output,Nat.le_trans h0.size h.size,fun b hb _=>(h.block b (by omega)).trans (h0.block b hb id)⟩
section
variable {P:Program} {n:Nat} {S:World→World→Prop} {k:Nat} {K:Fr→World→Prop} {f:Fr} {w:World}
 {d ty t t2:Nat} {x y:Operand} {pos:String} {aft:Array Edge} {gd:Option (Nat × Bool)}
theorem R1_lenS {l:List UInt8} (hT:TyD P t .string) (hx:ev n f x = Tx l) (h:K (upd f d (.int .i64 ((l.length:Nat):Int))) w) :
 R1 P n S k ⟨some d,.call { callee:=.builtin .len,args:=#[x],argTypes:=#[t] },ty,pos,aft,gd⟩ K f w:=by
 unfold TyD at hT
 refine R1_pure (v:=.int .i64 ((l.length:Nat):Int)) (fun w=>?_) h
 simp only [execOp,resolve,invoke,builtin,Sem.run_bind,Sem.run_pure,Result.andThen_ok,List.map_toArray,List.map_cons,List.map_nil,hx,run_len_string _ _ _ _ hT,tx_size,goInt]
theorem R1_catS {a b:List UInt8} (hx:ev n f x = Tx a) (hy:ev n f y = Tx b) (hs:a.length + b.length≤9223372036854775807) (h:K (upd f d (Tx (a ++ b))) w) :
 R1 P n S k ⟨some d,.binOp .add t x y t2,ty,pos,aft,gd⟩ K f w :=
 R1_bin hx hy (fun _=>by simp [eqGuard,go_sem]) (fun w=>by rw [binOp_string_add,run_string_add_sum w _ _ (by rw [tx_size,tx_size]; exact hs),ByteArray.mk_append_mk]) h
theorem R1_eqlS {a b:List UInt8} (hx:ev n f x = Tx a) (hy:ev n f y = Tx b) (h:K (upd f d (.bool (decide (a = b)))) w) :
 R1 P n S k ⟨some d,.binOp .eql t x y t2,ty,pos,aft,gd⟩ K f w :=
 R1_bin hx hy (fun _=>by simp [eqGuard,go_sem]) (fun w=>by
  rw [binOp_string_eql,ByteArray.toList_mk,ByteArray.toList_mk,show (a == b) = decide (a = b) by by_cases h:a = b <;> simp [h]]; rfl) h
theorem R1_neqS {a b:List UInt8} (hx:ev n f x = Tx a) (hy:ev n f y = Tx b) (h:K (upd f d (.bool (decide (¬ a = b)))) w) :
 R1 P n S k ⟨some d,.binOp .neq t x y t2,ty,pos,aft,gd⟩ K f w :=
 R1_bin hx hy (fun _=>by simp [eqGuard,go_sem]) (fun w=>by
  rw [binOp_string_neq,ByteArray.toList_mk,ByteArray.toList_mk,show (!(a == b)) = decide (¬ a = b) by by_cases h:a = b <;> simp [h]]; rfl) h
theorem R1_idxS {l:List UInt8} {b:UInt8} {kk:IntKind} {j:Nat} (hT:TyD P t .string) (hx:ev n f x = Tx l) (hy:ev n f y = .int kk ((j:Nat):Int)) (hb:l[j]? = some b) (h:K (upd f d (.int .u8 ((b.toNat:Nat):Int))) w) :
 R1 P n S k ⟨some d,.index t x y,ty,pos,aft,gd⟩ K f w :=
 R1_indexStr hT hx hy (by
  have hj:j < l.length:=by
   rcases Nat.lt_or_ge j l.length with h' | h'
   · exact h'
   · rw [List.getElem?_eq_none h'] at hb; cases hb
  rw [ByteArray.getElem?_lt' _ _ (by rw [tx_size]; exact hj),tx_get]
  rw [List.getElem?_eq_getElem hj] at hb
  exact hb) h
theorem R1_dropS {l:List UInt8} {a:Nat} {lo:Operand} (hT:TyD P t .string) (hx:ev n f x = Tx l) (hl:ev n f lo = .int .i64 ((a:Nat):Int)) (ha:a≤l.length)
 (h:K (upd f d (Tx (l.drop a))) w):R1 P n S k ⟨some d,.slice t x (some lo) none none,ty,pos,aft,gd⟩ K f w:=by
 unfold TyD at hT
 refine R1_pure (v:=Tx (l.drop a)) (fun w=>?_) h
 have h1:=run_slice_string_from_if (P:=P) w t ⟨l.toArray⟩ .i64 (a:Int) hT
 rw [if_pos (by rw [tx_size]; omega),Int.toNat_natCast,ByteArray.extract_mk,tx_size,List.take_of_length_le (by simp)] at h1
 simp [execOp,hx,hl,Instr.sliceAt,run_underlying hT,h1]
theorem R1_takeS {l:List UInt8} {b:Nat} {hi:Operand} (hT:TyD P t .string) (hx:ev n f x = Tx l) (hr:ev n f hi = .int .i64 ((b:Nat):Int)) (hb:b≤l.length)
 (h:K (upd f d (Tx (l.take b))) w):R1 P n S k ⟨some d,.slice t x none (some hi) none,ty,pos,aft,gd⟩ K f w:=by
 unfold TyD at hT
 refine R1_pure (v:=Tx (l.take b)) (fun w=>?_) h
 have h1:=run_slice_string_to_if (P:=P) w t ⟨l.toArray⟩ .i64 (b:Int) hT
 rw [if_pos (by rw [tx_size]; omega),Int.toNat_natCast,ByteArray.extract_mk,List.drop_zero,Nat.sub_zero] at h1
 simp [execOp,hx,hr,Instr.sliceAt,run_underlying hT,h1]
def bcs (l:List UInt8):List Value:=l.map fun b=>.int .u8 ((b.toNat:Nat):Int)
theorem bcs_len (l:List UInt8):(bcs l).length = l.length:=by simp [bcs]
theorem R1_ofBytes {l:List UInt8} {a:Addr} {m cap:Nat} (h3:k ≠ 3) (hs:∃ e,TyD P t (.slice e)∧TyD P e (.int .u8)) (ht:TyD P t2 .string) (hx:ev n f x = .slice (some a) m cap) (hm:m = l.length)
 (hc:∀ w',S w w' ∨ w' = w→∀ j (hj:j < l.length),w'.cell? (a.add j) = some (.int .u8 (l[j].toNat:Int))) (h:K (upd f d (Tx l)) w) :
 R1 P n S k ⟨some d,.convert t t2 x,ty,pos,aft,gd⟩ K f w:=by
 obtain ⟨e,hs,he⟩:=hs
 unfold TyD at hs he ht
 subst hm
 refine R1_read (v:=Tx l) h3 (fun w' hw=>?_) h
 simp only [execOp,hx,Sem.run_bind,run_convert_bytes_back w' t t2 e a cap l hs he ht (hc w' hw),Result.andThen_ok,Sem.run_pure]
theorem R1_rangeS {l:List UInt8} (hT:TyD P t .string) (hS:k = 2 ∨ k = 1∧∀ w',Ext w w'→S w w') (hx:ev n f x = Tx l)
 (h:∀ w',It w' w.heap.size l 0→Ext w w'→w'.heap.size = w.heap.size + 1→K (upd f d (.pointer (some ⟨w.heap.size,0,none⟩))) w') :
 R1 P n S k ⟨some d,.range t x,ty,pos,aft,gd⟩ K f w:=by
 unfold TyD at hT
 refine R1_loud (w':=w.alloc (.stringIter ⟨l.toArray⟩ 0)) (v:=.pointer (some ⟨w.heap.size,0,none⟩)) (hS.imp id fun h=>⟨h.1,h.2 _ (ch_alloc w _)⟩) ?_ (h _ (heap_alloc_new w _) (ch_alloc w _) (by simp))
 simp only [execOp,hx,Sem.run_bind,run_range_string w t _ hT,Result.andThen_ok,Sem.run_pure]
 rfl
theorem R1_nextS {l:List UInt8} {g p:Nat} {c:UInt8} (hk:k = 2) (hx:ev n f x = .pointer (some ⟨g,0,none⟩)) (hI:It w g l p) (hc:l[p]? = some c)
 (h:∀ w' (q:Nat) (r:Int),It w' g l q→Ch (fun b=>b = g) w w'→w'.heap.size = w.heap.size→p < q→r≤2147483647→(c.toNat < 128→q = p + 1∧r = ((c.toNat:Nat):Int))→(128≤c.toNat→128≤r) →
  K (upd f d (.tuple #[.bool true,.int .i64 ((p:Nat):Int),.int .i32 r])) w') :
 R1 P n S k ⟨some d,.next x true,ty,pos,aft,gd⟩ K f w:=by
 have hp:p < l.length:=by
  rcases Nat.lt_or_ge p l.length with h' | h'
  · exact h'
  · rw [List.getElem?_eq_none h'] at hc; cases hc
 have hp':p < (ByteArray.mk l.toArray).size:=by rw [tx_size]; exact hp
 have e:(ByteArray.mk l.toArray)[p]'hp' = c:=by
  rw [tx_get]
  rw [List.getElem?_eq_getElem hp] at hc
  exact Option.some.inj hc
 have hh:=h (w.iterAt g ⟨l.toArray⟩ (p + (Utf8.decode ⟨l.toArray⟩ p).2)) (p + (Utf8.decode ⟨l.toArray⟩ p).2) (Utf8.decode ⟨l.toArray⟩ p).1 (Lib.iterAt_heap w g _ p _ hI) (ch_iterAt _ _) (Lib.iterAt_size _ _ _ _)
  (by
   rcases Nat.lt_or_ge c.toNat 128 with h' | h'
   · rw [decode_ascii _ p hp' (by rw [e]; exact h')]; simp
   · have:=(decode_high _ p hp' (by rw [e]; exact h')).2; omega)
  (Int.ofNat_le.2 (decode_le _ _))
  (fun h'=>by rw [decode_ascii _ p hp' (by rw [e]; exact h'),e]; exact ⟨rfl,rfl⟩)
  (fun h'=>Int.ofNat_le.2 (decode_high _ p hp' (by rw [e]; exact h')).1)
 refine R1_loud (.inl hk) ?_ hh
 simp only [execOp,hx,Sem.run_bind,Lib.run_next_any_at w g _ p _ hI hp',Result.andThen_ok,Sem.run_pure]
theorem R1_nextE {l:List UInt8} {g p:Nat} (hx:ev n f x = .pointer (some ⟨g,0,none⟩)) (hk:k = 2) (hI:It w g l p) (hp:l.length≤p)
 (h:K (upd f d (.tuple #[.bool false])) w):R1 P n S k ⟨some d,.next x true,ty,pos,aft,gd⟩ K f w:=by
 refine R1_loud (w':=w) (.inl hk) ?_ h
 simp only [execOp,hx,Sem.run_bind,Lib.run_next_end_at w g _ p _ hI (by rw [tx_size]; omega),Result.andThen_ok,Sem.run_pure]
theorem Rl_noV {ops:Array Oper} {o:Oper} {rest:List Oper} {j:Nat} {b:Bool} {t:Tmp} (h:o.guard = some (j,b)) (hj:(ops[j]?).bind (·.dst) = some t) (ht:ev n f (.tmp t) = undef) (hn:Nat.blt t n = true)
 (hr:Rl P n ops K rest (updO f o.dst undef) w):Rl P n ops K (o :: rest) f w:=by
 have e:want n ops f o = false:=by
  have hlt:t < n:=by simpa using hn
  have hv:f t = undef:=by simpa [ev,hn] using ht
  simp [want,Region.wanted,h,yielded,hj,act,hlt,hv,undef]
 unfold Rl
 rw [e]
 simpa using hr
end
end Go.Eng
namespace Go.Proofs.YtncbjgblcofddaaGreatDoor
open Go Go.Eng Go.Num Go.Dig Go.Proofs
theorem sl_u8:SliceTy Tryz.prog 61 5 1 1 (.int .u8 0):=⟨Tryz.underlying61,by kernel_rfl⟩
theorem by_u8:∃ e,TyD Tryz.prog 61 (.slice e)∧TyD Tryz.prog e (.int .u8):=⟨5,by unfold TyD; exact Tryz.underlying61,ty_u8⟩
theorem bcs_snoc (l:List UInt8) (c:UInt8):bcs (l ++ [c]) = bcs l ++ [.int .u8 ((c.toNat:Nat):Int)]:=by simp [bcs]
def OwB (w:World) (base:Nat) (v:Value) (l:List UInt8):Prop:=w.ownsRow base 5 1 v l.length (bcs l)
theorem OwB.nil (w:World) (base:Nat):OwB w base (.slice none 0 0) []:=World.ownsRow_nil _ _ _ _
theorem OwB.ext {w w':World} {base:Nat} {v:Value} {l:List UInt8} (h:OwB w base v l) (hE:Ext w w'):OwB w' base v l:=by
 refine ⟨h.1,?_⟩
 rcases h.2 with h' | ⟨g,cap,cur,h1,h2,h3,h4⟩
 · exact .inl h'
 · have hb:Blk w g 5 cur:=h3
   exact .inr ⟨g,cap,cur,h1,h2,hb.ext hE,h4⟩
theorem OwB.ch {M:Nat→Prop} {w w':World} {base:Nat} {v:Value} {l:List UInt8} (h:OwB w base v l) (hC:Ch M w w') (hn:∀ b,some b = v.ownBlock→¬ M b):OwB w' base v l:=by
 refine ⟨h.1,?_⟩
 rcases h.2 with h' | ⟨g,cap,cur,rfl,h2,h3,h4⟩
 · exact .inl h'
 · have hb:Blk w g 5 cur:=h3
   exact .inr ⟨g,cap,cur,rfl,h2,hb.ch hC (hn g rfl),h4⟩
theorem OwB.blk {w:World} {base:Nat} {v:Value} {l:List UInt8} (h:OwB w base v l) {b:Nat} (hb:some b = v.ownBlock):base≤b∧∃ cs,Blk w b 5 cs:=by
 rcases h.2 with ⟨rfl,_⟩ | ⟨g,cap,cur,rfl,h2,h3,_⟩
 · simp [Value.ownBlock] at hb
 · simp [Value.ownBlock] at hb
   subst hb
   exact ⟨h2,cur,h3⟩
def Bb (w:World) (g cap n:Nat) (F:Nat→UInt8):Prop:=∃ cs,Blk w g 5 cs∧cs.size = cap∧∀ k,k < n→cs[k]? = some (.int .u8 (((F k).toNat:Nat):Int))
theorem Bb.at {w:World} {g cap n:Nat} {F:Nat→UInt8} (h:Bb w g cap n F) {k:Nat} (hk:k < n):w.cell? ⟨g,0 + k * 1,none⟩ = some (.int .u8 (((F k).toNat:Nat):Int)):=by
 obtain ⟨cs,hb,_,hc⟩:=h
 rw [hb.cell,Nat.zero_add,Nat.mul_one]
 exact hc k hk
theorem OwB.bb {w:World} {base:Nat} {v:Value} {l:List UInt8} (h:OwB w base v l) (hl:l ≠ []):∃ g cap,v = .slice (some ⟨g,0,none⟩) l.length cap∧base≤g∧l.length≤cap∧cap≤9223372036854775807∧Bb w g cap l.length (fun k=>l.getD k 0):=by
 rcases h.2 with ⟨_,h0⟩ | ⟨g,cap,cur,h1,h2,h3,h4,h5,h6,h7⟩
 · exact absurd (List.eq_nil_of_length_eq_zero h0) hl
 · refine ⟨g,cap,h1,h2,h4,h5,cur,h3,by rw [h6,Nat.mul_one],fun k hk=>?_⟩
   rw [Nat.mul_one] at h7
   have e:(bcs l)[k]? = cur[k]?:=by
    rw [← h7,List.getElem?_take_of_lt hk]
    simp
   rw [← e]
   simp [bcs,hk,List.getD]
theorem Bb.ow {w:World} {base g cap:Nat} {l:List UInt8} (h:Bb w g cap l.length (fun k=>l.getD k 0)) (h1:base≤g) (h2:l.length≤cap) (h3:cap≤9223372036854775807):OwB w base (.slice (some ⟨g,0,none⟩) l.length cap) l:=by
 obtain ⟨cs,hb,hs,hc⟩:=h
 refine ⟨by rw [bcs_len,Nat.mul_one],.inr ⟨g,cap,cs,rfl,h1,hb,h2,h3,by rw [hs,Nat.mul_one],?_⟩⟩
 apply List.ext_getElem?
 intro k
 rw [Nat.mul_one]
 by_cases hk:k < l.length
 · rw [List.getElem?_take_of_lt hk,Array.getElem?_toList,hc k hk]
   simp [bcs,hk,List.getD]
 · rw [List.getElem?_take_eq_none (by omega),List.getElem?_eq_none (by rw [bcs_len]; omega)]
theorem OwB.cells {w:World} {base g n cap:Nat} {l:List UInt8} (h:OwB w base (.slice (some ⟨g,0,none⟩) n cap) l):∀ j (hj:j < l.length),w.cell? ((⟨g,0,none⟩ : Addr).add j) = some (.int .u8 (l[j].toNat:Int)):=by
 intro j hj
 obtain ⟨g',cap',e,_,_,_,hB⟩:=h.bb (by rintro rfl; simp at hj)
 cases e
 rw [add_lit]
 have:=hB.at hj
 rw [Nat.mul_one] at this
 rw [this]
 simp [List.getD,hj]
theorem Bb.set {w':World} {g cap n:Nat} {F:Nat→UInt8} {cs:Array Value} (h:∀ k,k < n→cs[k]? = some (.int .u8 (((F k).toNat:Nat):Int))) (hs:cs.size = cap) {i:Nat} {c:UInt8} (hi:i < cap)
 (hb:Blk w' g 5 (cs.setIfInBounds (0 + i * 1) (.int .u8 ((c.toNat:Nat):Int)))):Bb w' g cap n (fun k=>if k = i then c else F k):=by
 refine ⟨_,hb,by simpa using hs,fun k hk=>?_⟩
 rw [Nat.zero_add,Nat.mul_one,Array.getElem?_setIfInBounds]
 by_cases e:k = i
 · subst e; rw [if_pos rfl,if_pos (by omega)]; simp
 · rw [if_neg (fun h=>e h.symm)]; simp only [if_neg e]; exact h k hk
theorem OwB.take {w:World} {base g n cap:Nat} {l:List UInt8} (h:OwB w base (.slice (some ⟨g,0,none⟩) n cap) l) (m:Nat) (hm:m≤l.length):OwB w base (.slice (some ⟨g,0,none⟩) m cap) (l.take m):=by
 rcases h.2 with ⟨h0,_⟩ | ⟨g',cap',cur,h1,h2,h3,h4,h5,h6,h7⟩
 · cases h0
 · cases h1
   have e:(l.take m).length = m:=List.length_take_of_le hm
   refine ⟨by rw [bcs_len,Nat.mul_one],.inr ⟨_,_,cur,by rw [e],h2,h3,by omega,h5,h6,?_⟩⟩
   rw [e,Nat.mul_one]
   rw [Nat.mul_one] at h7
   have:cur.toList.take m = (cur.toList.take l.length).take m:=by rw [List.take_take,Nat.min_eq_left hm]
   rw [this,h7]
   simp [bcs,List.map_take]
section
variable {n:Nat} {S:World→World→Prop} {k:Nat} {K:Fr→World→Prop} {f:Fr} {w:World}
 {d ty t t2:Nat} {x y:Operand} {pos:String} {aft:Array Edge} {gd:Option (Nat × Bool)}
theorem R1_pushB {base g:Nat} {a:UInt8} {v:Value} {l:List UInt8} (hk:k = 2) (hx:ev n f x = v) (hown:OwB w base v l) (hy:ev n f y = .slice (some ⟨g,0,none⟩) 1 1) (hb:Blk w g 5 #[.int .u8 ((a.toNat:Nat):Int)])
 (hl:l.length < 4398046511104) (hbase:base≤w.heap.size)
 (h:∀ v' w',OwB w' base v' (l ++ [a])→Ch (fun b=>some b = v.ownBlock) w w'→(v'.ownBlock = v.ownBlock ∨ v'.ownBlock = some w.heap.size)→K (upd f d v') w') :
 R1 Tryz.prog n S k ⟨some d,.call { callee:=.builtin .append,args:=#[x,y],argTypes:=#[61,61] },ty,pos,aft,gd⟩ K f w:=by
 refine R1_append (base:=base) (m0:=l.length) (m:=1) (news:=[.int .u8 ((a.toNat:Nat):Int)]) (v:=v) sl_u8 rfl (by decide) (.inl hk) hx hown hy rfl (fun j u hj=>?_) (fun u hu=>by simp at hu; subst hu; rfl) (by omega) (by omega) hbase ?_
 · match j,hj with
   | 0,hj=>simp at hj; subst hj; exact ⟨_,rfl,by rw [add_lit,hb.cell]; rfl⟩
   | j + 1,hj=>simp at hj
 · intro v' w' ho hC hor
   refine h v' w' ?_ hC hor
   unfold OwB
   rw [List.length_append,bcs_snoc]
   exact ho
end
theorem sl_str:SliceTy Tryz.prog 119 9 1 16 (.string ByteArray.empty):=⟨Tryz.underlying119,by kernel_rfl⟩
theorem one_str:oneTy Tryz.prog 9 = true:=by kernel_rfl
theorem fa_Rd0:FieldA Tryz.prog 111 0 0:=by
 unfold FieldA
 intro a w
 simp [Instr.fieldAt,run_underlying Tryz.underlying111,Instr.sureAddr,fieldPlace,size_one one_str]
theorem fa_Rd1:FieldA Tryz.prog 111 1 1:=by
 unfold FieldA
 intro a w
 simp [Instr.fieldAt,run_underlying Tryz.underlying111,Instr.sureAddr,fieldPlace]
theorem gb {G G':Prop} (h:G') (t:Gw G'→G:=by intro hgg; (repeat (first | (first | (first | (refine R1_isR1 ?_; (first | refine R1_moveT rfl ?_ | refine R1_assignT rfl ?_ | refine R1_moveCi ?_ | refine R1_assignCi ?_ | refine R1_moveC ?_ | refine R1_assignC ?_ | (refine R1_isBin ?_; (first | refine R1_lss_i64_c rfl ?_ | refine R1_lss_i64 rfl rfl ?_ | refine R1_add_i64_c rfl (by omega) ?_ | refine R1_add_i64 rfl rfl (by omega) ?_ | refine R1_sub_i64_c rfl (by omega) (by omega) ?_ | refine R1_sub_i64 rfl rfl (by omega) (by omega) ?_ | refine R1_gtr_i64_c rfl ?_ | refine R1_gtr_i64 rfl rfl ?_ | refine R1_leq_i64_c rfl ?_ | refine R1_leq_i64 rfl rfl ?_ | refine R1_geq_i64_c rfl ?_ | refine R1_geq_i64 rfl rfl ?_ | refine R1_eql_i64_c rfl ?_ | refine R1_eql_i64 rfl rfl ?_ | refine R1_neq_i64_c rfl ?_ | refine R1_neq_i64 rfl rfl ?_ | refine R1_mul_i64_l rfl (by omega) ?_ | refine R1_mul_i64_c rfl (by omega) ?_ | refine R1_add_u64 rfl rfl (by omega) ?_ | refine R1_shr_u64_c rfl (by omega) ?_ | refine R1_shl_u64_c rfl (by omega) ?_ | refine R1_sub_u64_c rfl (by omega) (by omega) ?_ | refine R1_sub_i64_l rfl (by omega) (by omega) ?_ | refine R1_add_i64_l rfl (by omega) ?_ | refine R1_sub_z rfl rfl (by omega) (by omega) ?_ | refine R1_add_z rfl rfl (by omega) (by omega) ?_ | refine R1_geq_z rfl rfl ?_ | refine R1_lss_z rfl rfl ?_ | refine R1_gtr_z rfl rfl ?_ | refine R1_leq_z rfl rfl ?_ | refine R1_eql_z rfl rfl ?_ | refine R1_neq_z rfl rfl ?_ | refine R1_eql_bool ty_bool rfl rfl ?_ | refine R1_neq_bool ty_bool rfl rfl ?_ | refine R1_eql_u32_c rfl ?_ | refine R1_eql_u32 rfl rfl ?_ | refine R1_neq_u32_c rfl ?_ | refine R1_neq_u32 rfl rfl ?_ | refine R1_lss_u32 rfl rfl ?_ | refine R1_gtr_u32 rfl rfl ?_ | refine R1_eql_u64_c rfl ?_ | refine R1_eql_u64 rfl rfl ?_ | refine R1_neq_u64_c rfl ?_ | refine R1_neq_u64 rfl rfl ?_ | refine R1_lss_u64_c rfl ?_ | refine R1_lss_u64 rfl rfl ?_ | refine R1_gtr_u64_c rfl ?_ | refine R1_gtr_u64 rfl rfl ?_ | refine R1_leq_u64_c rfl ?_ | refine R1_leq_u64 rfl rfl ?_)) | (refine R1_isIndex ?_; (first | refine R1_index0B sl_sInt rfl (by omega) ?_ | refine R1_index0 sl_sInt rfl (by omega) ?_ | refine R1_index0B sl_si64 rfl (by omega) ?_ | refine R1_index0 sl_si64 rfl (by omega) ?_ | refine R1_indexB sl_u32 rfl rfl (by omega) ?_ | refine R1_indexB sl_Int rfl rfl (by omega) ?_ | refine R1_indexB sl_sInt rfl rfl (by omega) ?_ | refine R1_indexB sl_i64 rfl rfl (by omega) ?_ | refine R1_indexB sl_si64 rfl rfl (by omega) ?_ | refine R1_indexB sl_int rfl rfl (by omega) ?_ | refine R1_index sl_u32 rfl rfl (by omega) ?_ | refine R1_index sl_Int rfl rfl (by omega) ?_ | refine R1_index sl_sInt rfl rfl (by omega) ?_ | refine R1_index sl_i64 rfl rfl (by omega) ?_ | refine R1_index sl_si64 rfl rfl (by omega) ?_ | refine R1_index sl_int rfl rfl (by omega) ?_ | refine R1_index sl_i8 rfl rfl (by omega) ?_)) | (refine R1_isLoad ?_; (first | refine R1_load1F (by decide) (one_of rfl) rfl (by assumption) ?_ | refine R1_load1E (by decide) (one_of rfl) rfl (by assumption) ?_ | refine R1_load2F (by decide) agg_Int rfl (by assumption) (by assumption) ?_ | refine R1_load2E (by decide) agg_Int rfl (by assumption) (by assumption) ?_)) | (refine R1_isCall ?_; (first | refine R1_len sl_u32 rfl ?_ | refine R1_len sl_Int rfl ?_ | refine R1_len sl_sInt rfl ?_ | refine R1_len sl_i64 rfl ?_ | refine R1_len sl_si64 rfl ?_ | refine R1_len sl_int rfl ?_ | refine R1_len sl_i8 rfl ?_)) | (refine R1_isFA ?_; (first | refine R1_fieldAddr fa_Int0 rfl ?_ | refine R1_fieldAddr fa_Int1 rfl ?_ | refine R1_fieldAddr fa_Tape0 rfl ?_ | refine R1_fieldAddr fa_Tape1 rfl ?_ | refine R1_fieldAddr fa_Grid0 rfl ?_ | refine R1_fieldAddr fa_Grid1 rfl ?_ | refine R1_fieldAddr fa_Grid2 rfl ?_)) | refine R1_nilCheck rfl ?_ | (refine R1_isConv ?_; (first | refine R1_u32_u64 ty_u32 ty_u64 rfl (by omega) ?_ | refine R1_u64_u32 ty_u64 ty_u32 rfl ?_ | refine R1_u8_i64 ty_u8 ty_int rfl (by omega) ?_)) | refine R1_extract rfl rfl ?_ | refine R1_pickT rfl rfl ?_ | refine R1_pickF rfl rfl ?_ | refine R1_pickTC rfl ?_ | refine R1_pickFC rfl ?_ | refine R1_pickTD rfl (by omega) rfl ?_ | refine R1_pickFD rfl (by omega) rfl ?_ | refine R1_pickTCD rfl (by omega) ?_ | refine R1_pickFCD rfl (by omega) ?_ | refine R1_not rfl ?_ | refine R1_sliceH sl_u32 rfl rfl (by omega) ?_)) | (refine isRl ?_; (first | refine Rl_head rfl ?_ | refine Rl_nil ?_ | refine Rl_yes rfl rfl rfl rfl ?_ | refine Rl_no rfl rfl rfl rfl rfl ?_ | refine Rl_yesT rfl rfl rfl rfl (by omega) ?_ | refine Rl_noT rfl rfl rfl rfl (by omega) ?_ | refine Rl_yesF rfl rfl rfl rfl (by omega) ?_ | refine Rl_noF rfl rfl rfl rfl (by omega) ?_)) | (refine isRo ?_; (first | refine Ro_headL rfl rfl ?_ | refine Ro_nil ?_ | refine Ro_yesL rfl rfl rfl rfl rfl ?_ | refine Ro_noL rfl rfl rfl rfl rfl rfl ?_ | refine Ro_yesT rfl rfl rfl rfl rfl (by omega) ?_ | refine Ro_noT rfl rfl rfl rfl rfl (by omega) ?_ | refine Ro_yesF rfl rfl rfl rfl rfl (by omega) ?_ | refine Ro_noF rfl rfl rfl rfl rfl (by omega) ?_)) | (refine isW ?_; (first | refine W_seqR ?_ | refine W_seqB1 ?_ | refine W_seqB2 ?_ | refine W_seqB3 ?_ | refine W_reg ?_ | refine W_block ?_ | refine W_skip ?_ | refine W_exit ?_ | refine W_ret ?_ | refine W_testT rfl (by omega) ?_ | refine W_testF rfl (by omega) ?_ | refine W_decT rfl (by omega) ?_ | refine W_decF rfl (by omega) ?_ | refine W_true rfl ?_ | refine W_false rfl ?_)) | refine T_normal ?_ | refine T_exit ?_ | refine T_ret ?_ | refine B_normal ?_ | refine B_ret ?_ | refine B_same ?_ | refine B_other rfl ?_) | (refine R1_isR1 ?_; (first | refine R1_len sl_u8 rfl ?_ | refine R1_len sl_str rfl ?_ | refine R1_lenS ty_str rfl ?_ | refine R1_eqlS rfl rfl ?_ | refine R1_neqS rfl rfl ?_ | refine R1_indexB sl_u8 rfl rfl (by omega) ?_ | refine R1_indexB sl_str rfl rfl (by omega) ?_ | refine R1_lss_u8_c rfl ?_ | refine R1_gtr_u8_c rfl ?_ | refine R1_eql_u8_c rfl ?_ | refine R1_neq_u8_c rfl ?_ | refine R1_load1F (by decide) one_str rfl (by assumption) ?_ | refine R1_load1E (by decide) one_str rfl (by assumption) ?_ | refine R1_fieldAddr fa_Rd0 rfl ?_ | refine R1_fieldAddr fa_Rd1 rfl ?_))) | (refine isRl ?_; refine Rl_noV rfl rfl rfl rfl ?_))); exact hgg.out):G:=t ⟨h⟩
def bsw (l:List UInt8) (i k:Nat):UInt8:=if k < i ∨ l.length≤k + i then l.getD (l.length - 1 - k) 0 else l.getD k 0
theorem bsw_step {l:List UInt8} {i j k:Nat} (hj:j = l.length - 1 - i) (hlt:2 * i + 1 < l.length) (hk:k < l.length) :
 (if k = j then bsw l i i else if k = i then bsw l i j else bsw l i k) = bsw l (i + 1) k:=by
 unfold bsw
 by_cases e1:k = j
 · subst e1
   rw [if_pos rfl,if_neg (by omega),if_pos (by omega)]
   congr 1
   omega
 · rw [if_neg e1]
   by_cases e2:k = i
   · subst e2
     rw [if_pos rfl,if_neg (by omega),if_pos (by omega),hj]
   · rw [if_neg e2]
     by_cases e3:k < i ∨ l.length≤k + i
     · rw [if_pos e3,if_pos (by omega)]
     · rw [if_neg e3,if_neg (by omega)]
theorem bsw_end (l:List UInt8) {i k:Nat} (hi:l.length≤2 * i + 1) (hk:k < l.length):bsw l i k = l.reverse.getD k 0:=by
 unfold bsw
 have e:l.reverse.getD k 0 = l.getD (l.length - 1 - k) 0:=by
  simp [List.getD,List.getElem?_reverse hk]
 rw [e]
 by_cases h:k < i ∨ l.length≤k + i
 · rw [if_pos h]
 · rw [if_neg h,show l.length - 1 - k = k by omega]
set_option maxHeartbeats 16000000 in
theorem reverse_ok (g cap base:Nat) (l:List UInt8) (w:World) (h:OwB w base (.slice (some ⟨g,0,none⟩) l.length cap) l) (hl:l ≠ []) (hn:l.length < 1099511627776) :
 Meets Tryz.prog 174 #[.slice (some ⟨g,0,none⟩) l.length cap] w fun v w'=>v = .tuple #[]∧OwB w' base (.slice (some ⟨g,0,none⟩) l.length cap) l.reverse∧Ch (fun b=>b = g) w w'∧w'.heap.size = w.heap.size:=by
 obtain ⟨g',cap',e1,hg,hc1,hc2,hB⟩:=h.bb hl
 cases e1
 have hpos:0 < l.length:=List.length_pos_iff.2 hl
 refine fn_W (n:=28) Tryz.func174 rfl rfl (by kernel_rfl) (by simp) ?_
 refine gb ?_
 refine W_loop (fun m f w'=>∃ i,m = l.length - i∧2 * i≤l.length + 1∧f 0 = .slice (some ⟨g,0,none⟩) l.length cap∧f 2 = .int .i64 ((i:Nat):Int)∧f 3 = .int .i64 (((l.length:Int) - 1 - (i:Int)))∧Ch (fun b=>b = g) w w'∧w'.heap.size = w.heap.size∧Bb w' g cap l.length (bsw l i))
  l.length ⟨0,rfl,by omega,rfl,rfl,(by rw [show ((l.length:Int) - 1 - ((0:Nat):Int)) = ((l.length - 1:Nat):Int) by omega]; rfl),Ch.refl _ _,rfl,?_⟩ ?_
 · obtain ⟨cs,b1,b2,b3⟩:=hB
   refine ⟨cs,b1,b2,fun k hk=>?_⟩
   rw [b3 k hk]
   unfold bsw
   rw [if_neg (by omega)]
 rintro m f w1 ⟨i,rfl,hi,hf0,hf2,hf3,hC,hs,hB1⟩
 rw [ui hf0,ui hf2,ui hf3]
 clear hf0 hf2 hf3
 by_cases hlt:2 * i + 1 < l.length
 · obtain ⟨j,hj⟩ : ∃ j:Nat,j = l.length - 1 - i:=⟨_,rfl⟩
   have ej:((l.length:Int) - 1 - (i:Int)) = ((j:Nat):Int):=by omega
   rw [ej]
   have k1:=hB1.at (k:=i) (by omega)
   have k2:=hB1.at (k:=j) (by omega)
   obtain ⟨cs,b1,b2,b3⟩:=hB1
   refine W_seq ?_
   refine gb ?_
   refine W_regD [(0,3),(1,3),(2,3),(3,3),(4,3),(5,3),(6,3),(7,0),(8,3),(9,3),(10,3),(11,0),(12,3),(13,2),(14,3),(15,2)] mixed (by kernel_rfl) (fun w2 hE2 hh2=>?_)
   replace k1:=cell_ext hE2 k1
   replace k2:=cell_ext hE2 k2
   replace b1:=b1.ext hE2
   have hs2:w2.heap.size = w1.heap.size:=by rw [hh2]
   refine gb ?_
   refine R1_storeI (one_of rfl) (.inl rfl) rfl rfl b1 (by omega) ?_
   intro w3 b4 hC3 hs3
   obtain ⟨cs3,b5,b6,b7⟩:=Bb.set b3 b2 (c:=bsw l i j) (by omega) b4
   refine gb ?_
   refine R1_storeI (one_of rfl) (.inl rfl) rfl rfl b5 (by omega) ?_
   intro w4 b8 hC4 hs4
   have hB4:=Bb.set b7 b6 (c:=bsw l i i) (by omega) b8
   refine gb ?_
   refine ⟨_,?_,i + 1,rfl,by omega,rfl,rfl,by (rw [show ((l.length:Int) - 1 - ((i + 1:Nat):Int)) = ((j - 1:Nat):Int) by omega]; rfl),((hC.trans hE2.ch).trans hC3).trans hC4,by omega,?_⟩
   · omega
   · obtain ⟨cs4,c1,c2,c3⟩:=hB4
     refine ⟨cs4,c1,c2,fun k hk=>?_⟩
     rw [c3 k hk]
     simp only [bsw_step hj hlt hk]
 · refine W_seq ?_
   refine gb ?_
   refine ret0 rfl ⟨rfl,?_,hC,hs⟩
   have:Bb w1 g cap l.reverse.length (fun k=>l.reverse.getD k 0):=by
    obtain ⟨cs,c1,c2,c3⟩:=hB1
    refine ⟨cs,c1,c2,fun k hk=>?_⟩
    rw [List.length_reverse] at hk
    rw [c3 k hk,bsw_end l (by omega) hk]
   have:=this.ow hg (by rw [List.length_reverse]; exact hc1) hc2
   rwa [List.length_reverse] at this
end Go.Proofs.YtncbjgblcofddaaGreatDoor
