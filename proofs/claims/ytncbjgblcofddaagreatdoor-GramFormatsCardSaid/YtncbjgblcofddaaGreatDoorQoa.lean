/- Joined: Dig, Pnm. -/
import Derived.Test.YtncbjgblcofddaaGreatDoorQb
/- Decimal digits of natural numbers,their texts,and what a text of digits is read as: a plain text. -/
namespace Go.Dig
def dig:Nat→Nat→List Nat
 | 0,_=>[]
 | k + 1,n=>n % 10 :: dig k (n / 10)
theorem dig_len (k n:Nat):(dig k n).length = k:=by
 induction k generalizing n with
 | zero=>rfl
 | succ k ih=>simp [dig,ih]
theorem dig_add (a b n:Nat):dig (a + b) n = dig a n ++ dig b (n / 10 ^ a):=by
 induction a generalizing n with
 | zero=>simp [dig]
 | succ a ih =>
  rw [show a + 1 + b = (a + b) + 1 by omega]
  simp only [dig,ih,List.cons_append]
  rw [Nat.div_div_eq_div_mul,Nat.pow_succ,Nat.mul_comm 10]
theorem dig_snoc (k n:Nat):dig (k + 1) n = dig k n ++ [n / 10 ^ k % 10]:=dig_add k 1 n
theorem dig_lt (k n:Nat):∀ d ∈ dig k n,d < 10:=by
 induction k generalizing n with
 | zero=>simp [dig]
 | succ k ih =>
  intro d hd
  simp only [dig,List.mem_cons] at hd
  rcases hd with rfl | h
  · omega
  · exact ih _ d h
def dlenF:Nat→Nat→Nat
 | 0,_=>0
 | k + 1,n=>if n = 0 then 0 else dlenF k (n / 10) + 1
def dlen (n:Nat):Nat:=dlenF n n
theorem dlenF_uniq:∀ (k n L:Nat),n≤k→n < 10 ^ L→(0 < L→10 ^ (L - 1)≤n)→L = dlenF k n:=by
 intro k
 induction k with
 | zero =>
  intro n L hk h1 h2
  obtain rfl:n = 0:=by omega
  rcases Nat.eq_zero_or_pos L with h | h
  · exact h
  · have:=h2 h
    have:=Nat.pow_pos (n:=L - 1) (show 0 < 10 by decide)
    omega
 | succ k ih =>
  intro n L hk h1 h2
  unfold dlenF
  by_cases h0:n = 0
  · rw [if_pos h0]
    rcases Nat.eq_zero_or_pos L with h | h
    · exact h
    · have:=h2 h
      have:=Nat.pow_pos (n:=L - 1) (show 0 < 10 by decide)
      omega
  · rw [if_neg h0]
    rcases L with _ | L
    · simp at h1; omega
    · have h3:=h2 (by omega)
      rw [Nat.add_sub_cancel] at h3
      have e:=ih (n / 10) L (by omega) ?_ ?_
      · rw [← e]
      · rw [Nat.pow_succ] at h1
        exact Nat.div_lt_of_lt_mul (by omega)
      · intro hL
        rcases L with _ | L
        · omega
        · rw [Nat.pow_succ] at h3
          rw [Nat.add_sub_cancel]
          exact (Nat.le_div_iff_mul_le (by decide)).2 h3
theorem dlen_uniq {n L:Nat} (h1:n < 10 ^ L) (h2:0 < L→10 ^ (L - 1)≤n):L = dlen n:=dlenF_uniq n n L (Nat.le_refl _) h1 h2
theorem dlenF_spec:∀ (k n:Nat),n≤k→n < 10 ^ dlenF k n∧(0 < dlenF k n→10 ^ (dlenF k n - 1)≤n):=by
 intro k
 induction k with
 | zero=>intro n h; obtain rfl:n = 0:=by omega
         simp [dlenF]
 | succ k ih =>
  intro n h
  unfold dlenF
  by_cases h0:n = 0
  · rw [if_pos h0]; simp [h0]
  · rw [if_neg h0]
    obtain ⟨a,b⟩:=ih (n / 10) (by omega)
    generalize dlenF k (n / 10) = L at a b
    constructor
    · rw [Nat.pow_succ]
      have:=Nat.div_add_mod n 10
      have:=Nat.mod_lt n (show 10 > 0 by decide)
      omega
    · intro _
      rw [Nat.add_sub_cancel]
      rcases L with _ | L
      · simp; omega
      · have:=b (by omega)
        rw [Nat.add_sub_cancel] at this
        rw [Nat.pow_succ]
        exact (Nat.le_div_iff_mul_le (by decide)).1 this
theorem dlen_lt (n:Nat):n < 10 ^ dlen n:=(dlenF_spec n n (Nat.le_refl _)).1
theorem dlen_ge {n:Nat} (h:0 < dlen n):10 ^ (dlen n - 1)≤n:=(dlenF_spec n n (Nat.le_refl _)).2 h
theorem dlen_pos {n:Nat} (h:0 < n):0 < dlen n:=by
 rcases Nat.eq_zero_or_pos (dlen n) with h' | h'
 · have:=dlen_lt n
   rw [h'] at this
   simp at this
   omega
 · exact h'
theorem dlen_le {n k:Nat} (h:n < 10 ^ k):dlen n≤k:=by
 rcases Nat.lt_or_ge k (dlen n) with h' | h'
 · exfalso
   have a:=dlen_ge (n:=n) (by omega)
   have b:10 ^ k≤10 ^ (dlen n - 1):=Nat.pow_le_pow_right (by decide) (by omega)
   omega
 · exact h'
def ch (d:Nat):UInt8:=UInt8.ofNat (48 + d)
theorem ch_nat {d:Nat} (h:d < 10):(ch d).toNat = 48 + d:=by
 unfold ch
 rw [UInt8.toNat_ofNat']
 omega
def nt (n:Nat):List UInt8:=((dig (dlen n) n).map ch).reverse
def zt (z:Int):List UInt8:=if z = 0 then [48] else if z < 0 then 45 :: nt z.natAbs else nt z.natAbs
theorem nt_len (n:Nat):(nt n).length = dlen n:=by simp [nt,dig_len]
def rdn (l:List UInt8):Nat:=l.foldl (fun a c=>10 * a + (c.toNat - 48)) 0
theorem rdn_snoc (l:List UInt8) (c:UInt8):rdn (l ++ [c]) = 10 * rdn l + (c.toNat - 48):=by simp [rdn]
theorem rdn_dig (k n:Nat):rdn (((dig k n).map ch).reverse) = n % 10 ^ k:=by
 induction k generalizing n with
 | zero=>simp [dig,rdn,Nat.mod_one]
 | succ k ih =>
  simp only [dig,List.map_cons,List.reverse_cons,rdn_snoc,ih]
  rw [ch_nat (by omega),Nat.pow_succ,Nat.mul_comm (10 ^ k) 10,Nat.mod_mul]
  omega
theorem rdn_nt (n:Nat):rdn (nt n) = n:=by rw [nt,rdn_dig,Nat.mod_eq_of_lt (dlen_lt n)]
def isDig (c:UInt8):Bool:=decide (48≤c.toNat) && decide (c.toNat≤57)
theorem isDig_ch {d:Nat} (h:d < 10):isDig (ch d) = true:=by
 unfold isDig
 rw [ch_nat h]
 simp
 omega
theorem nt_dig (n:Nat):∀ c ∈ nt n,isDig c = true:=by
 intro c hc
 simp only [nt,List.mem_reverse,List.mem_map] at hc
 obtain ⟨d,hd,rfl⟩:=hc
 exact isDig_ch (dig_lt _ _ d hd)
theorem nt_cons {n:Nat} (h:0 < n):∃ d l,nt n = ch d :: l∧0 < d∧d < 10:=by
 have hp:=dlen_pos h
 obtain ⟨k,hk⟩ : ∃ k,dlen n = k + 1:=⟨dlen n - 1,by omega⟩
 refine ⟨n / 10 ^ k % 10,((dig k n).map ch).reverse,by rw [nt,hk,dig_snoc]; simp,?_,by omega⟩
 have a:=dlen_lt n
 have b:=dlen_ge hp
 rw [hk] at a b
 rw [Nat.add_sub_cancel] at b
 have hpk:=Nat.pow_pos (n:=k) (show 0 < 10 by decide)
 have c1:n / 10 ^ k < 10:=Nat.div_lt_of_lt_mul (by rw [Nat.pow_succ] at a; omega)
 have c2:1≤n / 10 ^ k:=(Nat.le_div_iff_mul_le hpk).2 (by omega)
 rw [Nat.mod_eq_of_lt c1]
 omega
end Go.Dig
namespace Go.Dig
def unsg (s:List UInt8):List UInt8:=if s.head? = some 45 then s.tail else s
def isNum (s:List UInt8):Prop:=unsg s ≠ []∧(∀ c ∈ unsg s,isDig c = true)∧¬ ((unsg s).head? = some 48∧s ≠ [48])
def pval (s:List UInt8):Int:=if s.head? = some 45 then - ((rdn (unsg s):Nat):Int) else ((rdn (unsg s):Nat):Int)
def okNum (s:List UInt8):Prop:=isNum s∧(unsg s).length≤2000
def isNml (d:List UInt8):Prop:=d ≠ []∧(∀ c ∈ d,isDig c = true)∧¬ (2≤d.length∧d.head? = some 48)
theorem isNum_iff (s:List UInt8):isNum s ↔ isNml (unsg s)∧¬ (s.head? = some 45∧unsg s = [48]):=by
 unfold isNum isNml
 constructor
 · rintro ⟨h1,h2,h3⟩
   refine ⟨⟨h1,h2,fun h=>h3 ⟨h.2,?_⟩⟩,fun h=>h3 ⟨by rw [h.2]; rfl,?_⟩⟩
   · rintro rfl
     exact absurd h.1 (by decide)
   · rintro rfl
     exact absurd h.1 (by decide)
 · rintro ⟨⟨h1,h2,h3⟩,h4⟩
   refine ⟨h1,h2,fun h=>?_⟩
   by_cases hs:s.head? = some 45
   · rcases hd:unsg s with _ | ⟨a,_ | ⟨b,r⟩⟩
     · exact h1 hd
     · rw [hd] at h
       simp at h
       exact h4 ⟨hs,by rw [hd,h.1]⟩
     · rw [hd] at h h3
       exact h3 ⟨by simp,h.1⟩
   · have e:unsg s = s:=if_neg hs
     rw [e] at h h3 h1
     rcases s with _ | ⟨a,_ | ⟨b,r⟩⟩
     · exact h1 rfl
     · simp at h
     · exact h3 ⟨by simp,h.1⟩
theorem isDig_ne45:isDig 45 = false:=by decide
theorem nt_head (n:Nat):(nt n).head? ≠ some 45:=by
 intro h
 rcases hl:nt n with _ | ⟨a,r⟩
 · rw [hl] at h; cases h
 · rw [hl] at h
   have:=nt_dig n a (by rw [hl]; simp)
   simp at h
   rw [h,isDig_ne45] at this
   cases this
theorem unsg_zt (z:Int) (hz:z ≠ 0):unsg (zt z) = nt z.natAbs:=by
 unfold zt
 rw [if_neg hz]
 split
 · rfl
 · exact if_neg (nt_head _)
theorem zt_head (z:Int):(zt z).head? = some 45 ↔ z < 0:=by
 unfold zt
 by_cases h0:z = 0
 · rw [if_pos h0]; subst h0; decide
 · rw [if_neg h0]
   by_cases h1:z < 0
   · rw [if_pos h1]; simp [h1]
   · rw [if_neg h1]
     exact ⟨fun h=>absurd h (nt_head _),fun h=>absurd h h1⟩
theorem zt_num (z:Int):isNum (zt z):=by
 by_cases h0:z = 0
 · subst h0; exact ⟨by decide,by decide,by decide⟩
 · unfold isNum
   rw [unsg_zt z h0]
   obtain ⟨d,l,hd,h1,h2⟩:=nt_cons (n:=z.natAbs) (by omega)
   refine ⟨by rw [hd]; simp,nt_dig _,?_⟩
   rw [hd]
   rintro ⟨h,_⟩
   simp at h
   have:=ch_nat h2
   rw [h] at this
   simp at this
   omega
theorem pval_zt (z:Int):pval (zt z) = z:=by
 by_cases h0:z = 0
 · subst h0; decide
 · unfold pval
   rw [unsg_zt z h0,rdn_nt]
   by_cases h1:z < 0
   · rw [if_pos ((zt_head z).2 h1)]; omega
   · rw [if_neg (fun h=>h1 ((zt_head z).1 h))]; omega
def okLen (z:Int):Prop:=dlen z.natAbs≤2000
instance (z:Int):Decidable (okLen z):=by unfold okLen; exact inferInstance
theorem unsg_len (z:Int):(unsg (zt z)).length≤2000 ↔ okLen z:=by
 by_cases h0:z = 0
 · subst h0; decide
 · rw [unsg_zt z h0,nt_len]; rfl
theorem okNum_zt {z:Int} (h:okLen z):okNum (zt z):=⟨zt_num z,(unsg_len z).2 h⟩
theorem zt_len (z:Int):(zt z).length≤dlen z.natAbs + 1:=by
 unfold zt
 split
 · simp
 · split
   · simp [nt_len]
   · rw [nt_len]; omega
def rowT (M:Nat→Nat→Int) (i:Nat):Nat→List UInt8
 | 0=>[]
 | j + 1=>rowT M i j ++ (if j = 0 then [] else [32]) ++ zt (M i j)
def linesT (M:Nat→Nat→Int):Nat→List UInt8
 | 0=>[]
 | i + 1=>linesT M i ++ (rowT M i (i + 1) ++ [10])
def headT (n:Nat):List UInt8:=[102,111,114,109,32] ++ [ch n] ++ [10]
def formT (n:Nat) (M:Nat→Nat→Int):List UInt8:=headT n ++ linesT M n
def okT (n:Nat) (M:Nat→Nat→Int):Prop:=∀ i j,i < n→j≤i→okLen (M i j)
theorem rowT_len {M:Nat→Nat→Int} {i j:Nat} (h:∀ k,k < j→okLen (M i k)):(rowT M i j).length≤2002 * j:=by
 induction j with
 | zero=>simp [rowT]
 | succ j ih =>
  have a:=ih fun k hk=>h k (by omega)
  have b:=zt_len (M i j)
  have c:=h j (by omega)
  unfold okLen at c
  simp only [rowT,List.length_append]
  split
  · simp; omega
  · simp; omega
theorem linesT_len {M:Nat→Nat→Int} {i:Nat} (hi:i≤8) (h:∀ a k,a < i→k≤a→okLen (M a k)):(linesT M i).length≤16017 * i:=by
 induction i with
 | zero=>simp [linesT]
 | succ i ih =>
  have a:=ih (by omega) fun a k ha hk=>h a k (by omega) hk
  have b:=rowT_len (M:=M) (i:=i) (j:=i + 1) fun k hk=>h i k (by omega) (by omega)
  simp only [linesT,List.length_append,List.length_cons,List.length_nil]
  omega
end Go.Dig
