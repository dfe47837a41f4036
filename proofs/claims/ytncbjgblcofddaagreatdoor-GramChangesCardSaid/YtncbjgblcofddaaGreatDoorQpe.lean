/- Joined: Snu, Smr, Sms, Smg, Smf. -/
import Derived.Test.YtncbjgblcofddaaGreatDoorQh
import Derived.Test.YtncbjgblcofddaaGreatDoorQzd
/- The invariant factors are unique,in plain Lean: two diagonal matrices that are equal up to unimodular factors,each entry dividing the next one,have the same entries up to signs. -/
namespace Go.Sm
open Go.Det
theorem dvd_sm {e:Int}:∀ {n:Nat} {f:Nat→Int},(∀ i,i < n→e ∣ f i)→e ∣ sm n f:=by
 intro n
 induction n with
 | zero=>intro f _; exact ⟨0,by simp [sm]⟩
 | succ n ih=>intro f h; exact Int.dvd_add (ih fun i hi=>h i (by omega)) (h n (by omega))
theorem det_block {e:Int}:∀ (n k:Nat) (A:Mt),k < n→(∀ i j,i≤k→k≤j→j < n→e ∣ A i j)→e ∣ det n A:=by
 intro n
 induction n with
 | zero=>intro k A hk _; omega
 | succ n ih =>
  intro k A hk h
  refine dvd_sm fun j hj=>?_
  by_cases hjk:k≤j
  · exact Int.dvd_trans (h 0 j (by omega) hjk hj) ⟨sgn j * det n (minor A 0 j),by grind⟩
  · have hd:e ∣ det n (minor A 0 j):=by
     refine ih (k - 1) (minor A 0 j) (by omega) fun i c hi hc hcn=>?_
     have h1:minor A 0 j i c = A (i + 1) (c + 1):=by
      simp only [minor,skip_zero]
      have:skip j c = c + 1:=by simp only [skip]; rw [if_neg (by omega)]
      rw [this]
     rw [h1]
     exact h (i + 1) (c + 1) (by omega) (by omega) (by omega)
    exact Int.dvd_trans hd ⟨sgn j * A 0 j,by grind⟩
structure Inv (n:Nat) (X X':Mt):Prop where
 r:∀ i j,i < n→j < n→mul n X X' i j = one i j
 l:∀ i j,i < n→j < n→mul n X' X i j = one i j
theorem mul_congr {n:Nat} {A A' C C':Mt} {i j:Nat} (h:∀ k,k < n→A i k = A' i k) (h':∀ k,k < n→C k j = C' k j):mul n A C i j = mul n A' C' i j:=sm_congr fun k hk=>by rw [h k hk,h' k hk]
theorem Inv.symm {n:Nat} {X X':Mt} (h:Inv n X X'):Inv n X' X:=⟨h.l,h.r⟩
theorem Inv.one (n:Nat):Inv n one one:=⟨fun i j _ hj=>mul_one n _ i j hj,fun i j _ hj=>mul_one n _ i j hj⟩
theorem Inv.mul {n:Nat} {X X' Y Y':Mt} (h:Inv n X X') (g:Inv n Y Y'):Inv n (Go.Det.mul n X Y) (Go.Det.mul n Y' X'):=by
 refine ⟨fun i j hi hj=>?_,fun i j hi hj=>?_⟩
 · rw [mul_assoc]
   rw [mul_congr (A':=X) (C':=X') (fun k _=>rfl) fun k hk=>by
    rw [← mul_assoc,mul_congr (A':=Go.Det.one) (C':=X') (fun t ht=>g.r k t hk ht) fun t _=>rfl,one_mul n X' k j hk]]
   exact h.r i j hi hj
 · rw [mul_assoc]
   rw [mul_congr (A':=Y') (C':=Y) (fun k _=>rfl) fun k hk=>by
    rw [← mul_assoc,mul_congr (A':=Go.Det.one) (C':=Y) (fun t ht=>h.l k t hk ht) fun t _=>rfl,one_mul n Y k j hk]]
   exact g.l i j hi hj
theorem Inv.det {n:Nat} {X X':Mt} (h:Inv n X X'):Go.Det.det n X * Go.Det.det n X' = 1:=by
 rw [← det_mul,det_congr h.r,det_one]
theorem Inv.of_det {n:Nat} {X:Mt} (hd:Go.Det.det (n + 1) X = 1 ∨ Go.Det.det (n + 1) X = -1):Inv (n + 1) X (fun i j=>Go.Det.det (n + 1) X * adj n X i j):=by
 have hs:Go.Det.det (n + 1) X * Go.Det.det (n + 1) X = 1:=by rcases hd with h | h <;> rw [h] <;> rfl
 refine ⟨fun i j hi hj=>?_,fun i j hi hj=>?_⟩
 · have:Go.Det.mul (n + 1) X (fun i j=>Go.Det.det (n + 1) X * adj n X i j) i j = Go.Det.det (n + 1) X * Go.Det.mul (n + 1) X (adj n X) i j:=by
    simp only [Go.Det.mul]
    rw [← sm_mul]
    exact sm_congr fun k _=>by grind
   rw [this,mul_adj n X i j hi hj]
   simp only [Go.Det.one]
   by_cases e:i = j
   · rw [if_pos e,if_pos e,hs]
   · rw [if_neg e,if_neg e,Int.mul_zero]
 · have:Go.Det.mul (n + 1) (fun i j=>Go.Det.det (n + 1) X * adj n X i j) X i j = Go.Det.det (n + 1) X * Go.Det.mul (n + 1) (adj n X) X i j:=by
    simp only [Go.Det.mul]
    rw [← sm_mul]
    exact sm_congr fun k _=>by grind
   rw [this,adj_mul n X i j hi hj]
   simp only [Go.Det.one]
   by_cases e:i = j
   · rw [if_pos e,if_pos e,hs]
   · rw [if_neg e,if_neg e,Int.mul_zero]
def Eqv (n:Nat) (A B:Mt):Prop:=∃ X X' Y Y',Inv n X X'∧Inv n Y Y'∧∀ i j,i < n→j < n→mul n B Y i j = mul n X A i j
theorem Eqv.refl (n:Nat) (A:Mt):Eqv n A A:=⟨one,one,one,one,Inv.one n,Inv.one n,fun i j hi hj=>by rw [mul_one n A i j hj,one_mul n A i j hi]⟩
theorem Eqv.symm {n:Nat} {A B:Mt} (h:Eqv n A B):Eqv n B A:=by
 obtain ⟨X,X',Y,Y',hX,hY,h⟩:=h
 refine ⟨X',X,Y',Y,hX.symm,hY.symm,fun i j hi hj=>?_⟩
 have h1:mul n (mul n X' (mul n X A)) Y' i j = mul n A Y' i j:=mul_congr (fun k hk=>by
  rw [← mul_assoc,mul_congr (A':=one) (C':=A) (fun t ht=>hX.l i t hi ht) fun t _=>rfl,one_mul n A i k hi]) fun k _=>rfl
 rw [← h1,mul_congr (A':=mul n X' (mul n B Y)) (C':=Y') (fun k hk=>mul_congr (fun t _=>rfl) fun t ht=>(h t k ht hk).symm) fun k _=>rfl]
 rw [mul_assoc]
 refine mul_congr (fun k _=>rfl) fun k hk=>?_
 rw [mul_assoc,mul_congr (A':=B) (C':=one) (fun t _=>rfl) fun t ht=>hY.r t j ht hj,mul_one n B k j hj]
theorem Eqv.trans {n:Nat} {A B C:Mt} (h:Eqv n A B) (g:Eqv n B C):Eqv n A C:=by
 obtain ⟨X,X',Y,Y',hX,hY,h⟩:=h
 obtain ⟨Z,Z',W,W',hZ,hW,g⟩:=g
 refine ⟨mul n Z X,mul n X' Z',mul n W Y,mul n Y' W',hZ.mul hX,hW.mul hY,fun i j hi hj=>?_⟩
 rw [← mul_assoc,mul_congr (A':=mul n Z B) (C':=Y) (fun k hk=>g i k hi hk) fun k _=>rfl,mul_assoc,mul_assoc]
 exact mul_congr (fun k _=>rfl) fun k hk=>h k j hk hj
theorem Eqv.congr {n:Nat} {A B C:Mt} (h:Eqv n A B) (e:∀ i j,i < n→j < n→B i j = C i j):Eqv n A C:=by
 obtain ⟨X,X',Y,Y',hX,hY,h⟩:=h
 exact ⟨X,X',Y,Y',hX,hY,fun i j hi hj=>by rw [← h i j hi hj]; exact mul_congr (fun k hk=>(e i k hi hk).symm) fun _ _=>rfl⟩
theorem Eqv.left {n:Nat} {A B X X':Mt} (hX:Inv n X X') (h:∀ i j,i < n→j < n→B i j = mul n X A i j):Eqv n A B:=⟨X,X',one,one,hX,Inv.one n,fun i j hi hj=>by rw [mul_one n B i j hj,h i j hi hj]⟩
theorem Eqv.right {n:Nat} {A B Y Y':Mt} (hY:Inv n Y Y') (h:∀ i j,i < n→j < n→B i j = mul n A Y i j):Eqv n A B:=by
 refine Eqv.symm ⟨one,one,Y,Y',Inv.one n,hY,fun i j hi hj=>by rw [one_mul n B i j hi,h i j hi hj]⟩
theorem Eqv.tr {n:Nat} {A B:Mt} (h:Eqv n A B):Eqv n (Go.Det.tr A) (Go.Det.tr B):=by
 obtain ⟨X,X',Y,Y',hX,hY,h⟩:=h
 have tI:∀ {X X':Mt},Inv n X X'→Inv n (Go.Det.tr X') (Go.Det.tr X)∧Inv n (Go.Det.tr X) (Go.Det.tr X'):=by
  intro X X' hX
  have e1:∀ i j,i < n→j < n→mul n (Go.Det.tr X') (Go.Det.tr X) i j = one i j:=fun i j hi hj=>by
   rw [← tr_mul]; simp only [Go.Det.tr]; rw [hX.r j i hj hi]; simp only [one,eq_comm]
  have e2:∀ i j,i < n→j < n→mul n (Go.Det.tr X) (Go.Det.tr X') i j = one i j:=fun i j hi hj=>by
   rw [← tr_mul]; simp only [Go.Det.tr]; rw [hX.l j i hj hi]; simp only [one,eq_comm]
  exact ⟨⟨e1,e2⟩,⟨e2,e1⟩⟩
 refine Eqv.symm ⟨Go.Det.tr Y,Go.Det.tr Y',Go.Det.tr X,Go.Det.tr X',(tI hY).2,(tI hX).2,fun i j hi hj=>?_⟩
 rw [← tr_mul,← tr_mul]
 exact (h j i hj hi).symm
theorem sm_mark {n i k:Nat} (hi:i < n) (hk:k < n) (a:Int) (F:Nat→Int):(sm n fun t=>((if i = t then (1:Int) else 0) + if t = k then a else 0) * F t) = F i + a * F k:=by
 have:(sm n fun t=>((if i = t then (1:Int) else 0) + if t = k then a else 0) * F t) = sm n fun t=>(if i = t then (1:Int) else 0) * F t + (if t = k then a else 0) * F t:=sm_congr fun t _=>by grind
 rw [this,sm_add,sm_one (c:=i) hi fun t _ hn=>by rw [if_neg (Ne.symm hn),Int.zero_mul],sm_one (c:=k) hk fun t _ hn=>by rw [if_neg hn,Int.zero_mul],if_pos rfl,if_pos rfl,Int.one_mul]
def shear (k:Nat) (g:Nat→Int):Mt:=fun i t=>(if i = t then 1 else 0) + if t = k then g i else 0
theorem shear_mul {n k i j:Nat} (hk:k < n) (hi:i < n) (g:Nat→Int) (A:Mt):mul n (shear k g) A i j = A i j + g i * A k j:=sm_mark hi hk (g i) fun t=>A t j
theorem shear_inv {n k:Nat} (hk:k < n) (g:Nat→Int) (h0:g k = 0):Inv n (shear k g) (shear k fun i=>- g i):=by
 have key:∀ (g:Nat→Int),g k = 0→∀ i j,i < n→j < n→mul n (shear k g) (shear k fun i=>- g i) i j = one i j:=by
  intro g h0 i j hi hj
  rw [shear_mul hk hi]
  simp only [shear,one]
  by_cases e:j = k
  · subst e
    simp only [h0]
    grind
  · rw [if_neg e,if_neg e,if_neg (Ne.symm e)]
    grind
 refine ⟨key g h0,?_⟩
 have:=key (fun i=>- g i) (by rw [h0]; rfl)
 simpa using this
theorem Eqv.rows {n k:Nat} {A B:Mt} (hk:k < n) (g:Nat→Int) (h0:g k = 0) (h:∀ i j,i < n→j < n→B i j = A i j + g i * A k j):Eqv n A B:=Eqv.left (shear_inv hk g h0) fun i j hi hj=>by rw [shear_mul hk hi,h i j hi hj]
theorem Eqv.perm {n:Nat} {A B:Mt} (s:Nat→Nat) (hs:∀ i,i < n→s i < n∧s (s i) = i) (h:∀ i j,i < n→j < n→B i j = A (s i) j):Eqv n A B:=by
 have hm:∀ (C:Mt) i j,i < n→mul n (fun i t=>if t = s i then 1 else 0) C i j = C (s i) j:=by
  intro C i j hi
  simp only [mul]
  rw [sm_one (c:=s i) (hs i hi).1 fun t _ hn=>by rw [if_neg hn,Int.zero_mul],if_pos rfl,Int.one_mul]
 have hI:∀ i j,i < n→j < n→mul n (fun i t=>if t = s i then 1 else 0) (fun i t=>if t = s i then 1 else 0) i j = one i j:=by
  intro i j hi hj
  rw [hm _ i j hi]
  simp only [(hs i hi).2,one,eq_comm]
 exact Eqv.left ⟨hI,hI⟩ fun i j hi hj=>by rw [hm A i j hi,h i j hi hj]
theorem Eqv.permC {n:Nat} {A B:Mt} (s:Nat→Nat) (hs:∀ i,i < n→s i < n∧s (s i) = i) (h:∀ i j,i < n→j < n→B i j = A i (s j)):Eqv n A B:=(Eqv.perm (A:=Go.Det.tr A) (B:=Go.Det.tr B) s hs fun i j hi hj=>h j i hj hi).tr
theorem Eqv.signs {n:Nat} {A B:Mt} (s:Nat→Int) (hs:∀ i,i < n→s i * s i = 1) (h:∀ i j,i < n→j < n→B i j = s i * A i j):Eqv n A B:=by
 have hm:∀ (C:Mt) i j,i < n→mul n (fun i t=>if t = i then s i else 0) C i j = s i * C i j:=by
  intro C i j hi
  simp only [mul]
  rw [sm_one (c:=i) hi fun t _ hn=>by rw [if_neg hn,Int.zero_mul],if_pos rfl]
 have hI:∀ i j,i < n→j < n→mul n (fun i t=>if t = i then s i else 0) (fun i t=>if t = i then s i else 0) i j = one i j:=by
  intro i j hi hj
  rw [hm _ i j hi]
  simp only [one]
  by_cases e:i = j
  · subst e; rw [if_pos rfl,if_pos rfl,hs i hi]
  · rw [if_neg e,if_neg (Ne.symm e),Int.mul_zero]
 exact Eqv.left ⟨hI,hI⟩ fun i j hi hj=>by rw [hm A i j hi,h i j hi hj]
structure Smith (n:Nat) (D:Mt):Prop where
 off:∀ i j,i < n→j < n→i ≠ j→D i j = 0
 dv:∀ i,i + 1 < n→D i i ∣ D (i + 1) (i + 1)
 nn:∀ i,i < n→0≤D i i
theorem Smith.dvd {n:Nat} {D:Mt} (h:Smith n D) {i:Nat}:∀ k,i + k < n→D i i ∣ D (i + k) (i + k)
 | 0,_=>Int.dvd_refl _
 | k + 1,hk=>Int.dvd_trans (h.dvd k (by omega)) (h.dv (i + k) hk)
theorem Smith.dvd' {n:Nat} {D:Mt} (h:Smith n D) {i k:Nat} (hik:i≤k) (hk:k < n):D i i ∣ D k k:=by
 have:=h.dvd (i:=i) (k - i) (by omega)
 rwa [Nat.add_sub_cancel' hik] at this
theorem smith_dvd {n:Nat} {D E:Mt} (hD:Smith n D) (hE:Smith n E) (h:Eqv n E D) {k:Nat} (hk:k < n):E k k ∣ D k k:=by
 obtain ⟨X,X',Y,Y',hX,hY,h⟩:=h
 have key:∀ i j,i < n→j < n→D i i * Y i j = X i j * E j j:=by
  intro i j hi hj
  have:=h i j hi hj
  simp only [mul] at this
  rw [sm_one (c:=i) hi fun t ht hn=>by rw [hD.off i t hi ht (Ne.symm hn),Int.zero_mul],sm_one (c:=j) hj fun t ht hn=>by rw [hE.off t j ht hj hn,Int.mul_zero]] at this
  exact this
 by_cases hz:Int.gcd (D k k) (E k k) = 0
 · rw [Int.gcd_eq_zero_iff] at hz
   rw [hz.1,hz.2]
   exact Int.dvd_refl _
 · obtain ⟨d,hd⟩:=Int.gcd_dvd_left (a:=D k k) (b:=E k k)
   obtain ⟨e,he⟩:=Int.gcd_dvd_right (a:=D k k) (b:=E k k)
   have hg:((Int.gcd (D k k) (E k k):Nat):Int) ≠ 0:=by omega
   have hcop:Int.gcd e d = 1:=by
    have h1:Int.gcd (D k k) (E k k) = Int.gcd (D k k) (E k k) * Int.gcd d e:=by
     have h2:=Int.gcd_mul_left (m:=((Int.gcd (D k k) (E k k):Nat):Int)) (n:=d) (k:=e)
     rw [← hd,← he] at h2
     simpa using h2
    have h3:Int.gcd d e = 1:=Nat.eq_of_mul_eq_mul_left (Nat.pos_of_ne_zero hz) (by omega)
    rw [Int.gcd_comm]; exact h3
   have hb:∀ i j,i≤k→k≤j→j < n→e ∣ Y i j:=by
    intro i j hi hj hjn
    obtain ⟨s,hs⟩:=hD.dvd' hi hk
    obtain ⟨t,ht⟩:=hE.dvd' hj hjn
    have h1:=key i j (by omega) hjn
    have h2:((Int.gcd (D k k) (E k k):Nat):Int) * (d * Y i j) = ((Int.gcd (D k k) (E k k):Nat):Int) * (e * (s * X i j * t)):=by
     have:D k k * Y i j = E k k * (s * X i j * t):=by
      rw [hs]
      have:D i i * s * Y i j = s * (D i i * Y i j):=by grind
      rw [this,h1,ht]
      grind
     calc ((Int.gcd (D k k) (E k k):Nat):Int) * (d * Y i j) = D k k * Y i j:=by rw [← Int.mul_assoc,← hd]
      _ = E k k * (s * X i j * t):=this
      _ = ((Int.gcd (D k k) (E k k):Nat):Int) * (e * (s * X i j * t)):=by rw [← Int.mul_assoc ((Int.gcd (D k k) (E k k):Nat):Int) e,← he]
    have h3:d * Y i j = e * (s * X i j * t):=Int.eq_of_mul_eq_mul_left hg h2
    have h4:e.natAbs ∣ d.natAbs * (Y i j).natAbs:=by rw [← Int.natAbs_mul,h3]; exact Int.natAbs_dvd_natAbs.2 ⟨_,rfl⟩
    exact Int.natAbs_dvd_natAbs.1 (Nat.Coprime.dvd_of_dvd_mul_left hcop h4)
   have h1:e ∣ det n Y:=det_block n k Y hk hb
   have h2:e ∣ 1:=Int.dvd_trans h1 ⟨_,hY.det.symm⟩
   obtain ⟨u,hu⟩:=h2
   have h4:E k k * u = ((Int.gcd (D k k) (E k k):Nat):Int):=by
    calc E k k * u = ((Int.gcd (D k k) (E k k):Nat):Int) * (e * u):=by rw [← Int.mul_assoc,← he]
     _ = _:=by rw [← hu,Int.mul_one]
   exact Int.dvd_trans ⟨_,h4.symm⟩ (Int.gcd_dvd_left ..)
theorem smith_unique {n:Nat} {D E:Mt} (hD:Smith n D) (hE:Smith n E) (h:Eqv n D E) {k:Nat} (hk:k < n):D k k = E k k :=
 Int.dvd_antisymm (hD.nn k hk) (hE.nn k hk) (smith_dvd hE hD h hk) (smith_dvd hD hE h.symm hk)
end Go.Sm
namespace Go.Sm
open Go.Det
def sx (k p i:Nat):Nat:=if i = k then p else if i = p then k else i
theorem sx_lt {n k p i:Nat} (hk:k < n) (hp:p < n) (hi:i < n):sx k p i < n:=by unfold sx; split; omega; split <;> omega
theorem sx_ge {k p i:Nat} (hp:k≤p) (hi:k≤i):k≤sx k p i:=by unfold sx; split; omega; split <;> omega
theorem sx_sx (k p i:Nat):sx k p (sx k p i) = i:=by
 unfold sx
 by_cases h1:i = k
 · rw [if_pos h1]; by_cases h2:p = k
   · rw [if_pos h2]; omega
   · rw [if_neg h2,if_pos rfl]; omega
 · rw [if_neg h1]; by_cases h2:i = p
   · rw [if_pos h2,if_pos rfl]; omega
   · rw [if_neg h2,if_neg h1,if_neg h2]
theorem sx_k (k p:Nat):sx k p k = p:=if_pos rfl
theorem sx_self (k i:Nat):sx k k i = i:=by unfold sx; split; omega; rfl
def swp (M:Mt) (k p c:Nat):Mt:=fun i j=>M (sx k p i) (sx k c j)
def rowP (M:Mt) (k m:Nat):Mt:=fun i j=>if k < i∧i < m then M i j - M i k / M k k * M k j else M i j
def colP (M:Mt) (k m:Nat):Mt:=fun i j=>if k < j∧j < m then M i j - M k j / M k k * M i k else M i j
def red (M:Mt) (k n:Nat):Mt:=colP (rowP M k n) k n
def addR (M:Mt) (k i0:Nat):Mt:=fun i j=>if i = k then M k j + M i0 j else M i j
theorem addR_k (M:Mt) (k i0 j:Nat):addR M k i0 k j = M k j + M i0 j:=if_pos rfl
theorem mod_eq (a x:Int):a - a / x * x = a % x:=by rw [Int.emod_def,Int.mul_comm]
theorem rowP_k (M:Mt) (k m j:Nat):rowP M k m k j = M k j:=if_neg (by omega)
theorem red_kk (M:Mt) (k n:Nat):red M k n k k = M k k:=by
 simp only [red,colP]; rw [if_neg (by omega),rowP_k]
theorem red_ik (M:Mt) {k n i:Nat} (hi:k < i) (hn:i < n):red M k n i k = M i k % M k k:=by
 simp only [red,colP]; rw [if_neg (by omega)]; simp only [rowP]; rw [if_pos ⟨hi,hn⟩,mod_eq]
theorem red_kj (M:Mt) {k n j:Nat} (hj:k < j) (hn:j < n):red M k n k j = M k j % M k k:=by
 simp only [red,colP]; rw [if_pos ⟨hj,hn⟩,rowP_k,rowP_k,mod_eq]
theorem red_ij (M:Mt) {k n i j:Nat} (hi:k < i) (hin:i < n) (hj:k < j) (hn:j < n):red M k n i j = M i j - M i k / M k k * M k j - M k j / M k k * (M i k % M k k):=by
 simp only [red,colP]; rw [if_pos ⟨hj,hn⟩,rowP_k,rowP_k]; simp only [rowP]; rw [if_pos ⟨hi,hin⟩,if_pos ⟨hi,hin⟩,mod_eq]
theorem red_keepR (M:Mt) {k n i j:Nat} (hi:k < i) (hin:i < n) (hj:k < j) (hn:j < n) (h:M k j = 0):red M k n i j = M i j:=by
 rw [red_ij M hi hin hj hn,h,Int.zero_ediv]; omega
theorem red_keepC (M:Mt) {k n i j:Nat} (hi:k < i) (hin:i < n) (hj:k < j) (hn:j < n) (h:M i k = 0):red M k n i j = M i j:=by
 rw [red_ij M hi hin hj hn,h,Int.zero_ediv,Int.zero_emod]; omega
theorem emod_abs (z x:Int):z % x = z % ((x.natAbs:Nat):Int):=by
 rcases Int.natAbs_eq x with e | e
 · rw [← e]
 · conv=>lhs; rw [e]
   rw [Int.emod_neg]
theorem emod_near {z x:Int} {P:Nat} (h:x.natAbs = P) (h2:(P:Int)≤z) (h3:z < 2 * P):z % x = z - P:=by
 rw [emod_abs,h,← Int.sub_emod_right]
 exact Int.emod_eq_of_lt (by omega) (by omega)
theorem emod_neg {z x:Int} {P:Nat} (h:x.natAbs = P) (h2:(P:Int) < -z) (h3:-z < 2 * P):z % x = z + 2 * P:=by
 rw [emod_abs,h]
 have:z % (P:Int) = (z + P + P) % (P:Int):=by rw [Int.add_emod_right,Int.add_emod_right]
 rw [this,Int.emod_eq_of_lt (by omega) (by omega)]
 omega
theorem emod_rng {z x:Int} {P:Nat} (h:x.natAbs = P) (hP:0 < P):0≤z % x∧z % x < P:=by
 refine ⟨Int.emod_nonneg _ (by omega),?_⟩
 have:=Int.emod_lt z (b:=x) (by omega)
 omega
structure Sel (n k:Nat) (M:Mt) (p c:Nat):Prop where
 hp:k≤p
 hpn:p < n
 hc:k≤c
 hcn:c < n
 nz:M p c ≠ 0
 mn:∀ i j,k≤i→i < n→k≤j→j < n→M i j ≠ 0→(M p c).natAbs≤(M i j).natAbs
 fst:∀ i j,k≤i→i < n→k≤j→j < n→i < p ∨ i = p∧j < c→M i j ≠ 0→(M p c).natAbs < (M i j).natAbs
def Clean (n k:Nat) (C:Mt):Prop:=(∀ i,k < i→i < n→C i k = 0)∧∀ j,k < j→j < n→C k j = 0
inductive Out (n k:Nat) (S:Mt):Mt→Bool→Prop
 | done (hc:Clean n k (red S k n)) (hd:∀ i j,k < i→i < n→k < j→j < n→S k k ∣ red S k n i j):Out n k S (red S k n) true
 | left (hc:¬ Clean n k (red S k n)):Out n k S (red S k n) false
 | row (i0:Nat) (h0:k < i0) (hn:i0 < n) (hc:Clean n k (red S k n)) (hd:∃ j,k < j∧j < n∧¬ S k k ∣ red S k n i0 j):Out n k S (addR (red S k n) k i0) false
def Rd (n k:Nat) (M M':Mt) (b:Bool):Prop:=∃ p c,Sel n k M p c∧Out n k (swp M k p c) M' b
def Fin (n k:Nat):Nat→Mt→Prop
 | 0,M=>∀ M' b,Rd n k M M' b→b = true
 | r + 1,M=>∀ M' b,Rd n k M M' b→b = true ∨ Fin n k r M'
theorem Fin.succ {n k:Nat}:∀ {r:Nat} {M:Mt},Fin n k r M→Fin n k (r + 1) M
 | 0,_,h=>fun M' b hR=>.inl (h M' b hR)
 | _ + 1,_,h=>fun M' b hR=>(h M' b hR).imp id fun h=>h.succ
theorem Fin.mono {n k r s:Nat} {M:Mt} (h:Fin n k r M) (hs:r≤s):Fin n k s M:=by
 obtain ⟨d,rfl⟩:=Nat.exists_eq_add_of_le hs
 clear hs
 induction d with
 | zero=>exact h
 | succ d ih=>exact ih.succ
def Big (n k h:Nat) (M:Mt):Prop:=∀ i j,k≤i→i < n→k≤j→j < n→M i j ≠ 0→h≤(M i j).natAbs
def Nn (P B:Nat) (z:Int):Prop:=z = 0 ∨ (P:Int)≤z∧z≤(B:Int)
def Na (P B:Nat) (z:Int):Prop:=z = 0 ∨ P≤z.natAbs∧z.natAbs≤B
theorem Nn.mono {P P' B:Nat} {z:Int} (h:Nn P B z) (hP:P'≤P):Nn P' B z:=by unfold Nn at *; omega
theorem Na.mono {P P' B:Nat} {z:Int} (h:Na P B z) (hP:P'≤P):Na P' B z:=by unfold Na at *; omega
structure Pre (n k h B P:Nat) (M:Mt) (p c:Nat) (Qp Qn R T:Nat→Bool):Prop where
 h0:0 < h
 hP:h≤P
 hPB:P≤B
 hB:B < 2 * h
 sel:Sel n k M p c
 abs:(M p c).natAbs = P
 rp:∀ i,Qp i = true→k≤i∧i < n
 rn:∀ i,Qn i = true→k≤i∧i < n
 rr:∀ i,R i = true→k≤i∧i < n
 rt:∀ i,T i = true→k≤i∧i < n
 h1:∀ j,Qp j = true→∀ i,k≤i→i < n→Nn P B (M i j)
 h2:∀ j,Qn j = true→∀ i,k≤i→i < n→Na P B (M i j)∧(M i j < 0→R i = true)
 h3:∀ r,R r = true→∀ j,k≤j→j < n→Qp j = false→Qn j = false→Nn P B (M r j)
 hT:∀ c',T c' = true→∀ i,k≤i→i < n→M i c' = 0 ∨ P < (M i c').natAbs∧(M i c').natAbs≤B
 xR:R p = false
 xp:Qp c = false
 xn:Qn c = false
 xT:T c = false
 x0:∀ j,Qp j = true ∨ Qn j = true→M p j = 0
 xr:∀ r,R r = true→M r c = 0
structure St (n k h B P:Nat) (M:Mt) (Qp Qn R:Nat→Bool):Prop where
 h0:0 < h
 hP:h≤P
 hPB:P≤B
 hB:B < 2 * h
 kn:k < n
 piv:(M k k).natAbs = P
 rp:∀ i,Qp i = true→k < i∧i < n
 rn:∀ i,Qn i = true→k < i∧i < n
 rr:∀ i,R i = true→k < i∧i < n
 g1:∀ j,Qp j = true→∀ i,k < i→i < n→Nn P B (M i j)
 g2:∀ j,Qn j = true→∀ i,k < i→i < n→Na P B (M i j)∧(M i j < 0→R i = true)
 g3:∀ r,R r = true→∀ j,k < j→j < n→Qp j = false→Qn j = false→Nn P B (M r j)
structure NS (n k h B P:Nat) (M:Mt) (Qp Qn R:Nat→Bool):Prop extends St n k h B P M Qp Qn R where
 nc:∀ i,k < i→i < n→0≤M i k∧M i k < P
 nr:∀ j,k < j→j < n→0≤M k j∧M k j < P
 nz:(∃ i,k < i∧i < n∧M i k ≠ 0) ∨ ∃ j,k < j∧j < n∧M k j ≠ 0
 q0:∀ j,Qp j = true→M k j = 0
structure CS (n k h B P:Nat) (M:Mt) (Qp Qn R T:Nat→Bool) (i0:Nat):Prop extends St n k h B P M Qp Qn R where
 rt:∀ i,T i = true→k < i∧i < n
 gT:∀ c,T c = true→∀ i,k < i→i < n→Na P B (M i c)
 cz:∀ i,k < i→i < n→M i k = 0
 i0k:k < i0
 i0n:i0 < n
 cp:∀ j,k < j→j < n→M k j = M i0 j
 nd:∃ j,k < j∧j < n∧¬ M k k ∣ M i0 j
theorem sx_gt {n k p i:Nat} {Q:Nat→Bool} (hp:k≤p) (hQ:∀ i,Q i = true→k≤i∧i < n) (_hk:k < n) (hpn:p < n) (hx:Q p = false) (h:Q (sx k p i) = true):k < i∧i < n:=by
 have h1:=hQ _ h
 have h2:i ≠ k:=fun e=>by rw [e,sx_k,hx] at h; cases h
 unfold sx at h1
 rw [if_neg h2] at h1
 by_cases e:i = p
 · omega
 · rw [if_neg e] at h1; omega
theorem Pre.st {n k h B P:Nat} {M:Mt} {p c:Nat} {Qp Qn R T:Nat→Bool} (H:Pre n k h B P M p c Qp Qn R T):St n k h B P (red (swp M k p c) k n) (fun j=>Qp (sx k c j)) (fun j=>Qn (sx k c j)) (fun i=>R (sx k p i)):=by
 have hk:k < n:=Nat.lt_of_le_of_lt H.sel.hp H.sel.hpn
 have rp:∀ i,Qp (sx k c i) = true→k < i∧i < n:=fun i hi=>sx_gt H.sel.hc H.rp hk H.sel.hcn H.xp hi
 have rn:∀ i,Qn (sx k c i) = true→k < i∧i < n:=fun i hi=>sx_gt H.sel.hc H.rn hk H.sel.hcn H.xn hi
 have rr:∀ i,R (sx k p i) = true→k < i∧i < n:=fun i hi=>sx_gt H.sel.hp H.rr hk H.sel.hpn H.xR hi
 have S0:∀ j,swp M k p c k j = M p (sx k c j):=fun j=>by simp only [swp,sx_k]
 have S1:∀ i,swp M k p c i k = M (sx k p i) c:=fun i=>by simp only [swp,sx_k]
 refine ⟨H.h0,H.hP,H.hPB,H.hB,hk,?_,rp,rn,rr,?_,?_,?_⟩
 · rw [red_kk]; simp only [swp,sx_k]; exact H.abs
 · intro j hj i hi hin
   obtain ⟨hj1,hj2⟩:=rp j hj
   rw [red_keepR _ hi hin hj1 hj2 (by rw [S0]; exact H.x0 _ (.inl hj))]
   exact H.h1 _ hj _ (sx_ge H.sel.hp (by omega)) (sx_lt hk H.sel.hpn hin)
 · intro j hj i hi hin
   obtain ⟨hj1,hj2⟩:=rn j hj
   rw [red_keepR _ hi hin hj1 hj2 (by rw [S0]; exact H.x0 _ (.inr hj))]
   exact H.h2 _ hj _ (sx_ge H.sel.hp (by omega)) (sx_lt hk H.sel.hpn hin)
 · intro r hr j hj hjn hp hn
   obtain ⟨hr1,hr2⟩:=rr r hr
   rw [red_keepC _ hr1 hr2 hj hjn (by rw [S1]; exact H.xr _ hr)]
   exact H.h3 _ hr _ (sx_ge H.sel.hc (by omega)) (sx_lt hk H.sel.hcn hjn) hp hn
theorem Pre.left {n k h B P:Nat} {M:Mt} {p c:Nat} {Qp Qn R T:Nat→Bool} (H:Pre n k h B P M p c Qp Qn R T) (hc:¬ Clean n k (red (swp M k p c) k n)) :
 NS n k h B P (red (swp M k p c) k n) (fun j=>Qp (sx k c j)) (fun j=>Qn (sx k c j)) (fun i=>R (sx k p i)):=by
 have hst:=H.st
 have hP0:0 < P:=Nat.lt_of_lt_of_le H.h0 H.hP
 have hab:(swp M k p c k k).natAbs = P:=by simp only [swp,sx_k]; exact H.abs
 refine ⟨hst,fun i hi hin=>?_,fun j hj hjn=>?_,?_,fun j hj=>?_⟩
 · rw [red_ik _ hi hin]; exact emod_rng hab hP0
 · rw [red_kj _ hj hjn]; exact emod_rng hab hP0
 · refine Classical.byContradiction fun hn=>hc ⟨fun i hi hin=>Decidable.byContradiction fun e=>hn (.inl ⟨i,hi,hin,e⟩),fun j hj hjn=>Decidable.byContradiction fun e=>hn (.inr ⟨j,hj,hjn,e⟩)⟩
 · obtain ⟨hj1,hj2⟩:=hst.rp j hj
   rw [red_kj _ hj1 hj2]
   have:swp M k p c k j = 0:=by simp only [swp,sx_k]; exact H.x0 _ (.inl hj)
   rw [this,Int.zero_emod]
theorem Pre.round {n k h B P:Nat} {M M':Mt} {p c:Nat} {Qp Qn R T:Nat→Bool} {b:Bool} (H:Pre n k h B P M p c Qp Qn R T) (hO:Out n k (swp M k p c) M' b) :
 b = true ∨ NS n k h B P M' (fun j=>Qp (sx k c j)) (fun j=>Qn (sx k c j)) (fun i=>R (sx k p i)) ∨
 ∃ i0,CS n k h B P M' (fun j=>Qp (sx k c j)) (fun j=>Qn (sx k c j)) (fun i=>R (sx k p i)) (fun j=>T (sx k c j)) i0:=by
 have hst:=H.st
 have hP0:0 < P:=Nat.lt_of_lt_of_le H.h0 H.hP
 have hk:=hst.kn
 have hab:(swp M k p c k k).natAbs = P:=by simp only [swp,sx_k]; exact H.abs
 cases hO with
 | done=>exact .inl rfl
 | left hc=>exact .inr (.inl (H.left hc))
 | row i0 h0 hn hc hd =>
  have hne:∀ i,k < i→i ≠ k:=fun i hi=>by omega
  have ev:∀ i j,i ≠ k→addR (red (swp M k p c) k n) k i0 i j = red (swp M k p c) k n i j:=fun i j hi=>if_neg hi
  have rt:∀ i,T (sx k c i) = true→k < i∧i < n:=fun i hi=>sx_gt H.sel.hc H.rt hk H.sel.hcn H.xT hi
  refine .inr (.inr ⟨i0,⟨⟨hst.h0,hst.hP,hst.hPB,hst.hB,hk,?_,hst.rp,hst.rn,hst.rr,?_,?_,?_⟩,rt,?_,?_,h0,hn,?_,?_⟩⟩)
  · rw [addR_k,hc.1 i0 h0 hn,Int.add_zero]; exact hst.piv
  · intro j hj i hi hin; rw [ev i j (hne i hi)]; exact hst.g1 j hj i hi hin
  · intro j hj i hi hin; rw [ev i j (hne i hi)]; exact hst.g2 j hj i hi hin
  · intro r hr j hj hjn h1 h2; rw [ev r j (hne r (hst.rr r hr).1)]; exact hst.g3 r hr j hj hjn h1 h2
  · intro j hj i hi hin
    obtain ⟨hj1,hj2⟩:=rt j hj
    have hz:swp M k p c k j = 0:=by
     have h1:=hc.2 j hj1 hj2
     rw [red_kj _ hj1 hj2] at h1
     have h2:=H.hT _ hj p H.sel.hp H.sel.hpn
     have h3:swp M k p c k j = M p (sx k c j):=by simp only [swp,sx_k]
     rw [← h3] at h2
     have hB:=H.hB
     have hP:=H.hP
     rcases h2 with h2 | h2
     · exact h2
     · rcases Int.lt_or_le (swp M k p c k j) 0 with h4 | h4
       · rw [emod_neg hab (by omega) (by omega)] at h1; omega
       · rw [emod_near hab (by omega) (by omega)] at h1; omega
    rw [ev i j (hne i hi),red_keepR _ hi hin hj1 hj2 hz]
    have:=H.hT _ hj _ (sx_ge H.sel.hp (Nat.le_of_lt hi)) (sx_lt hk H.sel.hpn hin)
    simp only [swp,Na]
    omega
  · intro i hi hin; rw [ev i k (hne i hi)]; exact hc.1 i hi hin
  · intro j hj hjn
    rw [ev i0 j (hne i0 h0)]
    rw [addR_k,hc.2 j hj hjn,Int.zero_add]
  · obtain ⟨j,hj,hjn,hd⟩:=hd
    refine ⟨j,hj,hjn,?_⟩
    rw [ev i0 j (hne i0 h0)]
    rw [addR_k,hc.1 i0 h0 hn,Int.add_zero,red_kk]
    exact hd
end Go.Sm
namespace Go.Sm
open Go.Det
def none':Nat→Bool:=fun _=>false
def ins (Q:Nat→Bool) (k:Nat):Nat→Bool:=fun i=>Q i || i == k
theorem ins_k (Q:Nat→Bool) (k:Nat):ins Q k k = true:=by simp [ins]
theorem ins_or {Q:Nat→Bool} {k i:Nat} (h:ins Q k i = true):Q i = true ∨ i = k:=by simpa [ins] using h
theorem ins_in {Q:Nat→Bool} {k i:Nat} (h:Q i = true):ins Q k i = true:=by simp [ins,h]
theorem ins_no {Q:Nat→Bool} {k i:Nat} (h:Q i = false) (hi:i ≠ k):ins Q k i = false:=by simp [ins,h,hi]
theorem ins_out {Q:Nat→Bool} {k i:Nat} (h:ins Q k i = false):Q i = false∧i ≠ k:=by simpa [ins] using h
def bi (b:Bool):Int:=if b then 1 else 0
theorem bi_t:bi true = 1:=rfl
theorem bi_f:bi false = 0:=rfl
def cnt (n:Nat) (Q:Nat→Bool):Int:=sm n fun i=>bi (Q i)
theorem cnt_none (n:Nat):cnt n none' = 0:=sm_zero fun _ _=>rfl
theorem bi_rng (b:Bool):0≤bi b∧bi b≤1:=by cases b <;> decide
theorem cnt_nonneg:∀ (n:Nat) (Q:Nat→Bool),0≤cnt n Q:=by
 intro n Q
 induction n with
 | zero=>exact Int.le_refl 0
 | succ n ih=>simp only [cnt,sm] at *; have:=bi_rng (Q n); omega
theorem cnt_le {k:Nat}:∀ (n:Nat) (Q:Nat→Bool),(∀ i,Q i = true→k < i)→cnt n Q≤((n - (k + 1):Nat):Int):=by
 intro n Q h
 induction n with
 | zero=>simp [cnt,sm]
 | succ n ih =>
  simp only [cnt,sm] at *
  cases e:Q n with
  | true=>have:=h n e; rw [bi_t]; omega
  | false=>rw [bi_f]; omega
theorem cnt_ins {n k:Nat} {Q:Nat→Bool} (hk:k < n) (h:Q k = false):cnt n (ins Q k) = cnt n Q + 1:=by
 have:cnt n (ins Q k) = sm n fun i=>bi (Q i) + if i = k then 1 else 0:=sm_congr fun i _=>by
  by_cases e:i = k
  · subst e; rw [ins_k,h,if_pos rfl]; rfl
  · rw [if_neg e]; cases hq:Q i with
    | true=>rw [ins_in hq]; rfl
    | false=>rw [ins_no hq e]; rfl
 rw [this,sm_add,sm_one (c:=k) hk fun i _ hn=>if_neg hn,if_pos rfl]
 rfl
theorem cnt_sx {n k p:Nat} (Q:Nat→Bool) (hk:k < n) (hp:p < n):cnt n (fun i=>Q (sx k p i)) = cnt n Q:=by
 by_cases e:k = p
 · subst e; simp only [sx_self]
 · have:cnt n (fun i=>Q (sx k p i)) = sm n fun i=>(bi (Q i) + if i = k then bi (Q p) - bi (Q k) else 0) + if i = p then bi (Q k) - bi (Q p) else 0:=sm_congr fun i _=>by
    simp only [sx]
    by_cases h1:i = k
    · subst h1; rw [if_pos rfl,if_pos rfl,if_neg e]; omega
    · rw [if_neg h1,if_neg h1]
      by_cases h2:i = p
      · subst h2; rw [if_pos rfl,if_pos rfl]; omega
      · rw [if_neg h2,if_neg h2]; omega
   rw [this,sm_add,sm_add,sm_one (c:=k) hk fun i _ hn=>if_neg hn,sm_one (c:=p) hp fun i _ hn=>if_neg hn,if_pos rfl,if_pos rfl]
   simp only [cnt]
   omega
theorem sx_nk {k p i:Nat} (h:i ≠ p):sx k p i ≠ k:=by
 unfold sx
 by_cases h1:i = k
 · rw [if_pos h1]; omega
 · rw [if_neg h1,if_neg h]; exact h1
theorem clean_rem {n k:Nat} {M:Mt} {p c:Nat} (hs:Sel n k M p c) (hc:Clean n k (red (swp M k p c) k n)):(∀ j,k≤j→j < n→j ≠ c→M p j % M p c = 0)∧∀ i,k≤i→i < n→i ≠ p→M i c % M p c = 0:=by
 have hk:k < n:=Nat.lt_of_le_of_lt hs.hp hs.hpn
 constructor
 · intro j hj hjn hjc
   have h1:=sx_nk (k:=k) hjc
   have h2:=sx_ge hs.hc hj
   have h3:=hc.2 (sx k c j) (by omega) (sx_lt hk hs.hcn hjn)
   rw [red_kj _ (by omega) (sx_lt hk hs.hcn hjn)] at h3
   simp only [swp,sx_k,sx_sx] at h3
   exact h3
 · intro i hi hin hip
   have h1:=sx_nk (k:=k) hip
   have h2:=sx_ge hs.hp hi
   have h3:=hc.1 (sx k p i) (by omega) (sx_lt hk hs.hpn hin)
   rw [red_ik _ (by omega) (sx_lt hk hs.hpn hin)] at h3
   simp only [swp,sx_k,sx_sx] at h3
   exact h3
theorem rem_big {n k h:Nat} {M M':Mt} {p c:Nat} (hs:Sel n k M p c) (hO:Out n k (swp M k p c) M' false) (hb:Big n k h M') :
 (∀ j,k≤j→j < n→j ≠ c→M p j % M p c = 0 ∨ h≤(M p j % M p c).natAbs)∧∀ i,k≤i→i < n→i ≠ p→M i c % M p c = 0 ∨ h≤(M i c % M p c).natAbs:=by
 have hk:k < n:=Nat.lt_of_le_of_lt hs.hp hs.hpn
 cases hO with
 | row i0 h0 hn hc hd=>exact ⟨fun j a b d=>.inl ((clean_rem hs hc).1 j a b d),fun j a b d=>.inl ((clean_rem hs hc).2 j a b d)⟩
 | left hc =>
  constructor
  · intro j hj hjn hjc
    have h1:=sx_nk (k:=k) hjc
    have h2:=sx_ge hs.hc hj
    have h4:=sx_lt hk hs.hcn hjn
    have h3:=hb k (sx k c j) (Nat.le_refl _) hk h2 h4
    rw [red_kj _ (by omega) h4] at h3
    simp only [swp,sx_k,sx_sx] at h3
    exact Classical.or_iff_not_imp_left.2 h3
  · intro i hi hin hip
    have h1:=sx_nk (k:=k) hip
    have h2:=sx_ge hs.hp hi
    have h4:=sx_lt hk hs.hpn hin
    have h3:=hb (sx k p i) k h2 h4 (Nat.le_refl _) hk
    rw [red_ik _ (by omega) h4] at h3
    simp only [swp,sx_k,sx_sx] at h3
    exact Classical.or_iff_not_imp_left.2 h3
theorem old0 {z x:Int} {P B h:Nat} (hx:x.natAbs = P) (hP:h≤P) (hB:B < 2 * h) (hr:z % x = 0 ∨ h≤(z % x).natAbs) (hz:z = 0 ∨ (P:Int) < z∧z≤B):z = 0:=by
 rcases hz with hz | hz
 · exact hz
 · rw [emod_near hx (by omega) (by omega)] at hr
   omega
theorem Nn.strict {P P' B:Nat} {z:Int} (h:Nn P B z) (hP:P' < P):z = 0 ∨ (P':Int) < z∧z≤B:=by unfold Nn at h; omega
theorem Na.strict {P P' B:Nat} {z:Int} (h:Na P B z) (hP:P' < P) (h0:0≤z):z = 0 ∨ (P':Int) < z∧z≤B:=by unfold Na at h; omega
def SN (n k h B:Nat) (u:Int) (M:Mt):Prop:=∃ P Qp Qn R,NS n k h B P M Qp Qn R∧u≤4 * cnt n Qp + cnt n R
def SP (n k h B:Nat) (u:Int) (M:Mt):Prop:=∃ P Qp,NS n k h B P M Qp none' none'∧0 < M k k∧u≤4 * cnt n Qp + 4
def SC (n k h B:Nat) (u v:Int) (M:Mt):Prop:=∃ P Qp Qn R T i0,CS n k h B P M Qp Qn R T i0∧u≤4 * cnt n Qp + cnt n R∧v≤cnt n T
theorem Pre.go {n k h B P:Nat} {M M':Mt} {p c:Nat} {Qp Qn R T:Nat→Bool} {u v:Int} (H:Pre n k h B P M p c Qp Qn R T) (hO:Out n k (swp M k p c) M' false) (hu:u≤4 * cnt n Qp + cnt n R) (hv:v≤cnt n T):SN n k h B u M' ∨ SC n k h B u v M':=by
 have hk:k < n:=H.st.kn
 rcases H.round hO with h1 | h1 | ⟨i0,h1⟩
 · cases h1
 · exact .inl ⟨P,_,_,_,h1,by rw [cnt_sx Qp hk H.sel.hcn,cnt_sx R hk H.sel.hpn]; exact hu⟩
 · exact .inr ⟨P,_,_,_,_,i0,h1,by rw [cnt_sx Qp hk H.sel.hcn,cnt_sx R hk H.sel.hpn]; exact hu,by rw [cnt_sx T hk H.sel.hcn]; exact hv⟩
theorem Pre.goN {n k h B P:Nat} {M M':Mt} {p c:Nat} {Qp Qn R T:Nat→Bool} (H:Pre n k h B P M p c Qp Qn R T) (hO:Out n k (swp M k p c) M' false) (hn:¬ Clean n k (red (swp M k p c) k n)):NS n k h B P M' (fun j=>Qp (sx k c j)) (fun j=>Qn (sx k c j)) (fun i=>R (sx k p i))∧M' k k = M p c:=by
 cases hO with
 | row i0 h0 hn' hc hd=>exact absurd hc hn
 | left hc=>exact ⟨H.left hc,by rw [red_kk]; simp only [swp,sx_k]⟩
theorem no_none (i:Nat) (h:none' i = true):False:=by cases h
theorem NS.next {n k h B P:Nat} {M M':Mt} {Qp Qn R:Nat→Bool} {p c:Nat} (hN:NS n k h B P M Qp Qn R) (hbM:Big n k h M) (hs:Sel n k M p c) (hO:Out n k (swp M k p c) M' false) (hb:Big n k h M') :
 (0 < M k k∧(SN n k h B (4 * cnt n Qp + 4) M' ∨ SC n k h B (4 * cnt n Qp + 4) 0 M')) ∨ (M k k < 0∧(SN n k h B (4 * cnt n Qp + cnt n R + 1) M' ∨ SC n k h B (4 * cnt n Qp + cnt n R + 1) 0 M' ∨ SP n k h B (4 * cnt n Qp + 4) M')):=by
 have hk:=hN.kn
 have h0:=hN.h0
 have hP:=hN.hP
 have hPB:=hN.hPB
 have hB:=hN.hB
 have hpiv:=hN.piv
 have hp:=hs.hp
 have hpn:=hs.hpn
 have hc:=hs.hc
 have hcn:=hs.hcn
 have hnz:=hs.nz
 obtain ⟨rR,rC⟩:=rem_big hs hO hb
 have hhP:h≤(M p c).natAbs:=hbM p c hp hpn hc hcn hnz
 have hlt:(M p c).natAbs < P:=by
  rcases hN.nz with ⟨i,hi,hin,e⟩ | ⟨j,hj,hjn,e⟩
  · have h1:=hs.mn i k (by omega) hin (Nat.le_refl _) hk e
    have h2:=hN.nc i hi hin
    omega
  · have h1:=hs.mn k j (Nat.le_refl _) hk (by omega) hjn e
    have h2:=hN.nr j hj hjn
    omega
 have hkk0:M k k ≠ 0:=by omega
 have hold:∀ j,Qp j = true→∀ i,k≤i→i < n→Nn (M p c).natAbs B (M i j):=by
  intro j hj i hi hin
  by_cases e:i = k
  · subst e; exact .inl (hN.q0 j hj)
  · exact (hN.g1 j hj i (by omega) hin).mono (by omega)
 by_cases hin:p = k ∨ c = k
 · -- the pivot is in the cross
   have hcp:¬ (p = k∧c = k):=fun e=>by rw [e.1,e.2] at hlt; omega
   have xp:Qp c = false:=by
    cases hq:Qp c with
    | false=>rfl
    | true =>
     exfalso
     have h1:=hN.rp c hq
     rcases hin with e | e
     · rw [e] at hnz; exact hnz (hN.q0 c hq)
     · omega
   have x0:∀ j,Qp j = true ∨ none' j = true→M p j = 0:=by
    intro j hj
    rcases hj with hj | hj
    · rcases hin with e | e
      · rw [e]; exact hN.q0 j hj
      · have h1:=hN.rp j hj
        have h2:p ≠ k:=fun e2=>hcp ⟨e2,e⟩
        exact old0 rfl hhP hB (rR j (by omega) h1.2 (by omega)) ((hN.g1 j hj p (by omega) hpn).strict hlt)
    · exact (no_none j hj).elim
   have hpre:Pre n k h B (M p c).natAbs M p c Qp none' none' none':=⟨h0,hhP,by omega,hB,hs,rfl,fun i hi=>by have:=hN.rp i hi; omega,fun i hi=>(no_none i hi).elim,fun i hi=>(no_none i hi).elim,fun i hi=>(no_none i hi).elim,hold,fun i hi=>(no_none i hi).elim,fun i hi=>(no_none i hi).elim,fun i hi=>(no_none i hi).elim,rfl,xp,rfl,rfl,x0,fun i hi=>(no_none i hi).elim⟩
   have hpos:0 < M p c:=by
    rcases hin with e | e
    · rw [e] at hnz ⊢
      have:=hN.nr c (by omega) hcn
      omega
    · rw [e] at hnz ⊢
      have:=hN.nc p (by omega) hpn
      omega
   have hrem:M k k % M p c = 0 ∨ h≤(M k k % M p c).natAbs:=by
    rcases hin with e | e
    · have:=rR k (Nat.le_refl _) hk (by omega)
      rw [← e] at this ⊢; rw [e] at this; rwa [e]
    · have:=rC k (Nat.le_refl _) hk (by omega)
      rw [e] at this ⊢; exact this
   have hneg:M k k < 0:=by
    refine Decidable.byContradiction fun hn=>?_
    have:=old0 (z:=M k k) rfl hhP hB hrem (.inr ⟨by omega,by omega⟩)
    omega
   have hncl:¬ Clean n k (red (swp M k p c) k n):=by
    intro hcl
    have h1:M k k % M p c = 0:=by
     rcases hin with e | e
     · have:=(clean_rem hs hcl).1 k (Nat.le_refl _) hk (by omega)
       rw [e] at this ⊢; exact this
     · have:=(clean_rem hs hcl).2 k (Nat.le_refl _) hk (by omega)
       rw [e] at this ⊢; exact this
    rw [emod_neg rfl (by omega) (by omega)] at h1
    omega
   obtain ⟨h1,h2⟩:=hpre.goN hO hncl
   refine .inr ⟨hneg,.inr (.inr ⟨_,_,h1,by rw [h2]; exact hpos,?_⟩)⟩
   rw [cnt_sx Qp hk hcn]
   omega
 · have hpk:p ≠ k:=fun e=>hin (.inl e)
   have hck:c ≠ k:=fun e=>hin (.inr e)
   have hkc:M k c = 0:=by
    have h1:=hN.nr c (by omega) hcn
    by_cases e:M k c = 0
    · exact e
    · have h2:=hs.fst k c (Nat.le_refl _) hk hc hcn (.inl (by omega)) e
      exact old0 rfl hhP hB (rC k (Nat.le_refl _) hk (by omega)) (.inr ⟨by omega,by omega⟩)
   have hpk0:M p k = 0:=by
    have h1:=hN.nc p (by omega) hpn
    by_cases e:M p k = 0
    · exact e
    · have h2:=hs.fst p k hp hpn (Nat.le_refl _) hk (.inr ⟨rfl,by omega⟩) e
      exact old0 rfl hhP hB (rR k (Nat.le_refl _) hk (by omega)) (.inr ⟨by omega,by omega⟩)
   have nQp:Qp c = false:=by
    cases hq:Qp c with
    | false=>rfl
    | true=>have:=hN.g1 c hq p (by omega) hpn; unfold Nn at this; omega
   have nQn:Qn c = false:=by
    cases hq:Qn c with
    | false=>rfl
    | true=>have:=(hN.g2 c hq p (by omega) hpn).1; unfold Na at this; omega
   have nR:R p = false:=by
    cases hq:R p with
    | false=>rfl
    | true=>have:=hN.g3 p hq c (by omega) hcn nQp nQn; unfold Nn at this; omega
   have zQp:∀ j,Qp j = true→M p j = 0:=fun j hj=>by
    have h1:=hN.rp j hj
    exact old0 rfl hhP hB (rR j (by omega) h1.2 (fun e=>by rw [e,nQp] at hj; cases hj)) ((hN.g1 j hj p (by omega) hpn).strict hlt)
   have zQn:∀ j,Qn j = true→M p j = 0:=fun j hj=>by
    have h1:=hN.rn j hj
    have h2:=hN.g2 j hj p (by omega) hpn
    have h3:0≤M p j:=by
     refine Decidable.byContradiction fun h3=>?_
     have:=h2.2 (by omega)
     rw [nR] at this; cases this
    exact old0 rfl hhP hB (rR j (by omega) h1.2 (fun e=>by rw [e,nQn] at hj; cases hj)) (h2.1.strict hlt h3)
   have zR:∀ r,R r = true→M r c = 0:=fun r hr=>by
    have h1:=hN.rr r hr
    exact old0 rfl hhP hB (rC r (by omega) h1.2 (fun e=>by rw [e,nR] at hr; cases hr)) ((hN.g3 r hr c (by omega) hcn nQp nQn).strict hlt)
   have ncr:∀ i,k < i→i < n→Nn (M p c).natAbs B (M i k):=fun i hi hin=>by
    have h1:=hN.nc i hi hin
    by_cases e:M i k = 0
    · exact .inl e
    · have h2:=hs.mn i k (by omega) hin (Nat.le_refl _) hk e
      exact .inr ⟨by omega,by omega⟩
   have nrr:∀ j,k < j→j < n→Nn (M p c).natAbs B (M k j):=fun j hj hjn=>by
    have h1:=hN.nr j hj hjn
    by_cases e:M k j = 0
    · exact .inl e
    · have h2:=hs.mn k j (Nat.le_refl _) hk (by omega) hjn e
      exact .inr ⟨by omega,by omega⟩
   by_cases hx:0 < M k k
   · refine .inl ⟨hx,?_⟩
     have hpre:Pre n k h B (M p c).natAbs M p c (ins Qp k) none' none' none':=⟨h0,hhP,by omega,hB,hs,rfl,fun i hi=>by
      rcases ins_or hi with hi | hi
      · have:=hN.rp i hi; omega
      · omega,fun i hi=>(no_none i hi).elim,fun i hi=>(no_none i hi).elim,fun i hi=>(no_none i hi).elim,fun j hj' i hi hie=>by
      rcases ins_or hj' with hj | hj
      · exact hold j hj i hi hie
      · subst hj
        by_cases e:i = j
        · subst e; exact .inr ⟨by omega,by omega⟩
        · exact ncr i (by omega) hie,fun i hi=>(no_none i hi).elim,fun i hi=>(no_none i hi).elim,fun i hi=>(no_none i hi).elim,rfl,ins_no nQp hck,rfl,rfl,fun j hj=>by
      rcases hj with hj | hj
      · rcases ins_or hj with hj | hj
        · exact zQp j hj
        · rw [hj]; exact hpk0
      · exact (no_none j hj).elim,fun i hi=>(no_none i hi).elim⟩
     have hcn':=cnt_ins (Q:=Qp) hk (by cases hq:Qp k with | false=>rfl | true=>exact absurd (hN.rp k hq).1 (Nat.lt_irrefl _))
     exact hpre.go hO (by rw [hcn',cnt_none]; omega) (by rw [cnt_none]; exact Int.le_refl 0)
   · refine .inr ⟨by omega,?_⟩
     have hpre:Pre n k h B (M p c).natAbs M p c Qp (ins Qn k) (ins R k) none':=⟨h0,hhP,by omega,hB,hs,rfl,fun i hi=>by have:=hN.rp i hi; omega,fun i hi=>by
      rcases ins_or hi with hi | hi
      · have:=hN.rn i hi; omega
      · omega,fun i hi=>by
      rcases ins_or hi with hi | hi
      · have:=hN.rr i hi; omega
      · omega,fun i hi=>(no_none i hi).elim,hold,fun j hj' i hi hie=>by
      rcases ins_or hj' with hj | hj
      · by_cases e:i = k
        · subst e
          have h1:=hN.rn j hj
          have:=nrr j h1.1 h1.2
          refine ⟨?_,fun h=>?_⟩
          · unfold Nn at this; unfold Na; omega
          · unfold Nn at this; omega
        · have h1:=hN.g2 j hj i (by omega) hie
          exact ⟨h1.1.mono (by omega),fun h=>ins_in (h1.2 h)⟩
      · subst hj
        by_cases e:i = j
        · subst e; exact ⟨.inr ⟨by omega,by omega⟩,fun _=>ins_k R i⟩
        · have:=ncr i (by omega) hie
          refine ⟨?_,fun h=>?_⟩
          · unfold Nn at this; unfold Na; omega
          · unfold Nn at this; omega,fun r hr j hj hjn h1 h2=>by
      obtain ⟨h3,h4⟩:=ins_out h2
      rcases ins_or hr with hr | hr
      · exact (hN.g3 r hr j (by omega) hjn h1 h3).mono (by omega)
      · rw [hr]; exact nrr j (by omega) hjn,fun i hi=>(no_none i hi).elim,ins_no nR hpk,nQp,ins_no nQn hck,rfl,fun j hj=>by
      rcases hj with hj | hj
      · exact zQp j hj
      · rcases ins_or hj with hj | hj
        · exact zQn j hj
        · rw [hj]; exact hpk0,fun r hr=>by
      rcases ins_or hr with hr | hr
      · exact zR r hr
      · rw [hr]; exact hkc⟩
     have hcn':=cnt_ins (Q:=R) hk (by cases hq:R k with | false=>rfl | true=>exact absurd (hN.rr k hq).1 (Nat.lt_irrefl _))
     rcases hpre.go (u:=4 * cnt n Qp + cnt n R + 1) (v:=0) hO (by rw [hcn']; omega) (by rw [cnt_none]; exact Int.le_refl 0) with h1 | h1
     · exact .inl h1
     · exact .inr (.inl h1)
theorem CS.next {n k h B P:Nat} {M M':Mt} {Qp Qn R T:Nat→Bool} {i0 p c:Nat} (hC:CS n k h B P M Qp Qn R T i0) (hbM:Big n k h M) (hs:Sel n k M p c) (hO:Out n k (swp M k p c) M' false) (hb:Big n k h M') (hn4:n≤4) :
 SN n k h B (4 * cnt n Qp + cnt n R) M' ∨ SN n k h B (4 * cnt n Qp + cnt n R + 1) M' ∨ SC n k h B (4 * cnt n Qp + cnt n R + 1) 0 M' ∨ SC n k h B (4 * cnt n Qp + cnt n R) (cnt n T + 1) M':=by
 have hk:=hC.kn
 have h0:=hC.h0
 have hP:=hC.hP
 have hPB:=hC.hPB
 have hB:=hC.hB
 have hpiv:=hC.piv
 have hp:=hs.hp
 have hpn:=hs.hpn
 have hc:=hs.hc
 have hcn:=hs.hcn
 have hnz:=hs.nz
 obtain ⟨rR,rC⟩:=rem_big hs hO hb
 have hhP:h≤(M p c).natAbs:=hbM p c hp hpn hc hcn hnz
 have hkk0:M k k ≠ 0:=by omega
 have i0k:=hC.i0k
 have i0n:=hC.i0n
 by_cases hsame:p = k∧c = k
 · obtain ⟨e1,e2⟩:=hsame
   subst e1; subst e2
   have hsw:swp M c c c = M:=by funext i j; simp only [swp,sx_self]
   rw [hsw] at hO
   have hncl:¬ Clean n c (red M c n):=by
    intro hcl
    obtain ⟨j,hj,hjn,hd⟩:=hC.nd
    have:=hcl.2 j hj hjn
    rw [red_kj _ hj hjn,hC.cp j hj hjn] at this
    exact hd (Int.dvd_of_emod_eq_zero this)
   cases hO with
   | row i1 _ _ hcl _=>exact absurd hcl hncl
   | left _ =>
    have keep:∀ i j,c < i→i < n→c < j→j < n→red M c n i j = M i j:=fun i j hi hin hj hjn=>red_keepC _ hi hin hj hjn (hC.cz i hi hin)
    refine .inl ⟨P,Qp,Qn,R,⟨⟨h0,hP,hPB,hB,hk,by rw [red_kk]; exact hpiv,hC.rp,hC.rn,hC.rr,?_,?_,?_⟩,?_,?_,?_,?_⟩,Int.le_refl _⟩
    · intro j hj i hi hin; rw [keep i j hi hin (hC.rp j hj).1 (hC.rp j hj).2]; exact hC.g1 j hj i hi hin
    · intro j hj i hi hin; rw [keep i j hi hin (hC.rn j hj).1 (hC.rn j hj).2]; exact hC.g2 j hj i hi hin
    · intro r hr j hj hjn a b; rw [keep r j (hC.rr r hr).1 (hC.rr r hr).2 hj hjn]; exact hC.g3 r hr j hj hjn a b
    · intro i hi hin; rw [red_ik _ hi hin]; exact emod_rng hpiv (by omega)
    · intro j hj hjn; rw [red_kj _ hj hjn]; exact emod_rng hpiv (by omega)
    · refine Classical.byContradiction fun hn=>hncl ⟨fun i hi hin=>Decidable.byContradiction fun e=>hn (.inl ⟨i,hi,hin,e⟩),fun j hj hjn=>Decidable.byContradiction fun e=>hn (.inr ⟨j,hj,hjn,e⟩)⟩
    · intro j hj
      obtain ⟨hj1,hj2⟩:=hC.rp j hj
      have h1:=rR j (by omega) hj2 (by omega)
      rw [red_kj _ hj1 hj2]
      rw [hC.cp j hj1 hj2] at h1 ⊢
      have h2:=hC.g1 j hj i0 i0k i0n
      unfold Nn at h2
      rcases h2 with h2 | h2
      · rw [h2,Int.zero_emod]
      · rw [emod_near hpiv h2.1 (by omega)] at h1 ⊢
        omega
 · have hlt:(M p c).natAbs < P:=by
    have h1:=hs.fst k k (Nat.le_refl _) hk (Nat.le_refl _) hk (by omega) hkk0
    omega
   have hck:c ≠ k:=by
    intro e
    have h1:p ≠ k:=fun e1=>hsame ⟨e1,e⟩
    rw [e] at hnz
    exact hnz (hC.cz p (by omega) hpn)
   have row0:∀ j,k < j→j < n→M k j = M i0 j:=hC.cp
   by_cases hpk:p = k
   · -- the pivot is in the row of the old one
     subst hpk
     have hrem:=rR p (Nat.le_refl _) hk (fun e=>hck e.symm)
     have hneg:M p p < 0:=by
      refine Decidable.byContradiction fun hn=>?_
      have:=old0 (z:=M p p) rfl hhP hB hrem (.inr ⟨by omega,by omega⟩)
      omega
     have hcv:M p c = M i0 c:=row0 c (by omega) hcn
     have nQp:Qp c = false:=by
      cases hq:Qp c with
      | false=>rfl
      | true=>have:=hC.g1 c hq i0 i0k i0n; unfold Nn at this; omega
     have nQn:Qn c = false:=by
      cases hq:Qn c with
      | false=>rfl
      | true=>have:=(hC.g2 c hq i0 i0k i0n).1; unfold Na at this; omega
     have nR0:R i0 = false:=by
      cases hq:R i0 with
      | false=>rfl
      | true=>have:=hC.g3 i0 hq c (by omega) hcn nQp nQn; unfold Nn at this; omega
     have zQp:∀ j,Qp j = true→M p j = 0:=fun j hj=>by
      have h1:=hC.rp j hj
      refine old0 rfl hhP hB (rR j (by omega) h1.2 (fun e=>by rw [e,nQp] at hj; cases hj)) ?_
      rw [row0 j h1.1 h1.2]
      exact (hC.g1 j hj i0 i0k i0n).strict hlt
     have zQn:∀ j,Qn j = true→M p j = 0:=fun j hj=>by
      have h1:=hC.rn j hj
      have h2:=hC.g2 j hj i0 i0k i0n
      have h3:0≤M i0 j:=by
       refine Decidable.byContradiction fun h3=>?_
       have:=h2.2 (by omega)
       rw [nR0] at this; cases this
      refine old0 rfl hhP hB (rR j (by omega) h1.2 (fun e=>by rw [e,nQn] at hj; cases hj)) ?_
      rw [row0 j h1.1 h1.2]
      exact h2.1.strict hlt h3
     have zR:∀ r,R r = true→M r c = 0:=fun r hr=>by
      have h1:=hC.rr r hr
      exact old0 rfl hhP hB (rC r (by omega) h1.2 (by omega)) ((hC.g3 r hr c (by omega) hcn nQp nQn).strict hlt)
     have hpre:Pre n p h B (M p c).natAbs M p c Qp Qn R none':=⟨h0,hhP,by omega,hB,hs,rfl,fun i hi=>by have:=hC.rp i hi; omega,fun i hi=>by have:=hC.rn i hi; omega,fun i hi=>by have:=hC.rr i hi; omega,fun i hi=>(no_none i hi).elim,fun j hj i hi hie=>by
      by_cases e:i = p
      · rw [e,zQp j hj]; exact .inl rfl
      · exact (hC.g1 j hj i (by omega) hie).mono (by omega),fun j hj i hi hie=>by
      by_cases e:i = p
      · rw [e,zQn j hj]; exact ⟨.inl rfl,fun h=>absurd h (by decide)⟩
      · have h1:=hC.g2 j hj i (by omega) hie
        exact ⟨h1.1.mono (by omega),h1.2⟩,fun r hr j hj hjn a b=>by
      have h1:=hC.rr r hr
      by_cases e:j = p
      · rw [e]; exact .inl (hC.cz r h1.1 h1.2)
      · exact (hC.g3 r hr j (by omega) hjn a b).mono (by omega),fun i hi=>(no_none i hi).elim,(by cases hq:R p with | false=>rfl | true=>exact absurd (hC.rr p hq).1 (Nat.lt_irrefl _)),nQp,nQn,rfl,fun j hj=>by
      rcases hj with hj | hj
      · exact zQp j hj
      · exact zQn j hj,zR⟩
     have hncl:¬ Clean n p (red (swp M p p c) p n):=by
      intro hcl
      have h1:=(clean_rem hs hcl).1 p (Nat.le_refl _) hk (fun e=>hck e.symm)
      rw [emod_neg rfl (by omega) (by omega)] at h1
      omega
     obtain ⟨h1,h2⟩:=hpre.goN hO hncl
     refine .inl ⟨_,_,_,_,h1,?_⟩
     rw [cnt_sx Qp hk hcn,cnt_sx R hk hpn]
     exact Int.le_refl _
   · have nQp:Qp c = false:=by
      cases hq:Qp c with
      | false=>rfl
      | true=>have:=hC.g1 c hq p (by omega) hpn; unfold Nn at this; omega
     have nQn:Qn c = false:=by
      cases hq:Qn c with
      | false=>rfl
      | true=>have:=(hC.g2 c hq p (by omega) hpn).1; unfold Na at this; omega
     have nT:T c = false:=by
      cases hq:T c with
      | false=>rfl
      | true=>have:=hC.gT c hq p (by omega) hpn; unfold Na at this; omega
     have nR:R p = false:=by
      cases hq:R p with
      | false=>rfl
      | true=>have:=hC.g3 p hq c (by omega) hcn nQp nQn; unfold Nn at this; omega
     have hpk0:M p k = 0:=hC.cz p (by omega) hpn
     have zQp:∀ j,Qp j = true→M p j = 0:=fun j hj=>by
      have h1:=hC.rp j hj
      exact old0 rfl hhP hB (rR j (by omega) h1.2 (fun e=>by rw [e,nQp] at hj; cases hj)) ((hC.g1 j hj p (by omega) hpn).strict hlt)
     have zQn:∀ j,Qn j = true→M p j = 0:=fun j hj=>by
      have h1:=hC.rn j hj
      have h2:=hC.g2 j hj p (by omega) hpn
      have h3:0≤M p j:=by
       refine Decidable.byContradiction fun h3=>?_
       have:=h2.2 (by omega)
       rw [nR] at this; cases this
      exact old0 rfl hhP hB (rR j (by omega) h1.2 (fun e=>by rw [e,nQn] at hj; cases hj)) (h2.1.strict hlt h3)
     have zR:∀ r,R r = true→M r c = 0:=fun r hr=>by
      have h1:=hC.rr r hr
      exact old0 rfl hhP hB (rC r (by omega) h1.2 (fun e=>by rw [e,nR] at hr; cases hr)) ((hC.g3 r hr c (by omega) hcn nQp nQn).strict hlt)
     have g1':∀ j,Qp j = true→∀ i,k≤i→i < n→Nn (M p c).natAbs B (M i j):=fun j hj i hi hie=>by
      by_cases e:i = k
      · rw [e,row0 j (hC.rp j hj).1 (hC.rp j hj).2]; exact (hC.g1 j hj i0 i0k i0n).mono (by omega)
      · exact (hC.g1 j hj i (by omega) hie).mono (by omega)
     have hQk:Qp k = false:=by cases hq:Qp k with | false=>rfl | true=>exact absurd (hC.rp k hq).1 (Nat.lt_irrefl _)
     have hRk:R k = false:=by cases hq:R k with | false=>rfl | true=>exact absurd (hC.rr k hq).1 (Nat.lt_irrefl _)
     have hTk:T k = false:=by cases hq:T k with | false=>rfl | true=>exact absurd (hC.rt k hq).1 (Nat.lt_irrefl _)
     have rp':∀ i,Qp i = true→k≤i∧i < n:=fun i hi=>by have:=hC.rp i hi; omega
     have rn':∀ i,Qn i = true→k≤i∧i < n:=fun i hi=>by have:=hC.rn i hi; omega
     have rr':∀ i,R i = true→k≤i∧i < n:=fun i hi=>by have:=hC.rr i hi; omega
     have rins:∀ {Q:Nat→Bool},(∀ i,Q i = true→k≤i∧i < n)→∀ i,ins Q k i = true→k≤i∧i < n:=fun hQ i hi=>by
      rcases ins_or hi with hi | hi
      · exact hQ i hi
      · omega
     by_cases hx:0 < M k k
     · have hpre:Pre n k h B (M p c).natAbs M p c (ins Qp k) none' none' none':=⟨h0,hhP,by omega,hB,hs,rfl,rins rp',fun i hi=>(no_none i hi).elim,fun i hi=>(no_none i hi).elim,fun i hi=>(no_none i hi).elim,fun j hj' i hi hie=>by
        rcases ins_or hj' with hj | hj
        · exact g1' j hj i hi hie
        · rw [hj]
          by_cases e:i = k
          · rw [e]; exact .inr ⟨by omega,by omega⟩
          · exact .inl (hC.cz i (by omega) hie),fun i hi=>(no_none i hi).elim,fun i hi=>(no_none i hi).elim,fun i hi=>(no_none i hi).elim,rfl,ins_no nQp hck,rfl,rfl,fun j hj=>by
        rcases hj with hj | hj
        · rcases ins_or hj with hj | hj
          · exact zQp j hj
          · rw [hj]; exact hpk0
        · exact (no_none j hj).elim,fun i hi=>(no_none i hi).elim⟩
       have h3:=cnt_le (k:=k) n R fun i hi=>(hC.rr i hi).1
       have hcn':=cnt_ins hk hQk
       rcases hpre.go (u:=4 * cnt n Qp + cnt n R + 1) (v:=0) hO (by rw [hcn',cnt_none]; omega) (by rw [cnt_none]; exact Int.le_refl 0) with h1 | h1
       · exact .inr (.inl h1)
       · exact .inr (.inr (.inl h1))
     · cases hR0:R i0 with
       | true =>
        have zk:M k c = 0:=by
         have h1:Nn P B (M k c):=by rw [row0 c (by omega) hcn]; exact hC.g3 i0 hR0 c (by omega) hcn nQp nQn
         exact old0 rfl hhP hB (rC k (Nat.le_refl _) hk (fun e=>hpk e.symm)) (h1.strict hlt)
        have hpre:Pre n k h B (M p c).natAbs M p c Qp (ins Qn k) (ins R k) none':=⟨h0,hhP,by omega,hB,hs,rfl,rp',rins rn',rins rr',fun i hi=>(no_none i hi).elim,g1',fun j hj' i hi hie=>by
         rcases ins_or hj' with hj | hj
         · by_cases e:i = k
           · rw [e]
             rw [row0 j (hC.rn j hj).1 (hC.rn j hj).2]
             exact ⟨(hC.g2 j hj i0 i0k i0n).1.mono (by omega),fun _=>ins_k R k⟩
           · have h1:=hC.g2 j hj i (by omega) hie
             exact ⟨h1.1.mono (by omega),fun h=>ins_in (h1.2 h)⟩
         · rw [hj]
           by_cases e:i = k
           · rw [e]; exact ⟨.inr ⟨by omega,by omega⟩,fun _=>ins_k R k⟩
           · rw [hC.cz i (by omega) hie]; exact ⟨.inl rfl,fun h=>absurd h (by decide)⟩,fun r hr' j hj hjn a b=>by
         obtain ⟨h3,h4⟩:=ins_out b
         rcases ins_or hr' with hr | hr
         · exact (hC.g3 r hr j (by omega) hjn a h3).mono (by omega)
         · rw [hr,row0 j (by omega) hjn]; exact (hC.g3 i0 hR0 j (by omega) hjn a h3).mono (by omega),fun i hi=>(no_none i hi).elim,ins_no nR hpk,nQp,ins_no nQn hck,rfl,fun j hj=>by
         rcases hj with hj | hj
         · exact zQp j hj
         · rcases ins_or hj with hj | hj
           · exact zQn j hj
           · rw [hj]; exact hpk0,fun r hr'=>by
         rcases ins_or hr' with hr | hr
         · exact zR r hr
         · rw [hr]; exact zk⟩
        have hcn':=cnt_ins hk hRk
        rcases hpre.go (u:=4 * cnt n Qp + cnt n R + 1) (v:=0) hO (by rw [hcn']; omega) (by rw [cnt_none]; exact Int.le_refl 0) with h1 | h1
        · exact .inr (.inl h1)
        · exact .inr (.inr (.inl h1))
       | false =>
        have hpre:Pre n k h B (M p c).natAbs M p c Qp Qn R (ins T k):=⟨h0,hhP,by omega,hB,hs,rfl,rp',rn',rr',rins fun i hi=>by have:=hC.rt i hi; omega,g1',fun j hj i hi hie=>by
         by_cases e:i = k
         · rw [e,row0 j (hC.rn j hj).1 (hC.rn j hj).2]
           have h1:=hC.g2 j hj i0 i0k i0n
           exact ⟨h1.1.mono (by omega),fun h=>by have:=h1.2 h; rw [hR0] at this; cases this⟩
         · have h1:=hC.g2 j hj i (by omega) hie
           exact ⟨h1.1.mono (by omega),h1.2⟩,fun r hr j hj hjn a b=>by
         have h1:=hC.rr r hr
         by_cases e:j = k
         · rw [e]; exact .inl (hC.cz r h1.1 h1.2)
         · exact (hC.g3 r hr j (by omega) hjn a b).mono (by omega),fun j hj' i hi hie=>by
         rcases ins_or hj' with hj | hj
         · have h1:=hC.rt j hj
           have h2:Na P B (M i j):=by
            by_cases e:i = k
            · rw [e,row0 j h1.1 h1.2]; exact hC.gT j hj i0 i0k i0n
            · exact hC.gT j hj i (by omega) hie
           unfold Na at h2
           omega
         · rw [hj]
           by_cases e:i = k
           · rw [e]; exact .inr ⟨by omega,by omega⟩
           · exact .inl (hC.cz i (by omega) hie),nR,nQp,nQn,ins_no nT hck,fun j hj=>by
         rcases hj with hj | hj
         · exact zQp j hj
         · exact zQn j hj,zR⟩
        have hcn':=cnt_ins hk hTk
        rcases hpre.go (u:=4 * cnt n Qp + cnt n R) (v:=cnt n T + 1) hO (Int.le_refl _) (by rw [hcn']; exact Int.le_refl _) with h1 | h1
        · exact .inl h1
        · exact .inr (.inr (.inr h1))
theorem slow {n k h B r:Nat} (hn4:n≤4) (hsm:∀ M,¬ Big n k h M→Fin n k r M):∀ f:Nat,∀ M,Big n k h M→((∃ u:Int,0≤u∧SN n k h B u M∧8 * (15 - u) + 4≤f) ∨ (∃ u:Int,0≤u∧SP n k h B u M∧8 * (15 - u) + 9≤f) ∨ ∃ u v:Int,0≤u∧0≤v∧SC n k h B u v M∧8 * (15 - u) + 5 + (3 - v)≤f)→Fin n k (r + f) M:=by
 have bnd:∀ {Q:Nat→Bool},(∀ i,Q i = true→k < i)→cnt n Q≤3:=fun hQ=>by have:=cnt_le n _ hQ; omega
 intro f
 induction f with
 | zero =>
  intro M _ hh
  exfalso
  rcases hh with ⟨u,_,⟨P,Qp,Qn,R,hN,hu⟩,hf⟩ | ⟨u,_,⟨P,Qp,hN,_,hu⟩,hf⟩ | ⟨u,v,_,_,⟨P,Qp,Qn,R,T,i0,hC,hu,hv⟩,hf⟩
  · have h1:=bnd fun i hi=>(hN.rp i hi).1
    have h2:=bnd fun i hi=>(hN.rr i hi).1
    omega
  · have h1:=bnd fun i hi=>(hN.rp i hi).1
    omega
  · have h1:=bnd fun i hi=>(hC.rp i hi).1
    have h2:=bnd fun i hi=>(hC.rr i hi).1
    have h3:=bnd fun i hi=>(hC.rt i hi).1
    omega
 | succ f ih =>
  intro M hb hh M' b hR
  obtain ⟨p,c,hs,hO⟩:=hR
  cases b with
  | true=>exact .inl rfl
  | false =>
   refine .inr ?_
   by_cases hb':Big n k h M'
   · refine ih M' hb' ?_
     rcases hh with ⟨u,hu0,⟨P,Qp,Qn,R,hN,hu⟩,hf⟩ | ⟨u,hu0,⟨P,Qp,hN,hpos,hu⟩,hf⟩ | ⟨u,v,hu0,hv0,⟨P,Qp,Qn,R,T,i0,hC,hu,hv⟩,hf⟩
     · have h1:=bnd fun i hi=>(hN.rp i hi).1
       have h2:=bnd fun i hi=>(hN.rr i hi).1
       have h3:=cnt_nonneg n R
       have h4:=cnt_nonneg n Qp
       rcases hN.next hb hs hO hb' with ⟨_,g | g⟩ | ⟨_,g | g | g⟩
       · exact .inl ⟨_,by omega,g,by omega⟩
       · exact .inr (.inr ⟨_,_,by omega,Int.le_refl 0,g,by omega⟩)
       · exact .inl ⟨_,by omega,g,by omega⟩
       · exact .inr (.inr ⟨_,_,by omega,Int.le_refl 0,g,by omega⟩)
       · refine .inr (.inl ⟨4 * cnt n Qp + 4 + 4 - 4,by omega,?_,by omega⟩)
         obtain ⟨P',Qp',hN',hpos',hu'⟩:=g
         exact ⟨P',Qp',hN',hpos',by omega⟩
     · have h1:=bnd fun i hi=>(hN.rp i hi).1
       have h4:=cnt_nonneg n Qp
       rcases hN.next hb hs hO hb' with ⟨_,g | g⟩ | ⟨hneg,_⟩
       · exact .inl ⟨_,by omega,g,by omega⟩
       · exact .inr (.inr ⟨_,_,by omega,Int.le_refl 0,g,by omega⟩)
       · exact absurd hpos (by omega)
     · have h1:=bnd fun i hi=>(hC.rp i hi).1
       have h2:=bnd fun i hi=>(hC.rr i hi).1
       have h3:=bnd fun i hi=>(hC.rt i hi).1
       have h4:=cnt_nonneg n Qp
       have h5:=cnt_nonneg n R
       have h6:=cnt_nonneg n T
       rcases hC.next hb hs hO hb' hn4 with g | g | g | g
       · exact .inl ⟨_,by omega,g,by omega⟩
       · exact .inl ⟨_,by omega,g,by omega⟩
       · exact .inr (.inr ⟨_,_,by omega,Int.le_refl 0,g,by omega⟩)
       · exact .inr (.inr ⟨_,_,by omega,by omega,g,by omega⟩)
   · exact (hsm M' hb').mono (Nat.le_add_right r f)
theorem Fin.of_round {n k r:Nat} {M:Mt} (h:∀ M',Rd n k M M' false→Fin n k r M'):Fin n k (r + 1) M:=fun M' b hR=>by
 cases b with
 | true=>exact .inl rfl
 | false=>exact .inr (h M' hR)
theorem fin_log {n k:Nat} (hn4:n≤4):∀ b:Nat,∀ M,¬ Big n k (2 ^ b) M→Fin n k (129 * b) M:=by
 intro b
 induction b with
 | zero =>
  intro M hM
  exact absurd (fun i j _ _ _ _ e=>by omega) hM
 | succ b ih =>
  intro M hM
  have h2:2 ^ (b + 1) = 2 * 2 ^ b:=by rw [Nat.pow_succ,Nat.mul_comm]
  have hpos:0 < 2 ^ b:=Nat.pow_pos (by decide)
  by_cases hb:Big n k (2 ^ b) M
  · have:129 * (b + 1) = 129 * b + 128 + 1:=by omega
    rw [this]
    refine Fin.of_round fun M' hR=>?_
    obtain ⟨p,c,hs,hO⟩:=hR
    by_cases hb':Big n k (2 ^ b) M'
    · refine slow (B:=(M p c).natAbs) hn4 ih 128 M' hb' ?_
      have hlt:(M p c).natAbs < 2 * 2 ^ b:=by
       refine Decidable.byContradiction fun hn=>hM ?_
       intro i j hi hin hj hjn e
       have:=hs.mn i j hi hin hj hjn e
       omega
      have hpre:Pre n k (2 ^ b) (M p c).natAbs (M p c).natAbs M p c none' none' none' none':=⟨hpos,hb p c hs.hp hs.hpn hs.hc hs.hcn hs.nz,Nat.le_refl _,hlt,hs,rfl,fun i hi=>(no_none i hi).elim,fun i hi=>(no_none i hi).elim,fun i hi=>(no_none i hi).elim,fun i hi=>(no_none i hi).elim,fun i hi=>(no_none i hi).elim,fun i hi=>(no_none i hi).elim,fun i hi=>(no_none i hi).elim,fun i hi=>(no_none i hi).elim,rfl,rfl,rfl,rfl,fun i hi=>by rcases hi with hi | hi <;> exact (no_none i hi).elim,fun i hi=>(no_none i hi).elim⟩
      rcases hpre.go (u:=0) (v:=0) hO (by rw [cnt_none]; exact Int.le_refl 0) (by rw [cnt_none]; exact Int.le_refl 0) with g | g
      · exact .inl ⟨0,Int.le_refl 0,g,by omega⟩
      · exact .inr (.inr ⟨0,0,Int.le_refl 0,Int.le_refl 0,g,by omega⟩)
    · exact (ih M' hb').mono (by omega)
  · exact (ih M hb).mono (by omega)
end Go.Sm
namespace Go.Sm
open Go.Det
def sel2 (M:Mt) (I J:Nat→Nat):Mt:=fun a b=>M (I a) (J b)
def Mn (n V:Nat) (M:Mt):Prop:=∀ (s:Nat) (I J:Nat→Nat),(∀ t,t < s→I t < n∧J t < n)→(det s (sel2 M I J)).natAbs≤V
theorem minor_large {n s:Nat} {M:Mt} {I J:Nat→Nat} (h:∀ t,t < s→I t < n∧J t < n) (hs:n < s):det s (sel2 M I J) = 0:=by
 refine Decidable.byContradiction fun e=>?_
 have:=(Low.cols n n M).le (s:=s) ⟨I,J,h,e⟩
 omega
theorem Mn.entry {n V:Nat} {M:Mt} (h:Mn n V M) {i j:Nat} (hi:i < n) (hj:j < n):(M i j).natAbs≤V:=by
 have:=h 1 (fun _=>i) (fun _=>j) fun _ _=>⟨hi,hj⟩
 simpa [det,sm,sgn,sel2] using this
theorem Mn.tr {n V:Nat} {M:Mt} (h:Mn n V M):Mn n V (Go.Det.tr M):=fun s I J hIJ=>by
 have:sel2 (Go.Det.tr M) I J = Go.Det.tr (sel2 M J I):=rfl
 rw [this,det_tr]
 exact h s J I fun t ht=>⟨(hIJ t ht).2,(hIJ t ht).1⟩
theorem Mn.mono {n V V':Nat} {M:Mt} (h:Mn n V M) (hV:V≤V'):Mn n V' M:=fun s I J hIJ=>Nat.le_trans (h s I J hIJ) hV
theorem Mn.congr {n V:Nat} {M M':Mt} (h:Mn n V M) (e:∀ i j,i < n→j < n→M i j = M' i j):Mn n V M':=fun s I J hIJ=>by
 have:det s (sel2 M' I J) = det s (sel2 M I J):=det_congr fun a b ha hb=>(e _ _ (hIJ a ha).1 (hIJ b hb).2).symm
 rw [this]
 exact h s I J hIJ
theorem Mn.perm {n V:Nat} {M:Mt} (h:Mn n V M) (f g:Nat→Nat) (hf:∀ i,i < n→f i < n) (hg:∀ i,i < n→g i < n):Mn n V (fun i j=>M (f i) (g j)):=fun s I J hIJ =>
 h s (fun t=>f (I t)) (fun t=>g (J t)) fun t ht=>⟨hf _ (hIJ t ht).1,hg _ (hIJ t ht).2⟩
theorem shear_det {n k:Nat} (hk:k < n) (g:Nat→Int) (h0:g k = 0) (A:Mt):(det n (mul n (shear k g) A)).natAbs = (det n A).natAbs:=by
 have h1:=(shear_inv hk g h0).det
 have h2:(det n (shear k g)).natAbs * (det n (shear k fun i=>- g i)).natAbs = 1:=by rw [← Int.natAbs_mul,h1]; rfl
 rw [det_mul,Int.natAbs_mul,Nat.eq_one_of_mul_eq_one_right h2,Nat.one_mul]
theorem row_with {n k s a:Nat} {M N:Mt} {f:Nat→Int} {I J:Nat→Nat} (hN:∀ i j,i < n→j < n→N i j = M i j - f i * M k j) (hf:f k = 0) (hIJ:∀ t,t < s→I t < n∧J t < n) (ha:a < s) (hI:I a = k):(det s (sel2 N I J)).natAbs = (det s (sel2 M I J)).natAbs:=by
 have h0:- f (I a) = 0:=by rw [hI,hf]; rfl
 rw [← shear_det ha (fun b=>- f (I b)) h0 (sel2 M I J)]
 congr 1
 refine det_congr fun i j hi hj=>?_
 rw [shear_mul ha hi]
 simp only [sel2]
 rw [hN _ _ (hIJ i hi).1 (hIJ j hj).2,hI]
 grind
theorem sm_abs {W:Nat}:∀ {s:Nat} {f:Nat→Int},(∀ t,t < s→(f t).natAbs≤W)→(sm s f).natAbs≤s * W:=by
 intro s
 induction s with
 | zero=>intro f _; simp [sm]
 | succ s ih =>
  intro f h
  have h1:=ih fun t ht=>h t (by omega)
  have h2:=h s (by omega)
  simp only [sm]
  rw [Nat.succ_mul]
  omega
theorem sm_first:∀ (s:Nat) (f:Nat→Int),sm (s + 1) f = f 0 + sm s fun t=>f (t + 1):=by
 intro s
 induction s with
 | zero=>intro f; simp [sm]
 | succ s ih=>intro f; rw [sm,ih]; simp only [sm]; omega
theorem Mn.rows {n k V:Nat} {M N:Mt} {f:Nat→Int} (h:Mn n V M) (hn4:n≤4) (hk:k < n) (hN:∀ i j,i < n→j < n→N i j = M i j - f i * M k j) (hf:f k = 0) (hx:M k k ≠ 0)
 (hr:∀ i,i < n→i ≠ k→0≤N i k∧N i k < (M k k).natAbs):Mn n (5 * V) N:=by
 intro s I J hIJ
 by_cases hs:n < s
 · rw [minor_large hIJ hs]; simp
 by_cases ha:∃ a,a < s∧I a = k
 · obtain ⟨a,ha,hI⟩:=ha
   rw [row_with hN hf hIJ ha hI]
   have:=h s I J hIJ
   omega
 · -- the minor with row k and column k ahead
   let I':Nat→Nat:=fun t=>if t = 0 then k else I (t - 1)
   let J':Nat→Nat:=fun t=>if t = 0 then k else J (t - 1)
   have hIJ':∀ t,t < s + 1→I' t < n∧J' t < n:=by
    intro t ht
    by_cases e:t = 0
    · simp only [I',J',e,if_pos rfl]; exact ⟨hk,hk⟩
    · simp only [I',J',if_neg e]; exact hIJ (t - 1) (by omega)
   have h1:(det (s + 1) (sel2 N I' J')).natAbs≤V:=by
    rw [row_with hN hf hIJ' (Nat.succ_pos s) (show I' 0 = k from if_pos rfl)]
    exact h (s + 1) I' J' hIJ'
   rw [← det_tr] at h1
   simp only [det] at h1
   rw [sm_first] at h1
   have e0:minor (Go.Det.tr (sel2 N I' J')) 0 0 = Go.Det.tr (sel2 N I J):=by
    funext r c
    simp only [minor,skip_zero,Go.Det.tr,sel2,I',J']
    rw [if_neg (Nat.succ_ne_zero c),if_neg (Nat.succ_ne_zero r)]
    rfl
   have hkk:N k k = M k k:=by rw [hN k k hk hk,hf]; omega
   have v0:Go.Det.tr (sel2 N I' J') 0 0 = M k k:=by
    simp only [Go.Det.tr,sel2,I',J']; exact hkk
   rw [e0,det_tr,v0] at h1
   have hP:0 < (M k k).natAbs:=by omega
   have h2:(sm s fun t=>sgn (t + 1) * Go.Det.tr (sel2 N I' J') 0 (t + 1) * det s (minor (Go.Det.tr (sel2 N I' J')) 0 (t + 1))).natAbs≤s * ((M k k).natAbs * V):=by
    refine sm_abs fun t ht=>?_
    have vt:Go.Det.tr (sel2 N I' J') 0 (t + 1) = N (I t) k:=by
     simp only [Go.Det.tr,sel2,I',J']
     rw [if_neg (Nat.succ_ne_zero t)]
     rfl
    have hne:I t ≠ k:=fun e=>ha ⟨t,ht,e⟩
    have hrt:=hr (I t) (hIJ t ht).1 hne
    let I2:Nat→Nat:=fun a=>I' (skip (t + 1) a)
    have em:minor (Go.Det.tr (sel2 N I' J')) 0 (t + 1) = Go.Det.tr (sel2 N I2 J):=by
     funext r c
     simp only [minor,skip_zero,Go.Det.tr,sel2,I2,J']
     rw [if_neg (Nat.succ_ne_zero r)]
     rfl
    have hs0:0 < s:=by omega
    have hI2:∀ a,a < s→I2 a < n∧J a < n:=fun a ha=>⟨(hIJ' (skip (t + 1) a) (skip_lt ha)).1,(hIJ a ha).2⟩
    have hz:I2 0 = k:=by simp [I2,I',skip]
    have h3:(det s (sel2 N I2 J)).natAbs≤V:=by
     rw [row_with hN hf hI2 hs0 hz]
     exact h s I2 J hI2
    rw [em,det_tr,vt,Int.natAbs_mul,Int.natAbs_mul]
    have hsg:(sgn (t + 1)).natAbs = 1:=by unfold sgn; split <;> rfl
    rw [hsg,Nat.one_mul]
    exact Nat.mul_le_mul (by omega) h3
   have hsg0:sgn 0 = 1:=rfl
   rw [hsg0,Int.one_mul] at h1
   have h4:(M k k).natAbs * (det s (sel2 N I J)).natAbs≤V + s * ((M k k).natAbs * V):=by
    rw [← Int.natAbs_mul]
    omega
   have h5:V + s * ((M k k).natAbs * V)≤(M k k).natAbs * (5 * V):=by
    have h6:s * ((M k k).natAbs * V)≤4 * ((M k k).natAbs * V):=Nat.mul_le_mul_right _ (by omega)
    have h7:1 * V≤(M k k).natAbs * V:=Nat.mul_le_mul_right _ hP
    have h8:(M k k).natAbs * (5 * V) = 5 * ((M k k).natAbs * V):=by grind
    omega
   exact Nat.le_of_mul_le_mul_left (Nat.le_trans h4 h5) hP
theorem Mn.addR {n k i0 V:Nat} {M:Mt} (h:Mn n V M) (hi0:i0 < n):Mn n (2 * V) (addR M k i0):=by
 intro s I J hIJ
 by_cases ha:∃ a,a < s∧I a = k
 · obtain ⟨a,ha,hI⟩:=ha
   by_cases hd:∃ b,b < s∧b ≠ a∧I b = k
   · obtain ⟨b,hb,hne,hI2⟩:=hd
     rw [(ma_det s).eq0 _ a b ha hb (Ne.symm hne) fun j _=>by simp only [sel2,hI,hI2]]
     simp
   · have e1:∀ i j,i < s→j < s→sel2 (Go.Sm.addR M k i0) I J i j = setR (sel2 M I J) a (fun c=>sel2 M I J a c + M i0 (J c)) i j:=by
      intro i j hi hj
      simp only [sel2,Go.Sm.addR,setR]
      by_cases e:i = a
      · rw [if_pos e,e,if_pos hI,hI]
      · rw [if_neg e,if_neg fun e2=>hd ⟨i,hi,e,e2⟩]
     rw [det_congr e1,(ma_det s).add _ _ _ _ ha,setR_self]
     have h1:=h s I J hIJ
     have h2:=h s (fun t=>if t = a then i0 else I t) J fun t ht=>⟨by by_cases e:t = a; simp only [if_pos e]; exact hi0; simp only [if_neg e]; exact (hIJ t ht).1,(hIJ t ht).2⟩
     have e2:sel2 M (fun t=>if t = a then i0 else I t) J = setR (sel2 M I J) a (fun c=>M i0 (J c)):=by
      funext r c
      simp only [sel2,setR]
      split <;> rfl
     rw [e2] at h2
     omega
 · have:det s (sel2 (Go.Sm.addR M k i0) I J) = det s (sel2 M I J):=det_congr fun i j hi _=>by
    simp only [sel2,Go.Sm.addR]
    rw [if_neg fun e=>ha ⟨i,hi,e⟩]
   rw [this]
   have:=h s I J hIJ
   omega
def Dg (n k:Nat) (M:Mt):Prop:=∀ i j,i < n→j < n→i < k ∨ j < k→i ≠ j→M i j = 0
theorem Dg.rowF {n k:Nat} {M:Mt} (h:Dg n k M) (hk:k < n) {i:Nat} (hi:i < n) (h1:¬ (k < i∧i < n)) (h2:i ≠ k):M i k = 0:=h i k hi hk (.inl (by omega)) h2
theorem rowP_eq (M:Mt) (k n:Nat) (i j:Nat):rowP M k n i j = M i j - (if k < i∧i < n then M i k / M k k else 0) * M k j:=by
 simp only [rowP]; split
 · rfl
 · omega
theorem Mn.rowP {n k V:Nat} {M:Mt} (h:Mn n V M) (hn4:n≤4) (hk:k < n) (hD:Dg n k M) (hx:M k k ≠ 0):Mn n (5 * V) (rowP M k n):=by
 refine h.rows (f:=fun i=>if k < i∧i < n then M i k / M k k else 0) hn4 hk (fun i j _ _=>rowP_eq M k n i j) (if_neg (by omega)) hx fun i hi hne=>?_
 simp only [Go.Sm.rowP]
 split
 · rw [mod_eq]; exact emod_rng rfl (by omega)
 · next h1=>rw [hD.rowF hk hi h1 hne]; omega
theorem colP_tr (M:Mt) (k n:Nat):colP M k n = Go.Det.tr (Go.Sm.rowP (Go.Det.tr M) k n):=by
 funext i j
 simp only [colP,Go.Det.tr,Go.Sm.rowP]
theorem Dg.tr {n k:Nat} {M:Mt} (h:Dg n k M):Dg n k (Go.Det.tr M):=fun i j hi hj hk hn=>h j i hj hi hk.symm (Ne.symm hn)
theorem Dg.rowP {n k:Nat} {M:Mt} (h:Dg n k M) (hk:k < n):Dg n k (Go.Sm.rowP M k n):=by
 intro i j hi hj hij hne
 rw [rowP_eq,h i j hi hj hij hne]
 by_cases e:k < i∧i < n
 · rw [h k j hk hj (by omega) (by omega)]; omega
 · rw [if_neg e]; omega
theorem Dg.colP {n k:Nat} {M:Mt} (h:Dg n k M) (hk:k < n):Dg n k (Go.Sm.colP M k n):=by
 rw [colP_tr]; exact (h.tr.rowP hk).tr
theorem Dg.swp {n k p c:Nat} {M:Mt} (h:Dg n k M) (hk:k < n) (hp:k≤p) (hpn:p < n) (hc:k≤c) (hcn:c < n):Dg n k (swp M k p c):=by
 have lo:∀ {q i},k≤q→i < k→sx k q i = i:=fun hq hi=>by unfold sx; rw [if_neg (by omega),if_neg (by omega)]
 intro i j hi hj hij hne
 simp only [Go.Sm.swp]
 rcases hij with h1 | h1
 · rw [lo hp h1]
   refine h i _ hi (sx_lt hk hcn hj) (.inl h1) ?_
   by_cases h2:j < k
   · rw [lo hc h2]; exact hne
   · have:=sx_ge (i:=j) hc (by omega); omega
 · rw [lo hc h1]
   refine h _ j (sx_lt hk hpn hi) hj (.inr h1) ?_
   by_cases h2:i < k
   · rw [lo hp h2]; exact hne
   · have:=sx_ge (i:=i) hp (by omega); omega
theorem Dg.addR {n k i0:Nat} {M:Mt} (h:Dg n k M) (hk:k < n) (h0:k < i0) (hi0:i0 < n):Dg n k (Go.Sm.addR M k i0):=by
 intro i j hi hj hij hne
 simp only [Go.Sm.addR]
 split
 · next e=>rw [h k j hk hj (by omega) (by omega),h i0 j hi0 hj (by omega) (by omega)]; rfl
 · exact h i j hi hj hij hne
theorem Mn.swp {n k V p c:Nat} {M:Mt} (h:Mn n V M) (hk:k < n) (hp:p < n) (hc:c < n):Mn n V (Go.Sm.swp M k p c):=h.perm (sx k p) (sx k c) (fun _ hi=>sx_lt hk hp hi) fun _ hi=>sx_lt hk hc hi
theorem Mn.red {n k V:Nat} {M:Mt} (h:Mn n V M) (hn4:n≤4) (hk:k < n) (hD:Dg n k M) (hx:M k k ≠ 0):Mn n (25 * V) (Go.Sm.red M k n):=by
 simp only [Go.Sm.red]
 rw [colP_tr]
 have h1:=(h.rowP hn4 hk hD hx).tr.rowP hn4 hk (hD.rowP hk).tr (by simp only [Go.Det.tr]; rw [rowP_k]; exact hx)
 refine h1.tr.mono (by omega)
theorem Mn.round {n k V:Nat} {M M':Mt} {b:Bool} (h:Mn n V M) (hn4:n≤4) (hD:Dg n k M) (hR:Rd n k M M' b):Mn n (50 * V) M'∧Dg n k M':=by
 obtain ⟨p,c,hs,hO⟩:=hR
 have hk:k < n:=Nat.lt_of_le_of_lt hs.hp hs.hpn
 have h1:=h.swp hk hs.hpn hs.hcn
 have hD1:=hD.swp hk hs.hp hs.hpn hs.hc hs.hcn
 have hx:Go.Sm.swp M k p c k k ≠ 0:=by simp only [Go.Sm.swp,sx_k]; exact hs.nz
 have h2:=h1.red hn4 hk hD1 hx
 have hD2:Dg n k (Go.Sm.red (Go.Sm.swp M k p c) k n):=(hD1.rowP hk).colP hk
 cases hO with
 | done=>exact ⟨h2.mono (by omega),hD2⟩
 | left=>exact ⟨h2.mono (by omega),hD2⟩
 | row i0 h0 hn _ _=>exact ⟨(h2.addR hn).mono (by omega),hD2.addR hk h0 hn⟩
end Go.Sm
namespace Go.Sm
open Go.Det
theorem sx_inv {n k p:Nat} (hk:k < n) (hp:p < n):∀ i,i < n→sx k p i < n∧sx k p (sx k p i) = i:=fun i hi=>⟨sx_lt hk hp hi,sx_sx k p i⟩
theorem eqv_swp {n k p c:Nat} (M:Mt) (hk:k < n) (hp:p < n) (hc:c < n):Eqv n M (swp M k p c) :=
 (Eqv.perm (B:=fun i j=>M (sx k p i) j) (sx k p) (sx_inv hk hp) fun _ _ _ _=>rfl).trans (Eqv.permC (sx k c) (sx_inv hk hc) fun _ _ _ _=>rfl)
theorem eqv_rowP {n k:Nat} (M:Mt) (hk:k < n):Eqv n M (rowP M k n) :=
 Eqv.rows hk (fun i=>- (if k < i∧i < n then M i k / M k k else 0)) (by show - (if k < k∧k < n then M k k / M k k else (0:Int)) = 0; rw [if_neg (by omega)]; rfl) fun i j _ _=>by
  rw [rowP_eq]; grind
theorem eqv_colP {n k:Nat} (M:Mt) (hk:k < n):Eqv n M (colP M k n):=by
 rw [colP_tr]
 exact (eqv_rowP (Go.Det.tr M) hk).tr
theorem eqv_red {n k:Nat} (M:Mt) (hk:k < n):Eqv n M (red M k n):=(eqv_rowP M hk).trans (eqv_colP _ hk)
theorem eqv_addR {n k i0:Nat} (M:Mt) (_hk:k < n) (h0:i0 < n) (hne:i0 ≠ k):Eqv n M (addR M k i0) :=
 Eqv.rows h0 (fun i=>if i = k then 1 else 0) (if_neg hne) fun i j _ _=>by
  simp only [addR]
  by_cases e:i = k
  · rw [if_pos e,if_pos e,e]; omega
  · rw [if_neg e,if_neg e]; omega
theorem eqv_round {n k:Nat} {M M':Mt} {b:Bool} (hR:Rd n k M M' b):Eqv n M M':=by
 obtain ⟨p,c,hs,hO⟩:=hR
 have hk:k < n:=Nat.lt_of_le_of_lt hs.hp hs.hpn
 have h1:=(eqv_swp M hk hs.hpn hs.hcn).trans (eqv_red _ hk)
 cases hO with
 | done=>exact h1
 | left=>exact h1
 | row i0 h0 hn _ _=>exact h1.trans (eqv_addR _ hk hn (by omega))
def Da (n k:Nat) (d:Int) (M:Mt):Prop:=∀ i j,k≤i→i < n→k≤j→j < n→d ∣ M i j
theorem Da.swp {n k p c:Nat} {d:Int} {M:Mt} (h:Da n k d M) (hs:Sel n k M p c):Da n k d (swp M k p c):=fun _i _j hi hin hj hjn =>
 have hk:k < n:=Nat.lt_of_le_of_lt hs.hp hs.hpn
 h _ _ (sx_ge hs.hp hi) (sx_lt hk hs.hpn hin) (sx_ge hs.hc hj) (sx_lt hk hs.hcn hjn)
theorem Da.rowP {n k:Nat} {d:Int} {M:Mt} (h:Da n k d M):Da n k d (rowP M k n):=fun i j hi hin hj hjn=>by
 rw [rowP_eq]
 exact Int.dvd_sub (h i j hi hin hj hjn) (Int.dvd_trans (h k j (Nat.le_refl _) (by omega) hj hjn) ⟨_,Int.mul_comm _ _⟩)
theorem Da.tr {n k:Nat} {d:Int} {M:Mt} (h:Da n k d M):Da n k d (Go.Det.tr M):=fun i j hi hin hj hjn=>h j i hj hjn hi hin
theorem Da.red {n k:Nat} {d:Int} {M:Mt} (h:Da n k d M):Da n k d (red M k n):=by
 simp only [Go.Sm.red]
 rw [colP_tr]
 exact (h.rowP.tr.rowP).tr
theorem Da.addR {n k i0:Nat} {d:Int} {M:Mt} (h:Da n k d M) (h0:k≤i0) (hn:i0 < n):Da n k d (addR M k i0):=fun i j hi hin hj hjn=>by
 simp only [Go.Sm.addR]
 split
 · exact Int.dvd_add (h k j (Nat.le_refl _) (by omega) hj hjn) (h i0 j h0 hn hj hjn)
 · exact h i j hi hin hj hjn
theorem Da.round {n k:Nat} {d:Int} {M M':Mt} {b:Bool} (h:Da n k d M) (hR:Rd n k M M' b):Da n k d M':=by
 obtain ⟨p,c,hs,hO⟩:=hR
 have h1:=(h.swp hs).red
 cases hO with
 | done=>exact h1
 | left=>exact h1
 | row i0 h0 hn _ _=>exact h1.addR (Nat.le_of_lt h0) hn
theorem round_diag {n k t:Nat} {M M':Mt} {b:Bool} (hR:Rd n k M M' b) (ht:t < k):M' t t = M t t:=by
 obtain ⟨p,c,hs,hO⟩:=hR
 have lo:∀ {q i},k≤q→i < k→sx k q i = i:=fun hq hi=>by unfold sx; rw [if_neg (by omega),if_neg (by omega)]
 have h1:red (Go.Sm.swp M k p c) k n t t = M t t:=by
  simp only [Go.Sm.red,colP]
  rw [if_neg (by omega)]
  simp only [Go.Sm.rowP]
  rw [if_neg (by omega)]
  simp only [Go.Sm.swp]
  rw [lo hs.hp ht,lo hs.hc ht]
 cases hO with
 | done=>exact h1
 | left=>exact h1
 | row i0 h0 hn _ _ =>
  simp only [Go.Sm.addR]
  rw [if_neg (by omega)]
  exact h1
structure Sg (n k:Nat) (M:Mt):Prop where
 dg:Dg n k M
 nn:∀ t,t < k→0≤M t t
 dv:∀ t,t + 1 < k→M t t ∣ M (t + 1) (t + 1)
 da:∀ t,t + 1 = k→Da n k (M t t) M
theorem Sg.zero (n:Nat) (M:Mt):Sg n 0 M:=⟨fun _ _ _ _ h _=>by omega,fun _ h=>by omega,fun _ h=>by omega,fun _ h=>by omega⟩
theorem Sg.round {n k V:Nat} {M M':Mt} {b:Bool} (h:Sg n k M) (hV:Mn n V M) (hn4:n≤4) (hR:Rd n k M M' b):Sg n k M':=by
 have e:=fun t (ht:t < k)=>round_diag hR ht
 refine ⟨(hV.round hn4 h.dg hR).2,fun t ht=>by rw [e t ht]; exact h.nn t ht,fun t ht=>by rw [e t (by omega),e (t + 1) ht]; exact h.dv t ht,fun t ht=>by rw [e t (by omega)]; exact (h.da t ht).round hR⟩
def absK (M:Mt) (k:Nat):Mt:=fun i j=>if i = k∧j = k then ((M k k).natAbs:Int) else M i j
theorem rd_true {n k:Nat} {M M':Mt} (hR:Rd n k M M' true):k < n∧Clean n k M'∧M' k k ≠ 0∧∀ i j,k < i→i < n→k < j→j < n→M' k k ∣ M' i j:=by
 obtain ⟨p,c,hs,hO⟩:=hR
 have hk:k < n:=Nat.lt_of_le_of_lt hs.hp hs.hpn
 cases hO with
 | done hc hd=>exact ⟨hk,hc,by rw [red_kk]; simp only [Go.Sm.swp,sx_k]; exact hs.nz,fun i j a b c d=>by rw [red_kk]; exact hd i j a b c d⟩
theorem Sg.next {n k V:Nat} {M M':Mt} (h:Sg n k M) (hV:Mn n V M) (hn4:n≤4) (hR:Rd n k M M' true):Sg n (k + 1) (absK M' k):=by
 have h1:=h.round hV hn4 hR
 obtain ⟨hk,hc,hnz,hd⟩:=rd_true hR
 have hne:∀ t,t ≠ k→absK M' k t t = M' t t:=fun t ht=>if_neg (by omega)
 have hkk:absK M' k k k = ((M' k k).natAbs:Int):=if_pos ⟨rfl,rfl⟩
 refine ⟨fun i j hi hj hij hn=>?_,fun t ht=>?_,fun t ht=>?_,fun t ht=>?_⟩
 · simp only [absK]
   rw [if_neg (by omega)]
   by_cases e:i < k ∨ j < k
   · exact h1.dg i j hi hj e hn
   · by_cases e2:i = k
     · rw [e2]; exact hc.2 j (by omega) hj
     · have e3:j = k:=by omega
       rw [e3]; exact hc.1 i (by omega) hi
 · by_cases e:t = k
   · rw [e,hkk]; exact Int.natCast_nonneg _
   · rw [hne t e]; exact h1.nn t (by omega)
 · by_cases e:t + 1 = k
   · rw [e,hkk,hne t (by omega)]
     have:=h1.da t e k k (Nat.le_refl _) hk (Nat.le_refl _) hk
     exact Int.dvd_natAbs.2 this
   · rw [hne t (by omega),hne (t + 1) e]; exact h1.dv t (by omega)
 · have e:t = k:=by omega
   rw [e,hkk]
   intro i j hi hin hj hjn
   simp only [absK]
   rw [if_neg (by omega)]
   exact Int.natAbs_dvd.2 (hd i j (by omega) hin (by omega) hjn)
theorem eqv_absK {n:Nat} (M:Mt) (k:Nat) (hc:Clean n k M) (hD:Dg n k M) (hk:k < n):Eqv n M (absK M k):=by
 refine Eqv.signs (fun i=>if i = k∧M k k < 0 then -1 else 1) (fun i _=>?_) fun i j hi hj=>?_
 · show (if i = k∧M k k < 0 then (-1:Int) else 1) * (if i = k∧M k k < 0 then (-1:Int) else 1) = 1
   split <;> rfl
 · show absK M k i j = (if i = k∧M k k < 0 then (-1:Int) else 1) * M i j
   simp only [absK]
   by_cases e:i = k
   · subst e
     by_cases e2:j = i
     · subst e2
       rw [if_pos ⟨rfl,rfl⟩]
       by_cases h:M j j < 0
       · rw [if_pos ⟨rfl,h⟩]; omega
       · rw [if_neg (by omega)]; omega
     · rw [if_neg (by omega)]
       have:M i j = 0:=by
        by_cases h:j < i
        · exact hD i j hi hj (.inr h) (by omega)
        · exact hc.2 j (by omega) hj
       rw [this,Int.mul_zero]
   · rw [if_neg (by omega),if_neg (by omega)]; omega
theorem Mn.absK {n V:Nat} {M:Mt} (h:Mn n V M) (k:Nat) (hc:Clean n k M) (hD:Dg n k M) (hk:k < n):Mn n V (absK M k):=by
 have key:∀ i j,i < n→j < n→Go.Sm.absK M k i j = (if i = k∧M k k < 0 then (-1:Int) else 1) * M i j:=by
  intro i j hi hj
  simp only [Go.Sm.absK]
  by_cases e:i = k
  · subst e
    by_cases e2:j = i
    · subst e2
      rw [if_pos ⟨rfl,rfl⟩]
      by_cases h:M j j < 0
      · rw [if_pos ⟨rfl,h⟩]; omega
      · rw [if_neg (by omega)]; omega
    · rw [if_neg (by omega)]
      have:M i j = 0:=by
       by_cases h:j < i
       · exact hD i j hi hj (.inr h) (by omega)
       · exact hc.2 j (by omega) hj
      rw [this,Int.mul_zero]
  · rw [if_neg (by omega),if_neg (by omega)]; omega
 intro s I J hIJ
 have e1:∀ i j,i < s→j < s→sel2 (Go.Sm.absK M k) I J i j = mul s (fun i t=>if t = i then (if I i = k∧M k k < 0 then (-1:Int) else 1) else 0) (sel2 M I J) i j:=by
  intro i j hi hj
  simp only [mul]
  rw [sm_one (c:=i) hi fun t _ hn=>by rw [if_neg hn,Int.zero_mul],if_pos rfl]
  simp only [sel2]
  exact key _ _ (hIJ i hi).1 (hIJ j hj).2
 have hI:Inv s (fun i t=>if t = i then (if I i = k∧M k k < 0 then (-1:Int) else 1) else 0) (fun i t=>if t = i then (if I i = k∧M k k < 0 then (-1:Int) else 1) else 0):=by
  have:∀ i j,i < s→j < s→mul s (fun i t=>if t = i then (if I i = k∧M k k < 0 then (-1:Int) else 1) else 0) (fun i t=>if t = i then (if I i = k∧M k k < 0 then (-1:Int) else 1) else 0) i j = one i j:=by
   intro i j hi hj
   simp only [mul]
   rw [sm_one (c:=i) hi fun t _ hn=>by rw [if_neg hn,Int.zero_mul],if_pos rfl]
   simp only [one]
   by_cases e:i = j
   · subst e; rw [if_pos rfl,if_pos rfl]; split <;> rfl
   · rw [if_neg e,if_neg (Ne.symm e),Int.mul_zero]
  exact ⟨this,this⟩
 rw [det_congr e1,det_mul,Int.natAbs_mul]
 have h1:=hI.det
 have h2:(det s fun i t=>if t = i then (if I i = k∧M k k < 0 then (-1:Int) else 1) else 0).natAbs * (det s fun i t=>if t = i then (if I i = k∧M k k < 0 then (-1:Int) else 1) else 0).natAbs = 1:=by rw [← Int.natAbs_mul,h1]; rfl
 rw [Nat.eq_one_of_mul_eq_one_right h2,Nat.one_mul]
 exact h s I J hIJ
theorem Sg.smith {n:Nat} {M:Mt} (h:Sg n n M):Smith n M:=by
 refine ⟨fun i j hi hj hn=>h.dg i j hi hj (.inl hi) hn,fun i hi=>h.dv i hi,fun i hi=>h.nn i hi⟩
theorem Sg.rest {n k:Nat} {M:Mt} (h:Sg n k M) (hz:∀ i j,k≤i→i < n→k≤j→j < n→M i j = 0):Smith n M:=by
 refine ⟨fun i j hi hj hn=>?_,fun i hi=>?_,fun i hi=>?_⟩
 · by_cases e:i < k ∨ j < k
   · exact h.dg i j hi hj e hn
   · exact hz i j (by omega) hi (by omega) hj
 · by_cases e:i + 1 < k
   · exact h.dv i e
   · by_cases e2:k≤i + 1
     · rw [hz (i + 1) (i + 1) e2 hi e2 hi]; exact Int.dvd_zero _
     · omega
 · by_cases e:i < k
   · exact h.nn i e
   · rw [hz i i (by omega) hi (by omega) hi]; exact Int.le_refl 0
theorem fin_last {n k:Nat} (hk:k + 1 = n) (M:Mt):Fin n k 0 M:=by
 intro M' b hR
 obtain ⟨p,c,hs,hO⟩:=hR
 cases hO with
 | done=>rfl
 | left hc=>exact absurd ⟨fun i hi hin=>by omega,fun j hj hjn=>by omega⟩ hc
 | row i0 h0 hn _ _=>omega
theorem Mn.big {n k E:Nat} {M:Mt} (h:Mn n (2 ^ E) M) {i j:Nat} (hi:k≤i) (hin:i < n) (hj:k≤j) (hjn:j < n) (e:M i j ≠ 0):¬ Big n k (2 ^ (E + 1)) M:=fun hb=>by
 have h1:=hb i j hi hin hj hjn e
 have h2:=h.entry hin hjn
 have h3:2 ^ (E + 1) = 2 * 2 ^ E:=by rw [Nat.pow_succ,Nat.mul_comm]
 have h4:0 < 2 ^ E:=Nat.pow_pos (by decide)
 omega
def rb (n k e:Nat):Nat:=if k + 1 = n then 0 else 129 * (e + 1)
theorem fin_rb {n k E:Nat} {M:Mt} (hn4:n≤4) (h:Mn n (2 ^ E) M) {i j:Nat} (hi:k≤i) (hin:i < n) (hj:k≤j) (hjn:j < n) (e:M i j ≠ 0):Fin n k (rb n k E) M:=by
 unfold rb
 split
 · next hk=>exact fin_last hk M
 · exact fin_log hn4 (E + 1) M (h.big hi hin hj hjn e)
theorem Mn.round6 {n k E:Nat} {M M':Mt} {b:Bool} (h:Mn n (2 ^ E) M) (hn4:n≤4) (hD:Dg n k M) (hR:Rd n k M M' b):Mn n (2 ^ (E + 6)) M':=by
 refine (h.round hn4 hD hR).1.mono ?_
 have:2 ^ (E + 6) = 64 * 2 ^ E:=by rw [Nat.pow_add,Nat.mul_comm]
 omega
def dl (W:Nat):Nat→Nat
 | 0=>1
 | s + 1=>(s + 1) * (W * dl W s)
theorem det_le {W:Nat}:∀ (s:Nat) (A:Mt),(∀ i j,i < s→j < s→(A i j).natAbs≤W)→(det s A).natAbs≤dl W s:=by
 intro s
 induction s with
 | zero=>intro A _; exact Nat.le_refl 1
 | succ s ih =>
  intro A h
  simp only [det]
  refine sm_abs fun j hj=>?_
  rw [Int.natAbs_mul,Int.natAbs_mul]
  have hsg:(sgn j).natAbs = 1:=by unfold sgn; split <;> rfl
  rw [hsg,Nat.one_mul]
  exact Nat.mul_le_mul (h 0 j (by omega) hj) (ih (minor A 0 j) fun i c hi hc=>h _ _ (by rw [skip_zero]; omega) (skip_lt hc))
theorem Mn.start {n e:Nat} {M:Mt} (hn4:n≤4) (h:∀ i j,i < n→j < n→(M i j).natAbs≤2 ^ e):Mn n (2 ^ (4 * e + 5)) M:=by
 intro s I J hIJ
 by_cases hs:n < s
 · rw [minor_large hIJ hs]; exact Nat.zero_le _
 have h1:=det_le s (sel2 M I J) (W:=2 ^ e) fun i j hi hj=>h _ _ (hIJ i hi).1 (hIJ j hj).2
 refine Nat.le_trans h1 ?_
 have hp:0 < 2 ^ e:=Nat.pow_pos (by decide)
 have h5:2 ^ (4 * e + 5) = 32 * (2 ^ e * (2 ^ e * (2 ^ e * 2 ^ e))):=by
  rw [Nat.pow_add,Nat.mul_comm 4 e,Nat.pow_mul]
  have:(2 ^ e) ^ 4 = 2 ^ e * (2 ^ e * (2 ^ e * 2 ^ e)):=by grind
  rw [this]; omega
 rw [h5]
 generalize 2 ^ e = x at hp
 have a1:x≤x * x:=Nat.le_mul_of_pos_left _ hp
 have a2:x * x≤x * (x * x):=Nat.le_mul_of_pos_left _ hp
 have a3:x * (x * x)≤x * (x * (x * x)):=Nat.le_mul_of_pos_left _ hp
 have hs4:s = 0 ∨ s = 1 ∨ s = 2 ∨ s = 3 ∨ s = 4:=by omega
 rcases hs4 with e | e | e | e | e <;> subst e <;> simp only [dl] <;> grind
end Go.Sm
