/- Plain: the step of a long division (the guess of a digit). -/
import Derived.Test.YtimjiaabaanbeaaNum
namespace Go.Num

section
variable {D vl v2 v1 ul u3 u2 u1 U V g r : Nat}
/-- the two numbers, by their first digits -/
structure Top (D vl v2 v1 ul u3 u2 u1 U V : Nat) : Prop where
  hV : V = vl + D * (v2 + B * v1)
  hU : U = ul + D * (u3 + B * (u2 + B * u1))
  dpos : 0 < D
  hvl : vl < D
  hul : ul < D
  hv2 : v2 < B
  hv1 : v1 < B
  hu3 : u3 < B
  hu2 : u2 < B
  hu1 : u1 < B
  norm : B ≤ 2 * v1
  lt : U < B * V

theorem Top.v1pos (h : Top D vl v2 v1 ul u3 u2 u1 U V) : 0 < v1 := by have := h.norm; unfold B at this; omega
theorem Top.V_ge (h : Top D vl v2 v1 ul u3 u2 u1 U V) : D * B * v1 ≤ V := by
  rw [h.hV, Nat.mul_add, Nat.mul_assoc]; omega
theorem Top.u1_le (h : Top D vl v2 v1 ul u3 u2 u1 U V) : u1 ≤ v1 := by
  rcases Nat.lt_or_ge v1 u1 with hlt | hge
  · exfalso
    have h1 : D * (B * (B * (v1 + 1))) ≤ U := by
      rw [h.hU]
      have : B * (B * (v1 + 1)) ≤ u3 + B * (u2 + B * u1) := by
        have : B * (v1 + 1) ≤ u2 + B * u1 := Nat.le_trans (Nat.mul_le_mul_left _ hlt) (by omega)
        exact Nat.le_trans (Nat.mul_le_mul_left _ this) (by omega)
      exact Nat.le_trans (Nat.mul_le_mul_left _ this) (by omega)
    have h2 : V < D * (B * (v1 + 1)) := by
      rw [h.hV]
      have : v2 + B * v1 + 1 ≤ B * (v1 + 1) := by rw [Nat.mul_succ]; have := h.hv2; omega
      have := Nat.mul_le_mul_left D this
      rw [Nat.mul_succ] at this
      have := h.hvl; omega
    have h3 := Nat.mul_le_mul_left B (Nat.le_of_lt h2)
    have e : B * (D * (B * (v1 + 1))) = D * (B * (B * (v1 + 1))) := by rw [Nat.mul_left_comm]
    have := h.lt
    omega
  · exact hge
theorem Top.U_lt (h : Top D vl v2 v1 ul u3 u2 u1 U V) : U < D * (u3 + B * (u2 + B * u1) + 1) := by
  rw [h.hU, Nat.mul_succ]; have := h.hul; omega
theorem Top.start (h : Top D vl v2 v1 ul u3 u2 u1 U V) : U < ((u1 * B + u2) / v1 + 1) * V ∧ (u1 * B + u2) / v1 ≤ B + 1 ∧ (u1 * B + u2) / v1 * v1 + (u1 * B + u2) % v1 = u1 * B + u2 := by
  have hp := h.v1pos
  have e := Nat.div_add_mod (u1 * B + u2) v1
  have hm := Nat.mod_lt (u1 * B + u2) hp
  refine ⟨?_, ?_, by rw [Nat.mul_comm]; exact e⟩
  · generalize hq : (u1 * B + u2) / v1 = q at *
    generalize (u1 * B + u2) % v1 = s at *
    have h1 : u1 * B + u2 + 1 ≤ (q + 1) * v1 := by rw [Nat.add_mul, Nat.one_mul, Nat.mul_comm q v1]; omega
    have h2 : u3 + B * (u2 + B * u1) + 1 ≤ B * ((q + 1) * v1) := by
      have := Nat.mul_le_mul_left B h1
      rw [Nat.mul_succ] at this
      have e2 : B * (u1 * B + u2) = B * (u2 + B * u1) := by rw [Nat.add_comm, Nat.mul_comm u1]
      have := h.hu3
      omega
    have h3 := Nat.mul_le_mul_left D h2
    have h4 := Nat.mul_le_mul_left (q + 1) h.V_ge
    have e3 : (q + 1) * (D * B * v1) = D * (B * ((q + 1) * v1)) := by
      rw [Nat.mul_assoc, Nat.mul_left_comm, Nat.mul_left_comm (q + 1) B]
    have := h.U_lt
    omega
  · have h1 := h.u1_le
    have h2 : u1 * B + u2 < (B + 2) * v1 := by
      have := Nat.mul_le_mul_right B h1
      rw [Nat.add_mul, Nat.mul_comm B v1]
      have := h.norm; have := h.hu2; omega
    have := (Nat.div_lt_iff_lt_mul hp).2 h2
    omega
theorem Top.big (h : Top D vl v2 v1 ul u3 u2 u1 U V) (hg : B ≤ g) : U < g * V := Nat.lt_of_lt_of_le h.lt (Nat.mul_le_mul_right _ hg)
theorem Top.second (h : Top D vl v2 v1 ul u3 u2 u1 U V) (hr : g * v1 + r = u1 * B + u2) (hc : r * B + u3 < g * v2) : U < g * V := by
  have h1 : u3 + B * (u2 + B * u1) + 1 ≤ g * (v2 + B * v1) := by
    have e : B * (u2 + B * u1) = B * (g * v1) + B * r := by rw [← Nat.mul_add, hr, Nat.add_comm, Nat.mul_comm u1]
    have e2 : g * (v2 + B * v1) = g * v2 + B * (g * v1) := by rw [Nat.mul_add, Nat.mul_left_comm]
    have e3 : r * B = B * r := Nat.mul_comm _ _
    omega
  have h2 := Nat.mul_le_mul_left D h1
  have h3 : D * (g * (v2 + B * v1)) ≤ g * V := by
    rw [h.hV, Nat.mul_left_comm]; exact Nat.mul_le_mul_left _ (by omega)
  have := h.U_lt
  omega
theorem Top.stop (h : Top D vl v2 v1 ul u3 u2 u1 U V) (hr : g * v1 + r = u1 * B + u2) (hg : g < B) (hc : g * v2 ≤ r * B + u3) : g * V < U + V := by
  have e1 : g * V = g * vl + D * (g * v2 + B * (g * v1)) := by
    rw [h.hV, Nat.mul_add, Nat.mul_left_comm g D, Nat.mul_add g, Nat.mul_left_comm g B]
  have h1 : g * v2 + B * (g * v1) ≤ u3 + B * (u2 + B * u1) := by
    have e : B * (u2 + B * u1) = B * (g * v1) + B * r := by rw [← Nat.mul_add, hr, Nat.add_comm, Nat.mul_comm u1]
    have e3 : r * B = B * r := Nat.mul_comm _ _
    omega
  have h2 := Nat.mul_le_mul_left D h1
  have h3 : g * vl < D * B * v1 := by
    have a : g * vl ≤ g * D := Nat.mul_le_mul_left _ (Nat.le_of_lt h.hvl)
    have b : g * D < B * D := Nat.mul_lt_mul_of_pos_right hg h.dpos
    have c : D * B * 1 ≤ D * B * v1 := Nat.mul_le_mul_left _ h.v1pos
    rw [Nat.mul_comm B D] at b
    omega
  have := h.V_ge
  have := h.hU
  omega
theorem Top.brk (h : Top D vl v2 v1 ul u3 u2 u1 U V) (hr : g * v1 + r = u1 * B + u2) (hb : B ≤ r) : g < B ∧ g * v2 ≤ r * B + u3 := by
  have h1 := h.u1_le
  have hg : g < B := by
    rcases Nat.lt_or_ge g B with hlt | hge
    · exact hlt
    · exfalso
      have a := Nat.mul_le_mul_right v1 hge
      have b := Nat.mul_le_mul_right B h1
      rw [Nat.mul_comm B v1] at a
      have := h.hu2
      omega
  refine ⟨hg, ?_⟩
  have a : g * v2 ≤ B * B := Nat.mul_le_mul (Nat.le_of_lt hg) (Nat.le_of_lt h.hv2)
  have b : B * B ≤ r * B := Nat.mul_le_mul_right _ hb
  omega
end

/-- limbs o, o + 1, .. of a list -/
def seg (R : List Nat) (o i : Nat) : List Nat := (R.drop o).take i
theorem seg_zero (R : List Nat) (o : Nat) : seg R o 0 = [] := by simp [seg]
theorem val_seg_succ (R : List Nat) (o i : Nat) (h : o + i < R.length) : val (seg R o (i + 1)) = val (seg R o i) + B ^ i * R.getD (o + i) 0 := by
  unfold seg
  rw [val_take_succ _ _ (by rw [List.length_drop]; omega)]
  simp [List.getD]
theorem seg_congr {R R' : List Nat} (o i : Nat) (hl : R.length = R'.length) (h : ∀ q, o ≤ q → q < o + i → R.getD q 0 = R'.getD q 0) : seg R o i = seg R' o i := by
  unfold seg
  apply ext_getD
  · simp [hl]
  · intro j hj
    rw [List.length_take, List.length_drop] at hj
    have := h (o + j) (by omega) (by omega)
    have hji : j < i := by omega
    simp only [List.getD, List.getElem?_take, hji, if_true, List.getElem?_drop] at this ⊢
    exact this
theorem lim_seg {R : List Nat} (h : Lim R) (o i : Nat) : Lim (seg R o i) := fun x hx => h x (List.mem_of_mem_drop (List.mem_of_mem_take hx))
theorem val_seg_lt {R : List Nat} (h : Lim R) (o i : Nat) : val (seg R o i) < B ^ i := by
  have h1 := val_lt _ (lim_seg h o i)
  refine Nat.lt_of_lt_of_le h1 (Nat.pow_le_pow_right (by decide) ?_)
  unfold seg; exact List.length_take_le _ _

/-- one step of 'multiply and subtract' -/
theorem msub_step (p d gv v c br q y x a nb : Nat) (h : d + gv = v + (c + br) * p) (hx : x + (c + q * y) % B + br = a + B * nb) : d + p * x + (gv + p * (q * y)) = v + p * a + ((c + q * y) / B + nb) * (p * B) := by
  have e := Nat.div_add_mod (c + q * y) B
  generalize (c + q * y) / B = k at *
  generalize (c + q * y) % B = s at *
  have e1 : p * (x + s + br) = p * (a + B * nb) := by rw [hx]
  have e2 : p * (B * k + s) = p * (c + q * y) := by rw [e]
  simp only [Nat.mul_add] at e1 e2
  have e3 : (k + nb) * (p * B) = p * (B * k) + p * (B * nb) := by
    rw [Nat.add_mul, Nat.mul_comm k, Nat.mul_comm nb, Nat.mul_assoc, Nat.mul_assoc]
  have e4 : (c + br) * p = p * c + p * br := by rw [Nat.mul_comm, Nat.mul_add]
  omega
theorem msub_limb (a l br : Nat) (ha : a < 4294967296) (hl : l < 4294967296) (hbr : br ≤ 1) :
    ((a + (18446744073709551616 - l)) % 18446744073709551616 + (18446744073709551616 - br)) % 18446744073709551616 % 4294967296 + l + br
      = a + 4294967296 * (((a + (18446744073709551616 - l)) % 18446744073709551616 + (18446744073709551616 - br)) % 18446744073709551616 / 9223372036854775808) ∧
    ((a + (18446744073709551616 - l)) % 18446744073709551616 + (18446744073709551616 - br)) % 18446744073709551616 / 9223372036854775808 ≤ 1 := by omega
theorem take_of_lt {l : List Nat} {k : Nat} (hk : k ≤ l.length) (h : val l < B ^ k) : val (l.take k) = val l ∧ val (l.drop k) = 0 := by
  have e := val_split l k hk
  rcases Nat.eq_zero_or_pos (val (l.drop k)) with h0 | h0
  · rw [h0] at e; exact ⟨by omega, h0⟩
  · have := Nat.mul_le_mul_left (B ^ k) h0
    omega
theorem top_ge {V : List Nat} {k p : Nat} (hV : Lim V) (hk : V.length = k + 2) (h : p * B ^ (k + 1) ≤ val V) : p ≤ V.getD (k + 1) 0 := by
  have e : val V = val (V.take (k + 1)) + B ^ (k + 1) * V.getD (k + 1) 0 := by
    rw [← val_take_succ V (k + 1) (by omega), val_take_ge V _ (by omega)]
  have h1 := val_take_lt hV (k + 1)
  rcases Nat.lt_or_ge (V.getD (k + 1) 0) p with hlt | hge
  · exfalso
    have := Nat.mul_le_mul_left (B ^ (k + 1)) hlt
    rw [Nat.mul_succ] at this
    rw [Nat.mul_comm p] at h
    omega
  · exact hge
theorem shifted_top (l : List Nat) (k s : Nat) (hl : Lim l) (hk : l.length = k + 2) (hs : s < 32) (h31 : 2147483648 ≤ l.getD (k + 1) 0 * 2 ^ s) (h32 : l.getD (k + 1) 0 * 2 ^ s < 4294967296) :
    val l * 2 ^ s < B ^ (k + 2) ∧ 2147483648 * B ^ (k + 1) ≤ val l * 2 ^ s := by
  have hp : 0 < 2 ^ s := Nat.two_pow_pos s
  have hB : B = 2 ^ s * 2 ^ (32 - s) := by rw [← Nat.pow_add, show s + (32 - s) = 32 by omega]; rfl
  have e : val l = val (l.take (k + 1)) + B ^ (k + 1) * l.getD (k + 1) 0 := by
    rw [← val_take_succ l (k + 1) (by omega), val_take_ge l _ (by omega)]
  have a := val_take_lt hl (k + 1)
  have h32' : l.getD (k + 1) 0 * 2 ^ s < B := h32
  generalize l.getD (k + 1) 0 = x at *
  generalize val (l.take (k + 1)) = y at *
  generalize hq : B ^ (k + 1) = q at *
  have hx : (x + 1) * 2 ^ s ≤ B := by
    rw [hB, Nat.mul_comm] at *
    refine Nat.mul_le_mul_left _ ?_
    exact Nat.lt_of_mul_lt_mul_left h32'
  refine ⟨?_, ?_⟩
  · have b : val l < q * (x + 1) := by rw [Nat.mul_succ]; omega
    have c := Nat.mul_lt_mul_of_pos_right b hp
    have d := Nat.mul_le_mul_left q hx
    rw [← Nat.mul_assoc] at d
    have e2 : B ^ (k + 2) = q * B := by rw [Nat.pow_succ, hq]
    omega
  · have f : q * x ≤ val l := by omega
    have g := Nat.mul_le_mul_right (2 ^ s) f
    have i := Nat.mul_le_mul_left q h31
    rw [← Nat.mul_assoc] at i
    rw [Nat.mul_comm _ q]; omega
theorem first_rem (R V : List Nat) (d k : Nat) (hR : Lim R) (hlen : R.length = d + (k + 2)) (hk : V.length = k + 2) (htop : R.getD (d + (k + 1)) 0 + 1 ≤ V.getD (k + 1) 0) : val (R.drop d) < val V := by
  have hl : (R.drop d).length = k + 2 := by rw [List.length_drop]; omega
  have e1 : val (R.drop d) = val ((R.drop d).take (k + 1)) + B ^ (k + 1) * (R.drop d).getD (k + 1) 0 := by
    rw [← val_take_succ _ (k + 1) (by omega), val_take_ge _ _ (by omega)]
  have e2 : val V = val (V.take (k + 1)) + B ^ (k + 1) * V.getD (k + 1) 0 := by
    rw [← val_take_succ V (k + 1) (by omega), val_take_ge V _ (by omega)]
  have e3 : (R.drop d).getD (k + 1) 0 = R.getD (d + (k + 1)) 0 := by simp [List.getD]
  have a : val ((R.drop d).take (k + 1)) < B ^ (k + 1) := val_take_lt (fun x hx => hR x (List.mem_of_mem_drop hx)) _
  have b := Nat.mul_le_mul_left (B ^ (k + 1)) htop
  rw [Nat.mul_succ] at b
  rw [e3] at e1
  omega
/-- one digit of a long division -/
theorem ld_step {R R' V Q : List Nat} {j k q W : Nat} (hR : Lim R) (hlen : j + (k + 3) ≤ R.length) (hlen' : R'.length = R.length) (hV : V.length = k + 2) (hVl : Lim V) (hq : j < Q.length)
    (h1 : val (R.drop (j + 1)) < val V) (h2 : W = val (Q.drop (j + 1)) * (B ^ (j + 1) * val V) + val R) (hsame : ∀ i, i < j ∨ j + k + 3 ≤ i → R'.getD i 0 = R.getD i 0)
    (hdiv : val (seg R j (k + 3)) = q * val V + val (seg R' j (k + 3))) (hrem : val (seg R' j (k + 3)) < val V) :
    val (R'.drop j) < val V ∧ W = val ((Q.set j q).drop j) * (B ^ j * val V) + val R' := by
  have hdrop : val (R.drop j) = R.getD j 0 + B * val (R.drop (j + 1)) := by rw [drop_cons R j (by omega), val]
  have hVlt := val_lt V hVl
  rw [hV] at hVlt
  have hb := hR.getD j
  have hlt : val (R.drop j) < B ^ (k + 3) := by
    have : B * val (R.drop (j + 1)) + B ≤ B * val V := by rw [← Nat.mul_succ]; exact Nat.mul_le_mul_left _ h1
    have c : B * val V ≤ B * B ^ (k + 2) := Nat.mul_le_mul_left _ (Nat.le_of_lt hVlt)
    have e : B * B ^ (k + 2) = B ^ (k + 3) := by rw [Nat.mul_comm, ← Nat.pow_succ]
    have hb' : R.getD j 0 < B := hb
    omega
  obtain ⟨ht, hz⟩ := take_of_lt (l := R.drop j) (k := k + 3) (by rw [List.length_drop]; omega) hlt
  have htail : (R'.drop j).drop (k + 3) = (R.drop j).drop (k + 3) := by
    rw [List.drop_drop, List.drop_drop]
    apply ext_getD (by simp [hlen'])
    intro i _
    have := hsame (j + (k + 3) + i) (by omega)
    simp only [List.getD, List.getElem?_drop] at this ⊢
    exact this
  have hhead : R'.take j = R.take j := by
    apply ext_getD (by simp [hlen'])
    intro i hi
    rw [List.length_take] at hi
    have hij : i < j := by omega
    have := hsame i (by omega)
    simp only [List.getD, List.getElem?_take, hij, if_true] at this ⊢
    exact this
  have e1 : val (R'.drop j) = val (seg R' j (k + 3)) := by
    rw [val_split (R'.drop j) (k + 3) (by rw [List.length_drop]; omega), htail, hz, Nat.mul_zero, Nat.add_zero, seg]
  have e2 : val (R.drop j) = val (seg R j (k + 3)) := ht.symm
  refine ⟨by rw [e1]; exact hrem, ?_⟩
  have s1 := val_split R j (by omega)
  have s2 := val_split R' j (by omega)
  rw [hhead, e1] at s2
  rw [e2, hdiv] at s1
  rw [drop_set Q j q hq]
  simp only [val]
  rw [h2, s1, s2, Nat.pow_succ, Nat.add_mul, Nat.mul_add]
  have e3 : val (Q.drop (j + 1)) * (B ^ j * B * val V) = B * val (Q.drop (j + 1)) * (B ^ j * val V) := by
    rw [Nat.mul_assoc (B ^ j), Nat.mul_left_comm (B ^ j) B, ← Nat.mul_assoc, Nat.mul_comm _ B]
  have e4 : B ^ j * (q * val V) = q * (B ^ j * val V) := Nat.mul_left_comm _ _ _
  omega
theorem long_div {a b s Q R : Nat} (h : a * 2 ^ s = Q * (b * 2 ^ s) + R) (hR : R < b * 2 ^ s) : Q = a / b ∧ R / 2 ^ s = a % b := by
  have hp : 0 < 2 ^ s := Nat.two_pow_pos s
  generalize 2 ^ s = p at *
  rw [← Nat.mul_assoc] at h
  have hle : Q * b ≤ a := by
    rcases Nat.lt_or_ge a (Q * b) with h1 | h1
    · have := Nat.mul_lt_mul_of_pos_right h1 hp; omega
    · exact h1
  obtain ⟨r, rfl⟩ : ∃ r, a = Q * b + r := ⟨a - Q * b, by omega⟩
  rw [Nat.add_mul] at h
  have e : R = r * p := by omega
  subst e
  have hr : r < b := Nat.lt_of_mul_lt_mul_right hR
  have hb : 0 < b := by omega
  rw [Nat.mul_div_cancel _ hp]
  refine ⟨?_, ?_⟩
  · rw [Nat.mul_comm Q b, Nat.mul_add_div hb, Nat.div_eq_of_lt hr]; omega
  · rw [Nat.mul_comm Q b, Nat.mul_add_mod, Nat.mod_eq_of_lt hr]
theorem div_uniq {a b q r : Nat} (h : a = q * b + r) (hr : r < b) : q = a / b ∧ r = a % b := by
  have := long_div (s := 0) (a := a) (b := b) (Q := q) (R := r) (by simpa using h) (by simpa using hr)
  simpa using this
/-- the end: no borrow -/
theorem fin_ok {U V g d p a x c : Nat} (h : d + g * V = U + c * p) (hx : x + c = a) (hlt : U + p * a < (g + 1) * V) : d + p * x + g * V = U + p * a ∧ U + p * a = g * V + (d + p * x) ∧ d + p * x < V := by
  subst hx
  have e : p * (x + c) = p * x + c * p := by rw [Nat.mul_add, Nat.mul_comm c]
  rw [Nat.add_mul, Nat.one_mul] at hlt
  omega
/-- the end: a borrow, V is added back -/
theorem fin_back {U V g d p a x c S : Nat} (hg : 0 < g) (h : d + g * V = U + c * p) (hx : x + c = a + B) (hlo : g * V < U + p * a + V) (hS : S < p * B) (hd : d + p * x < p * B) (hV : V < p) (hs : ∃ k, S + k * (p * B) = d + p * x + V) :
    U + p * a = (g - 1) * V + S ∧ S < V := by
  obtain ⟨k, hs⟩ := hs
  have e : p * (x + c) = p * a + p * B := by rw [hx, Nat.mul_add]
  have e1 : p * (x + c) = p * x + c * p := by rw [Nat.mul_add, Nat.mul_comm c]
  obtain ⟨j, rfl⟩ : ∃ j, g = j + 1 := ⟨g - 1, by omega⟩
  rw [Nat.add_mul, Nat.one_mul] at h hlo
  rw [Nat.add_sub_cancel]
  have hB : 2 ≤ B := by decide
  have hpB : p * 2 ≤ p * B := Nat.mul_le_mul_left _ hB
  have hpos : 0 < p := by omega
  have hk : k = 1 := by
    rcases Nat.lt_or_ge k 1 with h1 | h1
    · have : k = 0 := by omega
      subst this
      rw [Nat.zero_mul] at hs
      omega
    · rcases Nat.lt_or_ge k 2 with h2 | h2
      · omega
      · have := Nat.mul_le_mul_right (p * B) h2
        omega
  subst hk
  rw [Nat.one_mul] at hs
  omega
end Go.Num
