/- Plain: numbers as lists of limbs. -/
namespace Go.Num
def B : Nat := 4294967296
/-- the number that a list of limbs stands for, the least significant limb first -/
def val : List Nat → Nat
  | [] => 0
  | x :: l => x + B * val l
def Lim (l : List Nat) : Prop := ∀ x ∈ l, x < 4294967296
/-- no zero at the end -/
def Trimd (l : List Nat) : Prop := ∀ h : l ≠ [], l.getLast h ≠ 0

theorem val_append (l m : List Nat) : val (l ++ m) = val l + B ^ l.length * val m := by
  induction l with
  | nil => simp [val]
  | cons x l ih => simp only [List.cons_append, val, ih, List.length_cons, Nat.pow_succ]; rw [Nat.mul_add, ← Nat.mul_assoc, Nat.mul_comm B (B ^ l.length)]; omega
theorem val_take_succ (l : List Nat) (k : Nat) (h : k < l.length) : val (l.take (k + 1)) = val (l.take k) + B ^ k * l.getD k 0 := by
  rw [List.take_succ_eq_append_getElem h, val_append]
  simp [val, List.length_take, Nat.min_eq_left (Nat.le_of_lt h), List.getD, h]
theorem val_lt (l : List Nat) (h : Lim l) : val l < B ^ l.length := by
  induction l with
  | nil => simp [val]
  | cons x l ih =>
    have h1 := ih fun y hy => h y (List.mem_cons_of_mem _ hy)
    have h2 : x < B := h x List.mem_cons_self
    simp only [val, List.length_cons, Nat.pow_succ]
    have : B * val l + B ≤ B ^ l.length * B := by
      have := Nat.mul_le_mul_left B (Nat.succ_le_of_lt h1)
      rw [Nat.mul_succ] at this
      rw [Nat.mul_comm (B ^ l.length) B]; exact this
    omega
theorem Lim.take {l : List Nat} (h : Lim l) (k : Nat) : Lim (l.take k) := fun x hx => h x (List.mem_of_mem_take hx)
theorem Lim.getD {l : List Nat} (h : Lim l) (k : Nat) : l.getD k 0 < 4294967296 := by
  by_cases hk : k < l.length
  · simp [List.getD, hk]; exact h _ (List.getElem_mem _)
  · simp [List.getD, hk]
theorem Trimd.nil : Trimd [] := fun h => absurd rfl h
theorem trimd_take {l : List Nat} {k : Nat} (hk : k < l.length) (h : l.getD k 0 ≠ 0) : Trimd (l.take (k + 1)) := by
  have key : ∀ m : List Nat, m = l.take k ++ [l[k]] → Trimd m := by
    rintro m rfl hne
    rw [List.getLast_append_of_ne_nil _ (by simp)]
    simpa [List.getD, hk] using h
  exact key _ (List.take_succ_eq_append_getElem hk)
theorem take_set_succ (L : List Nat) (i x : Nat) (h : i < L.length) : (L.set i x).take (i + 1) = L.take i ++ [x] := by
  rw [List.take_succ_eq_append_getElem (by simpa using h), List.take_set_of_le (Nat.le_refl i)]
  simp
theorem val_set_succ (L : List Nat) (i x : Nat) (h : i < L.length) : val ((L.set i x).take (i + 1)) = val (L.take i) + B ^ i * x := by
  rw [take_set_succ L i x h, val_append]
  simp [val, Nat.min_eq_left (Nat.le_of_lt h)]
theorem Lim.set {L : List Nat} (h : Lim L) {i x : Nat} (hx : x < 4294967296) : Lim (L.set i x) := by
  intro y hy
  rcases List.mem_or_eq_of_mem_set hy with h' | h'
  · exact h y h'
  · rw [h']; exact hx
theorem lim_replicate (n : Nat) : Lim (List.replicate n 0) := by
  intro x hx
  rw [List.eq_of_mem_replicate hx]; decide
theorem val_take_all (l : List Nat) : val (l.take l.length) = val l := by rw [List.take_length]
/-- one step of an addition -/
theorem add_step (p v1 c s x y : Nat) (h : v1 + c * p = s) : v1 + p * ((c + (x + y)) % B) + (c + (x + y)) / B * (p * B) = s + p * x + p * y := by
  have e := Nat.div_add_mod (c + (x + y)) B
  generalize (c + (x + y)) / B = q at *
  generalize (c + (x + y)) % B = r at *
  subst h
  have : p * (c + (x + y)) = p * (B * q + r) := by rw [e]
  rw [Nat.mul_add, Nat.mul_add, Nat.mul_add] at this
  have e2 : q * (p * B) = p * (B * q) := by rw [Nat.mul_comm q, Nat.mul_assoc]
  rw [e2, Nat.mul_comm c p]; omega
theorem add_step1 (p v1 c s x : Nat) (h : v1 + c * p = s) : v1 + p * ((c + x) % B) + (c + x) / B * (p * B) = s + p * x := by
  have := add_step p v1 c s x 0 h
  simpa using this
theorem val_split (l : List Nat) (k : Nat) (h : k ≤ l.length) : val l = val (l.take k) + B ^ k * val (l.drop k) := by
  conv => lhs; rw [← List.take_append_drop k l]
  rw [val_append, List.length_take_of_le h]
theorem val_take_lt {l : List Nat} (h : Lim l) (k : Nat) : val (l.take k) < B ^ k := by
  have h1 := val_lt _ (h.take k)
  refine Nat.lt_of_lt_of_le h1 (Nat.pow_le_pow_right (by decide) ?_)
  exact List.length_take_le _ _
theorem drop_cons (l : List Nat) (k : Nat) (h : k < l.length) : l.drop k = l.getD k 0 :: l.drop (k + 1) := by
  rw [List.drop_eq_getElem_cons h]; simp [List.getD, h]
theorem val_top {l : List Nat} (hne : l ≠ []) (ht : Trimd l) : B ^ (l.length - 1) ≤ val l := by
  have hl : 0 < l.length := List.length_pos_iff.2 hne
  rw [val_split l (l.length - 1) (by omega), drop_cons l _ (by omega)]
  have e : l.drop (l.length - 1 + 1) = [] := by rw [List.drop_eq_nil_iff]; omega
  rw [e]
  have h0 : l.getD (l.length - 1) 0 ≠ 0 := by
    have := ht hne
    rw [List.getLast_eq_getElem] at this
    have hlt : l.length - 1 < l.length := by omega
    simpa [List.getD, hlt] using this
  have : B ^ (l.length - 1) * 1 ≤ B ^ (l.length - 1) * val [l.getD (l.length - 1) 0] := Nat.mul_le_mul_left _ (by simp only [val]; omega)
  omega
theorem val_lt_len {l1 l2 : List Nat} (h1 : Lim l1) (h2 : Trimd l2) (h : l1.length < l2.length) : val l1 < val l2 := by
  have hne : l2 ≠ [] := by rintro rfl; simp at h
  have a := val_lt l1 h1
  have b := val_top hne h2
  have c : B ^ l1.length ≤ B ^ (l2.length - 1) := Nat.pow_le_pow_right (by decide) (by omega)
  omega
theorem val_lt_at {l1 l2 : List Nat} (h1 : Lim l1) (hl : l1.length = l2.length) {j : Nat} (hj : j < l1.length) (hd : l1.drop (j + 1) = l2.drop (j + 1)) (hlt : l1.getD j 0 < l2.getD j 0) : val l1 < val l2 := by
  rw [val_split l1 j (by omega), val_split l2 j (by omega), drop_cons l1 j hj, drop_cons l2 j (by omega), hd]
  simp only [val]
  have a := val_take_lt h1 j
  generalize l2.drop (j + 1) = d at *
  generalize l1.getD j 0 = x at *
  generalize l2.getD j 0 = y at *
  have : B ^ j * (x + B * val d) + B ^ j ≤ B ^ j * (y + B * val d) := by
    rw [← Nat.mul_succ]; exact Nat.mul_le_mul_left _ (by omega)
  omega
/-- -1, 0, 1 -/
def cmpZ (a b : Nat) : Int := if a < b then -1 else if b < a then 1 else 0
theorem sub_limb (a b br : Nat) (ha : a < 4294967296) (hb : b < 4294967296) (hbr : br ≤ 1) :
    ((a + (18446744073709551616 - br)) % 18446744073709551616 + (18446744073709551616 - b)) % 18446744073709551616 % 4294967296 + b + br
      = a + 4294967296 * (((a + (18446744073709551616 - br)) % 18446744073709551616 + (18446744073709551616 - b)) % 18446744073709551616 / 9223372036854775808) ∧
    ((a + (18446744073709551616 - br)) % 18446744073709551616 + (18446744073709551616 - b)) % 18446744073709551616 / 9223372036854775808 ≤ 1 := by omega
theorem sub_limb0 (a br : Nat) (ha : a < 4294967296) (hbr : br ≤ 1) :
    (a + (18446744073709551616 - br)) % 18446744073709551616 % 4294967296 + br
      = a + 4294967296 * ((a + (18446744073709551616 - br)) % 18446744073709551616 / 9223372036854775808) ∧
    (a + (18446744073709551616 - br)) % 18446744073709551616 / 9223372036854775808 ≤ 1 := by omega
theorem sub_step (p d v2 v1 a b br x nb : Nat) (h : d + v2 = v1 + br * p) (hx : x + b + br = a + B * nb) : d + p * x + (v2 + p * b) = v1 + p * a + nb * (p * B) := by
  have e : p * (x + b + br) = p * (a + B * nb) := by rw [hx]
  simp only [Nat.mul_add] at e
  have e2 : nb * (p * B) = p * (B * nb) := by rw [Nat.mul_comm nb, Nat.mul_assoc]
  have e3 : br * p = p * br := Nat.mul_comm _ _
  omega
theorem sub_step0 (p d v2 v1 a br x nb : Nat) (h : d + v2 = v1 + br * p) (hx : x + br = a + B * nb) : d + p * x + v2 = v1 + p * a + nb * (p * B) := by
  have := sub_step p d v2 v1 a 0 br x nb h (by omega)
  rw [Nat.mul_zero, Nat.add_zero] at this; exact this
theorem val_take_ge (l : List Nat) (k : Nat) (h : l.length ≤ k) : val (l.take k) = val l := by rw [List.take_of_length_le h]
theorem val_set (L : List Nat) (k x : Nat) (h : k < L.length) : val (L.set k x) + B ^ k * L.getD k 0 = val L + B ^ k * x := by
  rw [val_split L k (by omega), val_split (L.set k x) k (by simp; omega), drop_cons L k h, drop_cons (L.set k x) k (by simpa using h)]
  rw [List.take_set_of_le (Nat.le_refl k), List.drop_set_of_lt (by omega)]
  simp [val, List.getD, h, Nat.mul_add]
  omega
theorem mul_step (P c p x y r Q : Nat) (hv : P + c * p = Q) : ∀ P', P' + p * r = P + p * ((c + (x * y + r)) % B) → P' + (c + (x * y + r)) / B * (p * B) = Q + p * (x * y) := by
  intro P' h
  have e := Nat.div_add_mod (c + (x * y + r)) B
  generalize (c + (x * y + r)) / B = q at *
  generalize (c + (x * y + r)) % B = s at *
  subst hv
  have : p * (c + (x * y + r)) = p * (B * q + s) := by rw [e]
  simp only [Nat.mul_add] at this
  have e2 : q * (p * B) = p * (B * q) := by rw [Nat.mul_comm q, Nat.mul_assoc]
  rw [e2, Nat.mul_comm c p]
  omega
theorem mul_small (x y : Nat) (hx : x < 4294967296) (hy : y < 4294967296) : x * y ≤ 18446744065119617025 := by
  have : x * y ≤ 4294967295 * 4294967295 := Nat.mul_le_mul (by omega) (by omega)
  omega
theorem val_one (l : List Nat) (h : Lim l) (hl : l.length ≤ 1) : val l < 4294967296 := by
  have := val_lt l h
  have h2 : B ^ l.length ≤ B ^ 1 := Nat.pow_le_pow_right (by decide) hl
  rw [Nat.pow_one] at h2
  exact Nat.lt_of_lt_of_le this h2
theorem getD_set_ne {L : List Nat} {i j x : Nat} (h : i ≠ j) : (L.set i x).getD j 0 = L.getD j 0 := by
  simp [List.getD, List.getElem?_set_ne h]
theorem val_zeros (n : Nat) : val (List.replicate n 0) = 0 := by
  induction n with
  | zero => rfl
  | succ n ih => simp [List.replicate_succ, val, ih]
theorem getD_replicate (n j : Nat) : (List.replicate n 0).getD j 0 = 0 := by
  by_cases h : j < n <;> simp [List.getD, h]
theorem shl_or (r x : Nat) (hr : r < 4294967296) (hx : x < 4294967296) : r * 2 ^ 32 % 18446744073709551616 ||| x = r * 4294967296 + x ∧ r * 4294967296 + x < 18446744073709551616 := by
  have e : r * 2 ^ 32 % 18446744073709551616 = 2 ^ 32 * r := by omega
  rw [e, ← Nat.two_pow_add_eq_or_of_lt (i := 32) (b := x) (by omega) r]
  omega
/-- one step of a division by a limb -/
theorem div_step (b r x V W : Nat) (hb : 0 < b) (hr : r < b) (hx : x < B) (h : V = W * b + r) :
    (r * B + x) / b < B ∧ (r * B + x) % b < b ∧ x + B * V = ((r * B + x) / b + B * W) * b + (r * B + x) % b := by
  refine ⟨?_, Nat.mod_lt _ hb, ?_⟩
  · rw [Nat.div_lt_iff_lt_mul hb]
    have : (r + 1) * B ≤ b * B := Nat.mul_le_mul_right _ hr
    rw [Nat.add_mul] at this
    rw [Nat.mul_comm B b]; omega
  · have e := Nat.div_add_mod (r * B + x) b
    generalize (r * B + x) / b = q at *
    generalize (r * B + x) % b = s at *
    subst h
    rw [Nat.add_mul, Nat.mul_add, Nat.mul_comm q b, Nat.mul_assoc, Nat.mul_comm B r]
    omega
theorem drop_set (L : List Nat) (j x : Nat) (h : j < L.length) : (L.set j x).drop j = x :: L.drop (j + 1) := by
  rw [drop_cons _ j (by simpa using h), List.drop_set_of_lt (by omega)]
  simp [List.getD, h]
theorem shl_add (s c x : Nat) (hs : s < 32) (hc : c < 2 ^ s) (hx : x < 4294967296) : c ||| x * 2 ^ s % 18446744073709551616 = c + x * 2 ^ s ∧ c + x * 2 ^ s < 18446744073709551616 ∧ (c + x * 2 ^ s) / 4294967296 < 2 ^ s := by
  have h1 : 2 ^ s ≤ 2 ^ 31 := Nat.pow_le_pow_right (by decide) (by omega)
  have h2 : x * 2 ^ s + 2 ^ s ≤ 4294967296 * 2 ^ s := by rw [← Nat.succ_mul]; exact Nat.mul_le_mul_right _ hx
  have h0 : 0 < 2 ^ s := Nat.two_pow_pos s
  have h3 : x * 2 ^ s % 18446744073709551616 = 2 ^ s * x := by rw [Nat.mul_comm]; apply Nat.mod_eq_of_lt; rw [Nat.mul_comm]; omega
  refine ⟨?_, by omega, ?_⟩
  · rw [h3, Nat.or_comm, ← Nat.two_pow_add_eq_or_of_lt hc x, Nat.mul_comm]; omega
  · rw [Nat.div_lt_iff_lt_mul (by decide)]; rw [Nat.mul_comm (2 ^ s) 4294967296]; omega
theorem shl_step (p V c x s W : Nat) (h : V + c * p = W * 2 ^ s) : V + p * ((c + x * 2 ^ s) % B) + (c + x * 2 ^ s) / B * (p * B) = (W + p * x) * 2 ^ s := by
  have e := add_step1 p V c (W * 2 ^ s) (x * 2 ^ s) h
  rw [e, Nat.add_mul, Nat.mul_assoc]
/-- a shift to the right, limb by limb -/
def sr (s : Nat) : List Nat → List Nat
  | [] => []
  | [x] => [x / 2 ^ s]
  | x :: y :: l => (x + B * y) / 2 ^ s % B :: sr s (y :: l)
theorem sr_len (s : Nat) : ∀ l, (sr s l).length = l.length
  | [] => rfl
  | [_] => rfl
  | _ :: y :: l => by simp [sr, sr_len s (y :: l)]
theorem sr_val (s : Nat) (hs : s < 32) : ∀ l, Lim l → val (sr s l) = val l / 2 ^ s
  | [], _ => by simp [sr, val]
  | [x], _ => by simp [sr, val]
  | x :: y :: l, h => by
    have ih := sr_val s hs (y :: l) (fun z hz => h z (List.mem_cons_of_mem _ hz))
    have hx : x < B := h x List.mem_cons_self
    simp only [sr, val] at ih ⊢
    rw [ih]
    generalize val l = W
    have hB : B = 2 ^ s * 2 ^ (32 - s) := by rw [← Nat.pow_add, show s + (32 - s) = 32 by omega]; rfl
    have hp : 0 < 2 ^ s := Nat.two_pow_pos s
    generalize 2 ^ s = p at *
    generalize 2 ^ (32 - s) = r at *
    have e1 : (x + B * y) / p = x / p + r * y := by rw [hB, Nat.mul_assoc, Nat.add_mul_div_left _ _ hp]
    have e2 : (x + B * (y + B * W)) / p = x / p + r * (y + B * W) := by rw [hB, Nat.mul_assoc, Nat.add_mul_div_left _ _ hp]
    have e3 : (y + B * W) / p = y / p + r * W := by rw [hB, Nat.mul_assoc, Nat.add_mul_div_left _ _ hp]
    rw [e1, e2, e3]
    have hq := Nat.div_add_mod y p
    have hm := Nat.mod_lt y hp
    have hxp : x / p < r := by rw [Nat.div_lt_iff_lt_mul hp, Nat.mul_comm r p, ← hB]; exact hx
    generalize hyq : y / p = yq at *
    generalize hyr : y % p = yr at *
    have e4 : x / p + r * y = (x / p + r * yr) + B * yq := by rw [← hq, hB, Nat.mul_add, ← Nat.mul_assoc, Nat.mul_comm r p]; omega
    have hlt : x / p + r * yr < B := by
      have : r * yr + r ≤ r * p := by rw [← Nat.mul_succ]; exact Nat.mul_le_mul_left _ hm
      rw [hB, Nat.mul_comm p r]; omega
    rw [e4, Nat.add_mul_mod_self_left, Nat.mod_eq_of_lt hlt]
    have e5 : r * (y + B * W) = r * yr + B * yq + B * (r * W) := by
      rw [Nat.mul_add, ← hq, Nat.mul_add, ← Nat.mul_assoc r p, Nat.mul_comm r p, ← hB, Nat.mul_left_comm]; omega
    rw [e5, Nat.mul_add]; omega
theorem sr_lim (s : Nat) : ∀ l, Lim l → Lim (sr s l)
  | [], h => h
  | [x], h => by
    intro z hz
    simp [sr] at hz
    subst hz
    exact Nat.lt_of_le_of_lt (Nat.div_le_self _ _) (h x List.mem_cons_self)
  | x :: y :: l, h => by
    intro z hz
    rw [sr] at hz
    rcases List.mem_cons.1 hz with rfl | hz
    · exact Nat.mod_lt _ (by decide)
    · exact sr_lim s (y :: l) (fun z hz => h z (List.mem_cons_of_mem _ hz)) z hz
theorem sr_get (s : Nat) : ∀ (l : List Nat) (i : Nat), i < l.length → (sr s l).getD i 0 = if i + 1 < l.length then (l.getD i 0 + B * l.getD (i + 1) 0) / 2 ^ s % B else l.getD i 0 / 2 ^ s
  | [], i, h => by simp at h
  | [x], i, h => by
    have : i = 0 := by simpa using h
    subst this
    simp [sr, List.getD]
  | x :: y :: l, i, h => by
    rcases i with _ | i
    · simp [sr, List.getD]
    · have := sr_get s (y :: l) i (by simpa using h)
      simp only [sr, List.getD_cons_succ, List.length_cons, Nat.add_lt_add_iff_right] at this ⊢
      rw [this]
theorem ext_getD {a b : List Nat} (hl : a.length = b.length) (h : ∀ j, j < a.length → a.getD j 0 = b.getD j 0) : a = b := by
  apply List.ext_getElem hl
  intro i h1 h2
  have := h i h1
  simpa [List.getD, h1, h2] using this
theorem getD_set_self {L : List Nat} {j x : Nat} (h : j < L.length) : (L.set j x).getD j 0 = x := by simp [List.getD, h]
theorem sr_get2 (s : Nat) (l : List Nat) (i : Nat) (h : i + 1 < l.length) : (sr s l).getD i 0 = (l.getD (i + 1) 0 * 4294967296 + l.getD i 0) / 2 ^ s % 4294967296 := by
  rw [sr_get s l i (by omega), if_pos h, Nat.add_comm, Nat.mul_comm B]; unfold B; rfl
theorem sr_get1 (s : Nat) (l : List Nat) (i : Nat) (h : i < l.length) (h' : ¬ i + 1 < l.length) : (sr s l).getD i 0 = l.getD i 0 / 2 ^ s := by
  rw [sr_get s l i h, if_neg h']
/-- the length in bits -/
def okLen (j b : Nat) : Bool := if j = 0 then b == 0 else decide (0 < b ∧ 2 ^ (b - 1) ≤ j ∧ j < 2 ^ b)
theorem okLen_shift (x n b : Nat) (hx : 2 ^ n ≤ x) (h : okLen (x / 2 ^ n) b = true) : okLen x (n + b) = true := by
  have hp : 0 < 2 ^ n := Nat.two_pow_pos n
  have h1 : 0 < x / 2 ^ n := Nat.div_pos hx hp
  unfold okLen at h ⊢
  rw [if_neg (by omega)] at h
  rw [if_neg (by omega)]
  simp only [decide_eq_true_eq] at h ⊢
  obtain ⟨hb, h2, h3⟩ := h
  refine ⟨by omega, ?_, ?_⟩
  · have := (Nat.le_div_iff_mul_le hp).1 h2
    rw [show n + b - 1 = (b - 1) + n by omega, Nat.pow_add]; exact this
  · have := (Nat.div_lt_iff_lt_mul hp).1 h3
    rw [Nat.pow_add, Nat.mul_comm]; exact this
def tabOk (s : ByteArray) : Bool := (List.range 256).all fun j => match s[j]? with | some b => okLen j b.toNat && decide (b.toNat ≤ 8) | none => false
theorem tab_at {s : ByteArray} (h : tabOk s = true) {j : Nat} (hj : j < 256) : ∃ b, s[j]? = some b ∧ okLen j b.toNat = true ∧ b.toNat ≤ 8 := by
  have := List.all_eq_true.1 h j (List.mem_range.2 hj)
  cases e : s[j]? with
  | none => rw [e] at this; cases this
  | some b =>
    rw [e] at this
    simp only [Bool.and_eq_true, decide_eq_true_eq] at this
    exact ⟨b, rfl, this.1, this.2⟩
end Go.Num
