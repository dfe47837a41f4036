/- Joined: Stg, Slv. -/
import Derived.Test.YtcjhcefnedonlaaQh
/- The stages of the elimination, in plain Lean; positive definiteness. -/
namespace Go.Det
/-- the stages, as the program reckons them: stage k, and the divisor of step k -/
def stg (M : Mt) : Nat → Mt
  | 0 => M
  | k + 1 => fun i j => (stg M k 0 0 * stg M k (i + 1) (j + 1) - stg M k (i + 1) 0 * stg M k 0 (j + 1)) / (match k with | 0 => 1 | q + 1 => stg M q 0 0)
def stL (M : Mt) : Nat → Int
  | 0 => 1
  | k + 1 => stg M k 0 0
theorem stg_succ (M : Mt) (k i j : Nat) : stg M (k + 1) i j = (stg M k 0 0 * stg M k (i + 1) (j + 1) - stg M k (i + 1) 0 * stg M k 0 (j + 1)) / stL M k := by
  cases k <;> rfl
theorem bm_zero' (A : Mt) (i j : Nat) : bm 0 A i j = A i j := by
  simp [bm, det, sm, sgn]
/-- stage k holds bordered minors -/
theorem stg_bm (M : Mt) : ∀ k, (∀ q, 1 ≤ q → q ≤ k → det q M ≠ 0) → (∀ i j, stg M k i j = bm k M (k + i) (k + j)) ∧ stL M k = det k M := by
  intro k
  induction k with
  | zero => exact fun _ => ⟨fun i j => by rw [bm_zero', Nat.zero_add, Nat.zero_add]; rfl, rfl⟩
  | succ k ih =>
    intro h
    obtain ⟨h1, h2⟩ := ih fun q hq1 hq2 => h q hq1 (by omega)
    have h00 : stg M k 0 0 = det (k + 1) M := by rw [h1, Nat.add_zero, bm_self]
    refine ⟨fun i j => ?_, h00⟩
    have hd : det k M ≠ 0 := by
      rcases Nat.eq_zero_or_pos k with rfl | hp
      · simp [det]
      · exact h k hp (by omega)
    rw [stg_succ, h1, h1, h1, h1, h2, Nat.add_zero, show k + (i + 1) = k + 1 + i by omega, show k + (j + 1) = k + 1 + j by omega, ← bareiss k M _ _ hd, Int.mul_ediv_cancel_left _ hd]
/-! symmetric matrices, norms -/
def nrm (n : Nat) (G : Mt) (y : Nat → Int) : Int := sm n fun i => y i * sm n fun j => G i j * y j
/-- a combination of rows with a norm that is a product of two leading minors -/
theorem nrm_minor (k : Nat) (G : Mt) (hd : det k G ≠ 0) : ∃ y : Nat → Int, y k = det k G ∧ nrm (k + 1) (tr G) y = det k G * det (k + 1) G := by
  obtain ⟨x, hx⟩ := solve k G (G k)
  have hb := border hd hx
  refine ⟨fun i => if i < k then x i else det k G, if_neg (Nat.lt_irrefl k), ?_⟩
  have key : ∀ c, (sm (k + 1) fun j => tr G c j * (if j < k then x j else det k G)) = bm k G k c := fun c => by
    simp only [sm, tr]
    rw [if_neg (Nat.lt_irrefl k), hb c, Int.add_comm, Int.mul_comm]
    congr 1
    exact sm_congr fun r hr => by rw [if_pos hr, Int.mul_comm]
  unfold nrm
  rw [sm_congr (fun c _ => by rw [key c])]
  simp only [sm]
  rw [sm_zero fun c hc => by rw [hb c, hx c hc, Int.mul_zero], if_neg (Nat.lt_irrefl k), bm_self, Int.zero_add]
/-- a matrix with positive norms has positive leading minors -/
theorem minors_pos (n : Nat) (G : Mt) (h : ∀ m y, m ≤ n → (∃ i, i < m ∧ y i ≠ 0) → 0 < nrm m (tr G) y) : ∀ k, k ≤ n → 0 < det k G := by
  intro k
  induction k with
  | zero => intro _; simp [det]
  | succ k ih =>
    intro hk
    have h1 := ih (by omega)
    obtain ⟨y, hy, hn⟩ := nrm_minor k G (by omega)
    have h2 := h (k + 1) y hk ⟨k, by omega, by rw [hy]; omega⟩
    rw [hn] at h2
    rcases Int.lt_trichotomy 0 (det (k + 1) G) with h3 | h3 | h3
    · exact h3
    · rw [← h3, Int.mul_zero] at h2; omega
    · have := Int.mul_neg_of_pos_of_neg h1 h3; omega
theorem sm_nonneg {n : Nat} {f : Nat → Int} (h : ∀ i, i < n → 0 ≤ f i) : 0 ≤ sm n f := by
  induction n with
  | zero => exact Int.le_refl _
  | succ n ih => simp only [sm]; have := ih fun i hi => h i (by omega); have := h n (by omega); omega
theorem sm_pos {n : Nat} {f : Nat → Int} (h : ∀ i, i < n → 0 ≤ f i) {k : Nat} (hk : k < n) (hp : 0 < f k) : 0 < sm n f := by
  induction n with
  | zero => omega
  | succ n ih =>
    simp only [sm]
    have h2 := h n (by omega)
    by_cases e : k = n
    · subst e; have := sm_nonneg (n := k) fun i hi => h i (by omega); omega
    · have := ih (fun i hi => h i (by omega)) (by omega); omega
theorem sq_nonneg (a : Int) : 0 ≤ a * a := by
  rcases Int.le_total 0 a with h | h
  · exact Int.mul_nonneg h h
  · have := Int.mul_nonneg (Int.neg_nonneg.2 h) (Int.neg_nonneg.2 h); rwa [Int.neg_mul_neg] at this
theorem sq_pos {a : Int} (h : a ≠ 0) : 0 < a * a := by
  have := sq_nonneg a
  have h2 : a * a ≠ 0 := fun e => by rcases Int.mul_eq_zero.1 e with e | e <;> exact h e
  omega
/-- the norm of a product with its transposed matrix is a sum of squares -/
theorem nrm_gram (n m : Nat) (A : Mt) (y : Nat → Int) : nrm m (mul n (tr A) A) y = sm n fun r => (sm m fun i => A r i * y i) * (sm m fun i => A r i * y i) := by
  have h1 : ∀ i, (sm m fun j => mul n (tr A) A i j * y j) = sm n fun r => A r i * sm m fun j => A r j * y j := fun i => by
    have : (sm m fun j => mul n (tr A) A i j * y j) = sm m fun j => sm n fun r => A r i * (A r j * y j) := sm_congr fun j _ => by
      simp only [mul, tr]; rw [← sm_mulr]; exact sm_congr fun r _ => by rw [Int.mul_assoc]
    rw [this, sm_swap]
    exact sm_congr fun r _ => by rw [sm_mul]
  unfold nrm
  rw [sm_congr (fun i _ => by rw [h1 i])]
  have h2 : (sm m fun i => y i * sm n fun r => A r i * sm m fun j => A r j * y j) = sm m fun i => sm n fun r => (A r i * y i) * sm m fun j => A r j * y j := sm_congr fun i _ => by
    rw [← sm_mul]; exact sm_congr fun r _ => by rw [← Int.mul_assoc, Int.mul_comm (y i)]
  rw [h2, sm_swap]
  exact sm_congr fun r _ => by rw [sm_mulr]
end Go.Det

/- Elimination to a diagonal form (Jordan, without fractions), in plain Lean. -/
namespace Go.Det
/-- column i of the first k rows and columns replaced by column j -/
def cr (k : Nat) (P : Mt) (i j : Nat) : Int := det k (setC P i fun r => P r j)
theorem cr_adj (m : Nat) (P : Mt) (c j : Nat) (hc : c < m + 1) : cr (m + 1) P c j = sm (m + 1) fun q => adj m P c q * P q j := by
  unfold cr
  rw [← det_tr, show tr (setC P c fun r => P r j) = setR (tr P) c fun r => P r j from rfl, ← det_row m _ c hc]
  refine sm_congr fun q _ => ?_
  have h1 : setR (tr P) c (fun r => P r j) c q = P q j := by simp [setR]
  have h2 : minor (setR (tr P) c fun r => P r j) c q = minor (tr P) c q := by
    funext r s
    simp only [minor, setR]
    rw [if_neg (by unfold skip; split <;> omega)]
  rw [h1, h2, Int.mul_comm]
  congr 1
  exact cof_tr m P c q
theorem cramer (k : Nat) (P : Mt) (r j : Nat) (hr : r < k) : (sm k fun c => P r c * cr k P c j) = det k P * P r j := by
  cases k with
  | zero => omega
  | succ m =>
    rw [sm_congr (fun c hc => by rw [cr_adj m P c j hc])]
    have h1 : (sm (m + 1) fun c => P r c * sm (m + 1) fun q => adj m P c q * P q j) = mul (m + 1) P (mul (m + 1) (adj m P) P) r j := rfl
    rw [h1, ← mul_assoc]
    simp only [mul]
    rw [sm_one (c := r) hr fun q hq hn => ?_]
    · have := mul_adj m P r r hr hr
      rw [if_pos rfl] at this
      simp only [mul] at this
      rw [this]
    · have := mul_adj m P r q hr hq
      rw [if_neg (Ne.symm hn)] at this
      simp only [mul] at this
      rw [this, Int.zero_mul]
theorem uniq (k : Nat) (P : Mt) (u : Nat → Int) (hd : det k P ≠ 0) (h : ∀ r, r < k → (sm k fun c => P r c * u c) = 0) : ∀ c, c < k → u c = 0 := by
  intro c hc
  cases k with
  | zero => omega
  | succ m =>
    have h1 : mul (m + 1) (mul (m + 1) (adj m P) P) (fun q _ => u q) c 0 = det (m + 1) P * u c := by
      simp only [mul]
      rw [sm_one (c := c) hc fun q hq hn => ?_]
      · have := adj_mul m P c c hc hc
        rw [if_pos rfl] at this
        simp only [mul] at this
        rw [this]
      · have := adj_mul m P c q hc hq
        rw [if_neg (Ne.symm hn)] at this
        simp only [mul] at this
        rw [this, Int.zero_mul]
    rw [mul_assoc] at h1
    have h2 : mul (m + 1) (adj m P) (mul (m + 1) P fun q _ => u q) c 0 = 0 := by
      simp only [mul]
      exact sm_zero fun q hq => by rw [h q hq, Int.mul_zero]
    rw [h2] at h1
    rcases Int.mul_eq_zero.1 h1.symm with h | h
    · exact absurd h hd
    · exact h
theorem cr_last (k : Nat) (P : Mt) (j : Nat) : cr (k + 1) P k j = bm k P k j := by
  unfold cr bm
  refine det_congr fun r c hr hc => ?_
  simp only [setC]
  have e : (if r < k then r else k) = r := by split <;> omega
  rw [e]
  by_cases h : c = k
  · rw [if_pos h, if_neg (by omega)]
  · rw [if_neg h, if_pos (by omega)]
theorem cr_step (k : Nat) (P : Mt) (i j : Nat) (hi : i < k) (hd : det k P ≠ 0) : det k P * cr (k + 1) P i j = det (k + 1) P * cr k P i j - cr k P i k * bm k P k j := by
  have h := uniq k P (fun c => det k P * cr (k + 1) P c j + ((-1) * (det (k + 1) P * cr k P c j) + bm k P k j * cr k P c k)) hd (fun r hr => by
    have h1 := cramer (k + 1) P r j (by omega)
    simp only [sm] at h1
    rw [cr_last] at h1
    have h2 := cramer k P r j hr
    have h3 := cramer k P r k hr
    rw [sm_congr (g := fun c => det k P * (P r c * cr (k + 1) P c j) + 1 * ((- det (k + 1) P) * (P r c * cr k P c j) + bm k P k j * (P r c * cr k P c k))) (fun c _ => by grind)]
    rw [sm_lin, sm_lin, h2, h3]
    have h4 : (sm k fun c => P r c * cr (k + 1) P c j) = det (k + 1) P * P r j - P r k * bm k P k j := by omega
    rw [h4]
    grind) i hi
  grind
/-- what the elimination holds behind k columns; P: the rows in their order -/
structure JI (n k : Nat) (A P : Mt) (l : Int) : Prop where
  lt : ∀ i j, i < k → i < n → k ≤ j → j ≤ n → A i j = cr k P i j
  ge : ∀ i j, k ≤ i → i < n → k ≤ j → j ≤ n → A i j = bm k P i j
  eq : l = det k P
  ne : l ≠ 0
theorem JI.start (n : Nat) (A : Mt) : JI n 0 A A 1 := ⟨fun _ _ h => absurd h (by omega), fun i j _ _ _ _ => (bm_zero' A i j).symm, rfl, by decide⟩
def sw (k p i : Nat) : Nat := if i = k then p else if i = p then k else i
theorem swp2_sw (k p : Nat) (A : Mt) (i : Nat) : swp2 k p A i = A (sw k p i) := by
  unfold swp2 sw; split
  · rfl
  · split <;> rfl
theorem sw_lt {n k p i : Nat} (hk : k < n) (hp : p < n) (hi : i < n) : sw k p i < n := by unfold sw; split; exact hp; split; exact hk; exact hi
theorem sw_low {k p i : Nat} (hp : k ≤ p) (hi : i < k) : sw k p i = i := by unfold sw; rw [if_neg (by omega), if_neg (by omega)]
theorem sw_ge {k p i : Nat} (hp : k ≤ p) (hi : k ≤ i) : k ≤ sw k p i := by unfold sw; split; exact hp; split; exact Nat.le_refl _; exact hi
theorem sw_sw (k p i : Nat) : sw k p (sw k p i) = i := by
  unfold sw
  by_cases h1 : i = k
  · rw [if_pos h1]
    by_cases h2 : p = k
    · rw [if_pos h2]; omega
    · rw [if_neg h2, if_pos rfl]; exact h1.symm
  · rw [if_neg h1]
    by_cases h2 : i = p
    · rw [if_pos h2, if_pos rfl]; exact h2.symm
    · rw [if_neg h2, if_neg h1, if_neg h2]
theorem bm_sw {k p : Nat} (P : Mt) (i j : Nat) (hp : k ≤ p) : bm k (swp2 k p P) i j = bm k P (sw k p i) j := by
  unfold bm
  refine det_congr fun r c _ _ => ?_
  by_cases h : r < k
  · rw [if_pos h, swp2_sw, sw_low hp h, if_pos h]
  · rw [if_neg h, swp2_sw, if_neg h]
theorem det_sw {k p : Nat} (P : Mt) (hp : k ≤ p) : det k (swp2 k p P) = det k P := det_congr fun r c hr _ => by rw [swp2_sw, sw_low hp hr]
theorem cr_sw {k p : Nat} (P : Mt) (i j : Nat) (hp : k ≤ p) : cr k (swp2 k p P) i j = cr k P i j := by
  unfold cr
  refine det_congr fun r c hr _ => ?_
  simp only [setC]
  rw [swp2_sw, sw_low hp hr]
theorem JI.swap {n k p : Nat} {A P : Mt} {l : Int} (h : JI n k A P l) (hk : k ≤ p) (hp : p < n) : JI n k (swp2 k p A) (swp2 k p P) l := by
  refine ⟨fun i j h1 h2 h3 h4 => ?_, fun i j h1 h2 h3 h4 => ?_, ?_, h.ne⟩
  · rw [swp2_sw, sw_low hk h1, cr_sw P i j hk]; exact h.lt i j h1 h2 h3 h4
  · rw [swp2_sw, bm_sw P i j hk]; exact h.ge _ j (sw_ge hk h1) (sw_lt (by omega) hp h2) h3 h4
  · rw [det_sw P hk]; exact h.eq
/-- one step -/
def jst (k : Nat) (A : Mt) (l : Int) (i j : Nat) : Int := (A k k * A i j - A i k * A k j) / l
theorem JI.step {n k : Nat} {A P A' : Mt} {l : Int} (h : JI n k A P l) (hk : k < n) (hz : A k k ≠ 0) (hA : ∀ i j, i < n → k < j → j ≤ n → A' i j = if i = k then A i j else jst k A l i j) : JI n (k + 1) A' P (A k k) := by
  have e : A k k = det (k + 1) P := by rw [h.ge k k (Nat.le_refl _) hk (Nat.le_refl _) (by omega), bm_self]
  have hd : det k P ≠ 0 := by rw [← h.eq]; exact h.ne
  refine ⟨fun i j h1 h2 h3 h4 => ?_, fun i j h1 h2 h3 h4 => ?_, e, hz⟩
  · rw [hA i j h2 (by omega) h4]
    by_cases hik : i = k
    · rw [if_pos hik, hik, cr_last]; exact h.ge k j (Nat.le_refl _) hk (by omega) h4
    · rw [if_neg hik]
      unfold jst
      rw [e, h.lt i j (by omega) h2 (by omega) h4, h.lt i k (by omega) h2 (Nat.le_refl _) (by omega), h.ge k j (Nat.le_refl _) hk (by omega) h4, ← cr_step k P i j (by omega) hd, h.eq, Int.mul_ediv_cancel_left _ hd]
  · rw [hA i j h2 (by omega) h4, if_neg (by omega)]
    unfold jst
    rw [h.ge k k (Nat.le_refl _) hk (Nat.le_refl _) (by omega), h.ge i j (by omega) h2 (by omega) h4, h.ge i k (by omega) h2 (Nat.le_refl _) (by omega), h.ge k j (Nat.le_refl _) hk (by omega) h4, ← bareiss k P i j hd, h.eq, Int.mul_ediv_cancel_left _ hd]
theorem JI.sing {n k : Nat} {A P : Mt} {l : Int} (h : JI n k A P l) (hk : k < n) (hz : ∀ i, k ≤ i → i < n → A i k = 0) : det n P = 0 :=
  no_pivot n k P hk (by rw [← h.eq]; exact h.ne) fun i h1 h2 => by rw [← h.ge i k h1 h2 (Nat.le_refl _) (by omega)]; exact hz i h1 h2
/-- P is M with its rows in another order -/
def PR (n : Nat) (P M : Mt) (s : Int) : Prop := (s = 1 ∨ s = -1) ∧ ∀ T : (Nat → Int) → Nat → Int, det n (fun r => T (P r)) = s * det n (fun r => T (M r))
theorem PR.start (n : Nat) (M : Mt) : PR n M M 1 := ⟨.inl rfl, fun T => by rw [Int.one_mul]⟩
theorem PR.swap {n k p : Nat} {P M : Mt} {s : Int} (h : PR n P M s) (hk : k < n) (hp : p < n) : ∃ s', PR n (swp2 k p P) M s' := by
  by_cases e : k = p
  · subst e
    refine ⟨s, h.1, fun T => ?_⟩
    rw [← h.2 T]
    congr 1
    funext r
    rw [swp2_sw]
    unfold sw
    by_cases h1 : r = k
    · rw [if_pos h1, h1]
    · rw [if_neg h1, if_neg h1]
  · refine ⟨-s, by rcases h.1 with rfl | rfl; exact .inr rfl; exact .inl rfl, fun T => ?_⟩
    have h1 : (fun r => T (swp2 k p P r)) = swp2 k p fun r => T (P r) := by
      funext r
      rw [swp2_sw, swp2_sw]
    rw [h1, (ma_det n).swap _ k p hk hp e, h.2 T, Int.neg_mul]
theorem PR.det {n : Nat} {P M : Mt} {s : Int} (h : PR n P M s) : Go.Det.det n P = s * Go.Det.det n M := h.2 fun r => r
theorem PR.cr {n : Nat} {P M : Mt} {s : Int} (h : PR n P M s) (i j : Nat) : cr n P i j = s * Go.Det.cr n M i j := h.2 fun r c => if c = i then r j else r c
end Go.Det
