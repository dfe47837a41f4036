/- Joined: Sch. -/
import Derived.Test.YtcjhcefnedonlaaQv
/- Schur complements, in plain Lean. -/
namespace Go.Det
theorem sm_split {k n : Nat} (h : k ≤ n) (f : Nat → Int) : sm n f = sm k f + sm (n - k) fun b => f (k + b) := by
  obtain ⟨d, rfl⟩ : ∃ d, n = k + d := ⟨n - k, by omega⟩
  rw [show k + d - k = d by omega]
  clear h
  induction d with
  | zero => simp [sm]
  | succ d ih =>
    rw [show k + (d + 1) = (k + d) + 1 by omega]
    simp only [sm]
    rw [ih]; omega
theorem schur_row {n k : Nat} {G : Mt} {t H : Nat → Int} {a : Nat} (hk : k ≤ n) (hd : det k G ≠ 0)
    (hH : ∀ r, r < k → (sm k fun c => G r c * H c) = det k G * -(sm (n - k) fun b => G r (k + b) * t b)) :
    (sm k fun c => G (k + a) c * H c) + det k G * (sm (n - k) fun b => G (k + a) (k + b) * t b) = sm (n - k) fun b => bm k G (k + a) (k + b) * t b := by
  obtain ⟨x, hx⟩ := solve k G (G (k + a))
  have hb := border hd hx
  have e1 : (sm (n - k) fun b => bm k G (k + a) (k + b) * t b) = det k G * (sm (n - k) fun b => G (k + a) (k + b) * t b) + sm k fun r => x r * sm (n - k) fun b => G r (k + b) * t b := by
    rw [show (sm (n - k) fun b => bm k G (k + a) (k + b) * t b) = sm (n - k) fun b => det k G * (G (k + a) (k + b) * t b) + sm k fun r => x r * (G r (k + b) * t b) from sm_congr fun b _ => by
      rw [hb (k + b), Int.add_mul, Int.mul_assoc, ← sm_mulr]
      congr 1
      exact sm_congr fun r _ => Int.mul_assoc _ _ _]
    rw [sm_add, sm_mul, sm_swap]
    congr 1
    exact sm_congr fun r _ => sm_mul _ _ _
  rw [e1]
  have e2 : det k G * (sm k fun r => x r * sm (n - k) fun b => G r (k + b) * t b) = det k G * sm k fun c => G (k + a) c * H c := by
    rw [← sm_mul, ← sm_mul]
    rw [show (sm k fun r => det k G * (x r * sm (n - k) fun b => G r (k + b) * t b)) = sm k fun r => sm k fun c => - (x r * G r c * H c) from sm_congr fun r hr => by
      rw [show det k G * (x r * sm (n - k) fun b => G r (k + b) * t b) = - x r * (det k G * -(sm (n - k) fun b => G r (k + b) * t b)) by grind, ← hH r hr, ← sm_mul]
      exact sm_congr fun c _ => by grind]
    rw [sm_swap]
    refine sm_congr fun c hc => ?_
    have h := hx c hc
    rw [show (sm k fun r => - (x r * G r c * H c)) = (sm k fun r => x r * G r c) * - H c by rw [← sm_mulr]; exact sm_congr fun r _ => by grind]
    rw [show (sm k fun r => x r * G r c) = - (det k G * G (k + a) c) by omega]
    grind
  have e3 := Int.eq_of_mul_eq_mul_left hd e2
  omega
/-- the vector: its head solves the linear system, its tail is given; all multiplied by the minor -/
def schY (k : Nat) (D : Int) (H t : Nat → Int) : Nat → Int := fun c => if c < k then H c else D * t (c - k)
theorem schur {n k : Nat} {G : Mt} {t H : Nat → Int} (hk : k ≤ n) (hd : det k G ≠ 0)
    (hH : ∀ r, r < k → (sm k fun c => G r c * H c) = det k G * -(sm (n - k) fun b => G r (k + b) * t b)) :
    (sm n fun r => sm n fun c => G r c * (schY k (det k G) H t r * schY k (det k G) H t c)) = det k G * sm (n - k) fun a => t a * sm (n - k) fun b => bm k G (k + a) (k + b) * t b := by
  have hy1 : ∀ c, c < k → schY k (det k G) H t c = H c := fun c h => if_pos h
  have hy2 : ∀ b, schY k (det k G) H t (k + b) = det k G * t b := fun b => by unfold schY; rw [if_neg (by omega), show k + b - k = b by omega]
  have hG : ∀ r, (sm n fun c => G r c * schY k (det k G) H t c) = (sm k fun c => G r c * H c) + det k G * sm (n - k) fun b => G r (k + b) * t b := fun r => by
    rw [sm_split hk, ← sm_mul]
    congr 1
    · exact sm_congr fun c hc => by rw [hy1 c hc]
    · exact sm_congr fun b _ => by rw [hy2]; grind
  rw [show (sm n fun r => sm n fun c => G r c * (schY k (det k G) H t r * schY k (det k G) H t c)) = sm n fun r => schY k (det k G) H t r * ((sm k fun c => G r c * H c) + det k G * sm (n - k) fun b => G r (k + b) * t b) from sm_congr fun r _ => by
    rw [← hG r, ← sm_mul]
    exact sm_congr fun c _ => by grind]
  rw [sm_split hk, sm_zero (n := k) fun r hr => by rw [hH r hr]; grind]
  rw [Int.zero_add, ← sm_mul]
  refine sm_congr fun a _ => ?_
  rw [hy2, schur_row hk hd hH, Int.mul_assoc]
end Go.Det
