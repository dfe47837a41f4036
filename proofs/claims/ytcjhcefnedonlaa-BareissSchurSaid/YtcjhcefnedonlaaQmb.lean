/- Joined: Lxb. -/
import Derived.Test.YtcjhcefnedonlaaQma
import Derived.Test.YtcjhcefnedonlaaQq
import Derived.Test.YtcjhcefnedonlaaQv
/- The law BareissNorms. -/
namespace Go.Det
theorem sm_ext {m n : Nat} {f : Nat → Int} (h : m ≤ n) (hz : ∀ i, m ≤ i → i < n → f i = 0) : sm n f = sm m f := by
  induction n with
  | zero => rw [show m = 0 by omega]
  | succ n ih =>
    by_cases e : m = n + 1
    · rw [e]
    · simp only [sm]
      rw [ih (by omega) fun i h1 h2 => hz i h1 (by omega), hz n (by omega) (by omega), Int.add_zero]
theorem gram_pos {n m : Nat} {A : Mt} {y : Nat → Int} (hd : det n A ≠ 0) (hm : m ≤ n) (hy : ∃ i, i < m ∧ y i ≠ 0) : 0 < nrm m (mul n (tr A) A) y := by
  rw [nrm_gram]
  have : ∃ r, r < n ∧ (sm m fun i => A r i * y i) ≠ 0 := by
    refine Classical.byContradiction fun hno => ?_
    have h0 : ∀ r, r < n → (sm m fun i => A r i * y i) = 0 := fun r hr => Classical.byContradiction fun h => hno ⟨r, hr, h⟩
    obtain ⟨i, hi, hyi⟩ := hy
    have := uniq n A (fun i => if i < m then y i else 0) hd (fun r hr => by
      rw [sm_ext hm fun i h1 h2 => by rw [if_neg (by omega), Int.mul_zero], ← h0 r hr]
      exact sm_congr fun i hi => by rw [if_pos hi]) i (by omega)
    rw [if_pos hi] at this
    exact hyi this
  obtain ⟨r, hr, hne⟩ := this
  exact sm_pos (fun i _ => sq_nonneg _) hr (sq_pos hne)
theorem gram_tr (n : Nat) (A : Mt) : tr (mul n (tr A) A) = mul n (tr A) A := tr_mul n (tr A) A
theorem gram_minors {n : Nat} {A : Mt} (hd : det n A ≠ 0) : ∀ k, k ≤ n → 0 < det k (mul n (tr A) A) :=
  minors_pos n _ fun m y hm hy => by rw [gram_tr]; exact gram_pos hd hm hy
theorem gram_det (n : Nat) (A : Mt) : det n (mul n (tr A) A) = det n A * det n A := by rw [det_mul, det_tr]
end Go.Det
namespace Go.Proofs.Ytcjhcefnedonlaa
open Go Go.Eng Go.Num Go.Proofs

theorem gram_iff {n : Nat} {X : Nat → Nat → Int} (hn : 1 ≤ n) (hn2 : n ≤ 16) : okDef n (fun _ => n) (mulM n (fun i j => X j i) X) ↔ Go.Det.det n X ≠ 0 := by
  rw [okDef_df, mulM_mul]
  constructor
  · rintro ⟨_, _, h⟩ e
    have := h (n - 1) (by omega)
    unfold ldM at this
    rw [show n - 1 + 1 = n by omega, show (fun i j => X j i) = Go.Det.tr X from rfl, Go.Det.gram_det, e] at this
    cases this
  · intro hd
    refine ⟨okS_const hn hn2, fun i j _ _ => ?_, fun q hq => Go.Det.gram_minors hd (q + 1) (by omega)⟩
    exact congrFun (congrFun (Go.Det.gram_tr n X) j) i

end Go.Proofs.Ytcjhcefnedonlaa
