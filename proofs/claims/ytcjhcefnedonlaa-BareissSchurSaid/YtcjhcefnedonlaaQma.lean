/- Joined: Lxa. -/
import Derived.Test.YtcjhcefnedonlaaQz
import Derived.Test.YtcjhcefnedonlaaQy
import Derived.Test.YtcjhcefnedonlaaQf
import Derived.Test.YtcjhcefnedonlaaQo
import Derived.Test.YtcjhcefnedonlaaQm
/- The law BareissDefinite. -/
namespace Go.Proofs.Ytcjhcefnedonlaa
open Go Go.Eng Go.Num Go.Proofs
open Go.Det (stg)

theorem stg_ld {M : Nat → Nat → Int} {k : Nat} (h : ∀ q, q < k → ldM M q ≠ 0) : stg M k 0 0 = ldM M k := by
  have := (Go.Det.stg_bm M k fun q h1 h2 => by
    have := h (q - 1) (by omega)
    unfold ldM at this
    rwa [show q - 1 + 1 = q by omega] at this).1 0 0
  rw [this, Nat.add_zero, Go.Det.bm_self]; rfl
theorem pos_iff {M : Nat → Nat → Int} (n : Nat) : (∀ q, q < n → 0 < stg M q 0 0) ↔ ∀ q, q < n → 0 < ldM M q := by
  induction n with
  | zero => exact ⟨fun _ q hq => absurd hq (by omega), fun _ q hq => absurd hq (by omega)⟩
  | succ n ih =>
    constructor
    · intro h
      have h1 := ih.1 fun q hq => h q (by omega)
      have e := stg_ld (M := M) (k := n) fun q hq => by have := h1 q hq; omega
      intro q hq
      by_cases eq : q = n
      · rw [eq, ← e]; exact h n (by omega)
      · exact h1 q (by omega)
    · intro h
      have h1 := ih.2 fun q hq => h q (by omega)
      have e := stg_ld (M := M) (k := n) fun q hq => by have := h q (by omega); omega
      intro q hq
      by_cases eq : q = n
      · rw [eq, e]; exact h n (by omega)
      · exact h1 q (by omega)
theorem okDef_df {r : Nat} {len : Nat → Nat} {M : Nat → Nat → Int} : okDef r len M ↔ okDf r len M := by
  unfold okDef okDf; rw [pos_iff]

end Go.Proofs.Ytcjhcefnedonlaa
