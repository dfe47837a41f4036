/- Joined: Rfc, Rfd. -/
import Derived.Test.YtcjhcefnedonlaaQz
/- quadformref04: Stage. -/
namespace Go.Proofs.Ytcjhcefnedonlaa
open Go Go.Eng Go.Num Go.Proofs

/-- stage k -/
def stR (M : Nat → Nat → Int) (k : Nat) : Nat → Nat → Int := fun i j => Go.Det.bm k M (k + i) (k + j)
theorem first_bm (k i j : Nat) (M : Nat → Nat → Int) : detB (k + 1) (fun r c => M (firstF k (k + i) r) (firstF k (k + j) c)) = stR M k i j := by
  rw [detB_det]; rfl
theorem stR_bd {n N k i j : Nat} {M : Nat → Nat → Int} (hN : 1 ≤ N) (hk : k < n) (hn : n ≤ 16) (hi : i < n - k) (hj : j < n - k) (h : ∀ i j, i < n → j < n → Bd N (M i j)) : Bd (Nb N 16) (stR M k i j) := by
  rw [← first_bm]
  refine (detB_bd hN fun r c hr hc => ?_).mono (Nb_le16 N _ (by omega))
  refine h _ _ ?_ ?_
  · unfold firstF; split <;> omega
  · unfold firstF; split <;> omega
/-- what Stage leaves -/
def RStg (w : World) (m N : Nat) (X : Nat → Nat → Int) (v : Value) (w' : World) : Prop :=
  Ext w w' ∧ ∃ gO gs, v = .slice (some ⟨gO, 0, none⟩) m m ∧ w.heap.size ≤ gO ∧ (∀ i, i < m → w.heap.size ≤ gs i) ∧ WMat w' gO gs m m true (fun _ _ => N) X

end Go.Proofs.Ytcjhcefnedonlaa

/- quadformref04: Stages. -/
namespace Go.Proofs.Ytcjhcefnedonlaa
open Go Go.Eng Go.Num Go.Proofs

/-- a list of stages, as matrices -/
def StR (w : World) (v : Value) (m n N : Nat) (M : Nat → Nat → Int) (gos : Nat → Nat) (gss : Nat → Nat → Nat) : Prop :=
  Gr1 25 (.slice none 0 0) w v m (fun q => .slice (some ⟨gos q, 0, none⟩) (n - q) (n - q)) ∧ ∀ q, q < m → WMat w (gos q) (gss q) (n - q) (n - q) true (fun _ _ => N) (stR M q)
/-- the leading minors but the last are not 0 -/
def okLd (n : Nat) (M : Nat → Nat → Int) : Prop := ∀ q, q + 1 < n → ldM M q ≠ 0
def RStR (w : World) (p : Prop) (n N : Nat) (M : Nat → Nat → Int) (v : Value) (w' : World) : Prop :=
  Ext w w' ∧ ((¬ p ∧ v = .tuple #[.slice none 0 0, .bool false]) ∨ (p ∧ ∃ u gos gss, v = .tuple #[u, .bool true] ∧ StR w' u n n N M gos gss))

end Go.Proofs.Ytcjhcefnedonlaa
