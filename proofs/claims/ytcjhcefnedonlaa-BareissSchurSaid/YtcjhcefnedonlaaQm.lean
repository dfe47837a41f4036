/- Joined: Sqi. -/
import Derived.Test.YtcjhcefnedonlaaQk
/- Square matrices, more: reading rows with room, the reference's Identity and Product where they succeed; Cramer's rule. -/
namespace Go.Proofs.Ytcjhcefnedonlaa
open Go Go.Eng Go.Num Go.Proofs

theorem GMat.readC {w : World} {gO r c N : Nat} {gs cp : Nat → Nat} {M : Nat → Nat → Int} (h : GMat w gO gs cp r c true (fun _ _ => N) M) (hr : r < 9223372036854775808) : MatE (EC N) w (.slice (some ⟨gO, 0, none⟩) r r) r (fun _ => c) M :=
  ⟨_, _, rfl, Nat.le_refl _, hr, fun i hi => ⟨_, _, rfl, by rw [add_lit]; exact h.at hi, by
    obtain ⟨h1, h2, _⟩ := h.row i hi
    refine ⟨_, _, rfl, h1, h2, fun j hj => ?_⟩
    obtain ⟨x, y, e1, e2, hv⟩ := (h.row i hi).at hj
    exact ⟨_, x, y, rfl, by rw [add_lit]; exact e1, by rw [add_lit]; exact e2, hv.2 rfl, hv.bd⟩⟩⟩
/-- two answers of the same shape with the same entries -/
theorem same_c {w : World} {v v' : Value} {r c N : Nat} {M M' : Nat → Nat → Int} (h : MatE (EC N) w v r (fun _ => c) M) (h' : MatE (EC N) w v' r (fun _ => c) M') (e : ∀ i j, i < r → j < c → M i j = M' i j) (hN2 : N < 1099511627776) :
    Meets Try.prog 14 #[v, v'] w fun u w' => Ext w w' ∧ u = .bool true :=
  (rsameM_ok v v' r r N _ _ M M' w h h' hN2).mono fun _ _ ⟨hE, _, e', hb⟩ => ⟨hE, by rw [e', hb.2 ⟨rfl, fun i hi => ⟨rfl, fun j hj => e i j hi hj⟩⟩]⟩
theorem OMat.rdC {w : World} {gO : Nat} {gs : Nat → Nat} {r c N' N : Nat} {M : Nat → Nat → Int} (h : OMat w gO gs r c M) (hM : ∀ i j, i < r → j < c → Bd N' (M i j)) (hN : N' ≤ N) (hr : r < 9223372036854775808) (hc : c < 9223372036854775808) : MatE (EC N) w (.slice (some ⟨gO, 0, none⟩) r r) r (fun _ => c) M :=
  h.readC (fun i j hi hj => (hM i j hi hj).mono hN) hr hc
theorem rproductT_ok {va vb : Value} {r q c N : Nat} {X Y : Nat → Nat → Int} {w : World} (ha : MatE (EI N) w va r (fun _ => q) X) (hb : MatE (EI N) w vb q (fun _ => c) Y) (hN : N < 34359738368) (h1 : 1 ≤ r) (h2 : r ≤ 16) (h3 : 1 ≤ q) (h4 : q ≤ 16) (h5 : 1 ≤ c) (h6 : c ≤ 16) :
    Meets Try.prog 36 #[va, vb] w (RM w r c (mulM q X Y)) :=
  (rproduct_ok va vb r q N _ _ X Y w ha hb hN).mono fun _ _ h => h.get (okMul_const h1 h2 h3 h4 h5 h6)
theorem adjF_bd {n N : Nat} {M : Nat → Nat → Int} (hn : n ≤ 16) (hM : ∀ i j, i < n → j < n → Bd N (M i j)) : ∀ i j, i < n → j < n → Bd (1 + (n - 1) * (N + 3)) (adjF n M i j) := fun i j hi hj => by
  unfold adjF
  split
  · exact (adjP_bd hn hM _ i j hi hj).neg
  · exact adjP_bd hn hM _ i j hi hj
/-- a matrix times its adjugate -/
theorem cramer (n : Nat) (M : Nat → Nat → Int) (i j : Nat) (hi : i < n) (hj : j < n) : mulM n M (adjF n M) i j = timesM (detB n M) (scal 1) i j := by
  obtain ⟨m, rfl⟩ : ∃ m, n = m + 1 := ⟨n - 1, by omega⟩
  rw [mulM_mul, mul_congr (fun k hk => adjF_adj m M k j hk hj), Go.Det.mul_adj m M i j hi hj, detB_det]
  unfold timesM scal
  split <;> simp
theorem cramer' (n : Nat) (M : Nat → Nat → Int) (i j : Nat) (hi : i < n) (hj : j < n) : mulM n (adjF n M) M i j = timesM (detB n M) (scal 1) i j := by
  obtain ⟨m, rfl⟩ : ∃ m, n = m + 1 := ⟨n - 1, by omega⟩
  have : Go.Det.mul (m + 1) (adjF (m + 1) M) M i j = Go.Det.mul (m + 1) (Go.Det.adj m M) M i j := Go.Det.sm_congr fun k hk => by rw [adjF_adj m M i k hi hk]
  rw [mulM_mul, this, Go.Det.adj_mul m M i j hi hj, detB_det]
  unfold timesM scal
  split <;> simp

end Go.Proofs.Ytcjhcefnedonlaa
