/- matrix.Inverse. -/
import Derived.Test.YtimjiaabaanbeaaMatk
namespace Go.Proofs.Ytimjiaabaanbeaa
open Go Go.Eng Go.Num Go.Proofs

theorem detGo_bd {n N : Nat} : ∀ (m k : Nat) (M : Nat → Nat → Int) (neg : Bool) (last : Int), (∀ i j, Bd (Nb N k) (M i j)) → Bd (Nb N k) last → Bd (Nb N (k + m)) (detGo n m k M neg last) := by
  intro m
  induction m with
  | zero => intro k M neg last hM hl; unfold detGo; split <;> first | exact hl.neg | exact hl
  | succ m ih =>
    intro k M neg last hM hl
    unfold detGo
    split
    · exact Bd.zero _
    · have hs : ∀ i j, Bd (Nb N k) (swp k (pivot n k M) M i j) := fun i j => by
        simp only [swp]
        split
        · exact hM _ _
        · split <;> exact hM _ _
      have h2 := ih (k + 1) (elim k last (swp k (pivot n k M) M)) (neg != decide (pivot n k M ≠ k)) (swp k (pivot n k M) M k k) (fun i j => elim_bd hs) ((hs k k).mono (Nb_mono N k))
      rw [show k + (m + 1) = k + 1 + m by omega]
      exact h2
/-- the matrix's entries, and 0 outside -/
def cut (n : Nat) (M : Nat → Nat → Int) : Nat → Nat → Int := fun i j => if i < n ∧ j < n then M i j else 0
theorem findP_congr {n k : Nat} {M M' : Nat → Nat → Int} (hk : k < n) (h : ∀ i j, i < n → j < n → M i j = M' i j) : ∀ fuel p, findP n k M fuel p = findP n k M' fuel p := by
  intro fuel
  induction fuel with
  | zero => intro p; rfl
  | succ fuel ih =>
    intro p
    simp only [findP]
    by_cases hp : p < n
    · rw [h p k hp hk, ih]
    · rw [if_neg (fun e => hp e.1), if_neg (fun e => hp e.1)]
theorem findP_le {n k : Nat} {M : Nat → Nat → Int} : ∀ fuel p, p ≤ n → p ≤ findP n k M fuel p ∧ findP n k M fuel p ≤ n := by
  intro fuel
  induction fuel with
  | zero => intro p hp; exact ⟨Nat.le_refl _, hp⟩
  | succ fuel ih =>
    intro p hp
    simp only [findP]
    split
    · rename_i h
      have := ih (p + 1) (by omega)
      omega
    · omega
theorem detGo_congr {n : Nat} : ∀ (m k : Nat) (M M' : Nat → Nat → Int) (neg : Bool) (last : Int), k + m = n → (∀ i j, i < n → j < n → M i j = M' i j) → detGo n m k M neg last = detGo n m k M' neg last := by
  intro m
  induction m with
  | zero => intro k M M' neg last _ _; rfl
  | succ m ih =>
    intro k M M' neg last hk h
    have hp : pivot n k M = pivot n k M' := findP_congr (by omega) h _ _
    have hpl : pivot n k M' ≤ n := (findP_le (n := n) (k := k) (M := M') (n - k) k (by omega)).2
    simp only [detGo, hp]
    split
    · rfl
    · rename_i hne
      have hpl : pivot n k M' < n := by omega
      have hs : ∀ i j, i < n → j < n → swp k (pivot n k M') M i j = swp k (pivot n k M') M' i j := fun i j hi hj => by
        simp only [swp]
        split
        · exact h _ _ hpl hj
        · split
          · exact h _ _ (by omega) hj
          · exact h _ _ hi hj
      rw [hs k k (by omega) (by omega)]
      refine ih (k + 1) _ _ _ _ (by omega) (fun i j hi hj => ?_)
      simp only [elim]
      rw [hs k k (by omega) (by omega), hs i j hi hj, hs i k hi (by omega), hs k j (by omega) hj]
theorem detB_congr {n : Nat} {M M' : Nat → Nat → Int} (h : ∀ i j, i < n → j < n → M i j = M' i j) : detB n M = detB n M' := detGo_congr n 0 M M' false 1 (by omega) h
theorem detB_bd {n N : Nat} {M : Nat → Nat → Int} (hN : 1 ≤ N) (h : ∀ i j, i < n → j < n → Bd N (M i j)) : Bd (Nb N n) (detB n M) := by
  have e : detB n M = detB n (cut n M) := detB_congr fun i j hi hj => by simp [cut, hi, hj]
  rw [e]
  have := detGo_bd (n := n) (N := N) n 0 (cut n M) false 1 (fun i j => by
    unfold cut
    split
    · rename_i hh; exact h i j hh.1 hh.2
    · exact Bd.zero _) (Bd.mono (N := 1) (show (1 : Int).natAbs < B ^ 1 by decide) hN)
  rwa [Nat.zero_add] at this

def okI (r : Nat) (len : Nat → Nat) (M : Nat → Nat → Int) : Bool := okS r len && decide (detB r M = 1 ∨ detB r M = -1)
def invF (n : Nat) (M : Nat → Nat → Int) : Nat → Nat → Int := fun i j => detB n M * adjF n M i j

theorem clip_eq {z c : Int} (hc : c ≠ 0) (h : clip z = c) : z = c := by
  unfold clip at h
  split at h
  · exact h
  · exact absurd h.symm hc
theorem clip_of {z : Int} (h1 : -9223372036854775808 ≤ z) (h2 : z < 9223372036854775808) : clip z = z := (fits_t h1 h2).2

set_option maxHeartbeats 16000000 in
theorem inverse_ok (v : Value) (r N : Nat) (len : Nat → Nat) (M : Nat → Nat → Int) (w : World) (h : MatE (EI N) w v r len M) (hN1 : 1 ≤ N) (hN : N < 1048576) :
    Meets Try.prog 28 #[v] w (RMB w (okI r len M) r r (invF r M)) := by
  refine fn_W (n := 30) Try.func28 rfl rfl (by kernel_rfl) (by simp) ?_
  have bad : ¬ okI r len M = true → ∀ w', Ext w w' → RMB w (okI r len M) r r (invF r M) (.tuple #[.slice none 0 0, .bool false]) w' := fun hb w' hE => by unfold RMB; rw [if_neg hb]; exact ⟨hE, rfl⟩
  refine gg ?_
  refine R1_call2 (det_ok v r N len M w h hN1 hN) ?_
  rintro _ w1 ⟨hE1, x, y, rfl, hcv⟩
  refine gg ?_
  refine R1_alloc (.inl rfl) z_Int ?_
  intro w2 hB2 hE2 hs2
  have hD2 : Bx w2 w1.heap.size 1 true 0 := Bx.zero true hB2
  by_cases hok : okS r len = true
  · rw [hok, if_pos rfl] at hcv
    rw [hok]
    obtain ⟨hr1, hr2, hlen⟩ := okS_iff.1 hok
    have hS := h.sq hlen
    have hNn : Nb N r < 68719476736 := Nb_big hN (by omega)
    have hdb : Bd (Nb N r) (detB r M) := detB_bd hN1 fun i j hi hj => hS.bd hi hj
    refine gg ?_
    refine R1_storeBx (.inl rfl) rfl rfl hD2 ((hcv.ext hE2).ev true hdb) ?_
    intro w3 hD3 hC3 hk3 hs3
    have hw1 := hE1.size
    have hE3 : Ext w w3 := hC3.ext_of (hE1.trans hE2) (fun b hb => by omega)
    obtain ⟨dx, dy, hDB, hDv⟩ := hD3
    obtain ⟨d1, d2⟩ := blkP hDB
    refine gg ?_
    refine W_seq ?_
    refine gg ?_
    refine W_seq ?_
    refine gg ?_
    refine R1_call2 (int64_ok _ _ _ _ w3 hDv.1 (by omega)) ?_
    rintro _ w4 ⟨hE4, rfl⟩
    by_cases h1 : detB r M = 1
    · have hc : clip (detB r M) = 1 := by rw [h1]; exact clip_of (by omega) (by omega)
      refine gg ?_
      refine R1_call2 (adjugate_ok v r N M w4 (hS.ext (hE3.trans hE4)) hr1 hr2 hN1 hN) ?_
      rintro _ w5 ⟨hE5, gO, gs, rfl, hg, hgs, hO⟩
      refine gg ?_
      refine ret2 (v := .slice _ _ _) (v' := .bool _) rfl rfl rfl ?_
      unfold RMB
      rw [if_pos (by simp [okI, hok, h1])]
      have := (hE3.trans hE4).size
      refine ⟨_, rfl, (hE3.trans hE4).trans hE5, gO, gs, rfl, by omega, fun i hi => by have := hgs i hi; omega, ?_⟩
      have e : adjF r M = invF r M := by funext i j; rw [invF, h1, Int.one_mul]
      rw [← e]; exact hO
    · have hc : ¬ clip (detB r M) = 1 := fun e => h1 (clip_eq (by decide) e)
      by_cases h2 : detB r M = -1
      · have hc2 : clip (detB r M) = -1 := by rw [h2]; exact clip_of (by omega) (by omega)
        refine gg ?_
        refine R1_call2 (adjugate_ok v r N M w4 (hS.ext (hE3.trans hE4)) hr1 hr2 hN1 hN) ?_
        rintro _ w5 ⟨hE5, gO, gs, rfl, hg, hgs, hO⟩
        have hNk : (r - 1) * (N + 3) ≤ 15 * 1048579 := Nat.mul_le_mul (by omega) (by omega)
        have hab : ∀ i j, i < r → j < r → Bd (1 + (r - 1) * (N + 3)) (adjF r M i j) := fun i j hi hj => by
          have := adjP_bd (N := N) (M := M) hr2 (fun i j hi hj => hS.bd hi hj) (r - 1) i j hi hj
          unfold adjF
          split
          · exact this.neg
          · exact this
        refine gg ?_
        refine R1_call2 (negated_ok _ r r (1 + (r - 1) * (N + 3)) _ w5 (hO.read (fun i j hi hj => hab i j hi hj) (by omega) (by omega)) hr1 (by omega) (by omega) (by omega)) ?_
        rintro _ w6 ⟨hE6, gO', gs', rfl, hg', hgs', hO'⟩
        refine gg ?_
        refine ret2 (v := .slice _ _ _) (v' := .bool _) rfl rfl rfl ?_
        unfold RMB
        rw [if_pos (by simp [okI, hok, h2])]
        have := ((hE3.trans hE4).trans hE5).size
        refine ⟨_, rfl, ((hE3.trans hE4).trans hE5).trans hE6, gO', gs', rfl, by omega, fun i hi => by have := hgs' i hi; omega, ?_⟩
        have e : (fun i j => - adjF r M i j) = invF r M := by funext i j; rw [invF, h2, Int.neg_one_mul]
        rw [← e]; exact hO'
      · have hc2 : ¬ clip (detB r M) = -1 := fun e => h2 (clip_eq (by decide) e)
        refine gg ?_
        exact ret2 (v := .slice _ _ _) (v' := .bool _) rfl rfl rfl (bad (by simp [okI, h1, h2]) _ (hE3.trans hE4))
  · have hok' : okS r len = false := by simpa using hok
    rw [hok', if_neg (by decide)] at hcv
    rw [hok']
    refine gg ?_
    refine R1_storeBx (N' := 1) (.inl rfl) rfl rfl hD2 ((hcv.ext hE2).ev true (Bd.zero _)) ?_
    intro w3 hD3 hC3 hk3 hs3
    have hw1 := hE1.size
    have hE3 : Ext w w3 := hC3.ext_of (hE1.trans hE2) (fun b hb => by omega)
    refine gg ?_
    refine W_seq ?_
    refine gg ?_
    exact ret2 (v := .slice _ _ _) (v' := .bool _) rfl rfl rfl (bad (by simp [okI, hok']) _ hE3)
end Go.Proofs.Ytimjiaabaanbeaa
