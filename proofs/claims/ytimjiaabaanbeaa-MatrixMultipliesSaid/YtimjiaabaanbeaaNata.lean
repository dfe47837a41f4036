/- The program's natural numbers: compareNat, subNat. -/
import Derived.Test.YtimjiaabaanbeaaNat
namespace Go.Proofs.Ytimjiaabaanbeaa
open Go Go.Eng Go.Num Go.Proofs

set_option maxHeartbeats 4000000 in
theorem compareNat_ok (A1 A2 : Option Addr) (n1 n2 c1 c2 : Nat) (l1 l2 : List Nat) (w : World) (h1 : Mag w A1 l1) (h2 : Mag w A2 l2) (hn1 : l1.length = n1) (hn2 : l2.length = n2) (hl1 : n1 < 1099511627776) (hl2 : n2 < 1099511627776) (t1 : Trimd l1) (t2 : Trimd l2) :
    Meets Try.prog 103 #[.slice A1 n1 c1, .slice A2 n2 c2] w fun v w' => Ext w w' ∧ v = .int .i64 (cmpZ (val l1) (val l2)) := by
  subst hn1 hn2
  refine fn_W (n := 45) Try.func103 rfl rfl (by kernel_rfl) (by simp) ?_
  by_cases hlt : l1.length < l2.length
  · refine gg ?_
    refine ret1 (v := .int _ _) rfl rfl ⟨Ext.refl _, ?_⟩
    rw [cmpZ, if_pos (val_lt_len h1.lim t2 hlt)]
  by_cases hgt : l2.length < l1.length
  · refine gg ?_
    refine ret1 (v := .int _ _) rfl rfl ⟨Ext.refl _, ?_⟩
    have := val_lt_len h2.lim t1 hgt
    rw [cmpZ, if_neg (by omega), if_pos this]; rfl
  have heq : l1.length = l2.length := by omega
  refine gg ?_
  refine W_seq ?_
  refine gg ?_
  refine W_loop (fun m f w' => ∃ k, m = k ∧ k ≤ l1.length ∧ f 0 = .slice A1 l1.length c1 ∧ f 1 = .slice A2 l2.length c2 ∧ f 5 = .int .i64 ((k : Int) - 1) ∧ Ext w w' ∧ l1.drop k = l2.drop k) l1.length ⟨_, rfl, Nat.le_refl _, rfl, rfl, rfl, Ext.refl _, by rw [heq]; simp [← heq]⟩ ?_
  rintro m f w1 ⟨k, rfl, hk, hf0, hf1, hf5, hE, hd⟩
  rw [ui hf0, ui hf1]
  rcases m with _ | j
  · rw [ui hf5]
    refine W_seq ?_
    refine gg ?_
    refine ret1 (v := .int _ _) rfl rfl ⟨hE, ?_⟩
    have : val l1 = val l2 := by simp at hd; rw [hd]
    rw [cmpZ, if_neg (by omega), if_neg (by omega)]; rfl
  · have e5 : (((j + 1 : Nat) : Int) - 1) = (j : Int) := by omega
    rw [e5] at hf5
    rw [ui hf5]
    refine W_seq ?_
    refine gg ?_
    refine W_seqD [(0, 3), (1, 3), (2, 3), (3, 0), (4, 3), (5, 3), (6, 3), (7, 0), (8, 3), (9, 3)] mixed (by kernel_rfl) (fun w2 hE2 _ => ?_)
    have hE' := hE.trans hE2
    obtain ⟨ad, rfl, hc1⟩ := (h1.ext hE').at (j := j) (by omega)
    obtain ⟨ad', rfl, hc2⟩ := (h2.ext hE').at (j := j) (by omega)
    have hx := hc1 j (by omega)
    have hy := hc2 j (by omega)
    by_cases ha : l1.getD j 0 < l2.getD j 0
    · refine gg ?_
      refine ret1 (v := .int _ _) rfl rfl ⟨hE', ?_⟩
      rw [cmpZ, if_pos (val_lt_at h1.lim heq (by omega) hd ha)]
    · refine gg ?_
      refine W_seqD [(0, 3), (1, 3), (2, 3), (3, 0), (4, 3), (5, 3), (6, 3), (7, 0), (8, 3), (9, 3)] mixed (by kernel_rfl) (fun w3 hE3 _ => ?_)
      have hx := cell_ext hE3 hx
      have hy := cell_ext hE3 hy
      by_cases hb : l2.getD j 0 < l1.getD j 0
      · refine gg ?_
        refine ret1 (v := .int _ _) rfl rfl ⟨hE'.trans hE3, ?_⟩
        have := val_lt_at h2.lim heq.symm (by omega) hd.symm hb
        rw [cmpZ, if_neg (by omega), if_pos this]; rfl
      · refine gg ?_
        refine ⟨j, by omega, j, rfl, by omega, rfl, rfl, rfl, hE'.trans hE3, ?_⟩
        rw [drop_cons l1 j (by omega), drop_cons l2 j (by omega), hd, show l1.getD j 0 = l2.getD j 0 by omega]

set_option maxHeartbeats 4000000 in
theorem subNat_ok (A1 A2 : Option Addr) (n1 n2 c1 c2 : Nat) (l1 l2 : List Nat) (w : World) (h1 : Mag w A1 l1) (h2 : Mag w A2 l2) (hn1 : l1.length = n1) (hn2 : l2.length = n2) (hl1 : n1 < 1099511627776) (hl : n2 ≤ n1) (hle : val l2 ≤ val l1) :
    Meets Try.prog 104 #[.slice A1 n1 c1, .slice A2 n2 c2] w fun v w' => Ext w w' ∧ NatV w' v (val l1 - val l2) := by
  subst hn1 hn2
  refine fn_W (n := 45) Try.func104 rfl rfl (by kernel_rfl) (by simp) ?_
  refine gg ?_
  refine R1_make sl_u32 (.inl rfl) rfl rfl (Nat.le_refl _) (by omega) (by omega) ?_
  intro w1 hB hE hsz
  rw [cells_made] at hB
  refine gg ?_
  refine W_seqM (fun f w' => ∃ L, f 5 = .slice (some ⟨w.heap.size, 0, none⟩) l1.length l1.length ∧ Ext w w' ∧ Blk w' w.heap.size 54 (cells L) ∧ L.length = l1.length ∧ Lim L ∧ val L + val l2 = val l1) ?_ ?_
  · refine gg ?_
    refine W_loop (fun m f w' => ∃ i br L, m = l1.length - i ∧ i ≤ l1.length ∧ f 0 = .slice A1 l1.length c1 ∧ f 1 = .slice A2 l2.length c2 ∧ f 5 = .slice (some ⟨w.heap.size, 0, none⟩) l1.length l1.length ∧ f 6 = .int .u64 ((br : Nat) : Int) ∧
      f 13 = .int .i64 ((l1.length : Nat) : Int) ∧ f 14 = .int .i64 ((i : Nat) : Int) ∧ Ext w w' ∧ Blk w' w.heap.size 54 (cells L) ∧ L.length = l1.length ∧ Lim L ∧ br ≤ 1 ∧ val (L.take i) + val (l2.take i) = val (l1.take i) + br * B ^ i)
      l1.length ⟨0, 0, _, rfl, Nat.zero_le _, rfl, rfl, rfl, rfl, rfl, rfl, hE, hB, by simp, lim_replicate _, by omega, by simp [val]⟩ ?_
    clear hB hE hsz w1
    rintro m f w1 ⟨i, br, L, rfl, hi, hf0, hf1, hf5, hf6, hf13, hf14, hE, hB, hL, hLim, hbr, hv⟩
    rw [ui hf0, ui hf1, ui hf5, ui hf6, ui hf13, ui hf14]
    by_cases hlt : i < l1.length
    · obtain ⟨ad, rfl, hc1⟩ := (h1.ext hE).at (j := i) (by omega)
      have hx := hc1 i (by omega)
      have bx := h1.lim.getD i
      refine gg ?_
      refine R1_subm_u64 rfl rfl (by omega) ?_
      refine gg ?_
      by_cases hi2 : i < l2.length
      · obtain ⟨ad', rfl, hc2⟩ := (h2.ext hE).at (j := i) (by omega)
        have hy := hc2 i (by omega)
        have bY := h2.lim.getD i
        refine W_seq ?_
        refine gg ?_
        refine R1_subm_u64 rfl rfl (by omega) ?_
        refine gg ?_
        refine R1_storeI (one_of rfl) (.inl rfl) rfl rfl hB (by rw [cells_size]; omega) ?_
        intro w3 hB3 hC3 hs3
        rw [cells_set] at hB3
        refine gg ?_
        have hs := sub_limb (l1.getD i 0) (l2.getD i 0) br bx bY hbr
        refine ⟨_, ?_, i + 1, _, _, rfl, by omega, rfl, rfl, rfl, rfl, rfl, rfl, hC3.ext_of hE (fun b hb => by omega), hB3, by simpa using hL, hLim.set (Nat.mod_lt _ (by decide)), hs.2, ?_⟩
        · omega
        · rw [val_set_succ _ _ _ (by omega), val_take_succ _ _ (by omega), val_take_succ _ _ (by omega), Nat.pow_succ]
          exact sub_step _ _ _ _ _ _ _ _ _ hv hs.1
      · refine W_seq ?_
        refine gg ?_
        refine R1_storeI (one_of rfl) (.inl rfl) rfl rfl hB (by rw [cells_size]; omega) ?_
        intro w3 hB3 hC3 hs3
        rw [cells_set] at hB3
        refine gg ?_
        have hs := sub_limb0 (l1.getD i 0) br bx hbr
        refine ⟨_, ?_, i + 1, _, _, rfl, by omega, rfl, rfl, rfl, rfl, rfl, rfl, hC3.ext_of hE (fun b hb => by omega), hB3, by simpa using hL, hLim.set (Nat.mod_lt _ (by decide)), hs.2, ?_⟩
        · omega
        · rw [val_set_succ _ _ _ (by omega), val_take_succ l1 _ (by omega), val_take_ge l2 (i + 1) (by omega), Nat.pow_succ]
          rw [val_take_ge l2 i (by omega)] at hv
          exact sub_step0 _ _ _ _ _ _ _ _ hv hs.1
    · refine gg ?_
      have : i = l1.length := by omega
      subst this
      rw [val_take_ge _ _ (by omega), val_take_ge _ _ (by omega), val_take_ge _ _ (by omega)] at hv
      have b0 := val_lt L hLim
      have : br = 0 := by
        rcases Nat.lt_or_ge 0 br with h | h
        · have : B ^ l1.length ≤ br * B ^ l1.length := Nat.le_mul_of_pos_left _ h
          rw [hL] at b0; omega
        · omega
      subst this
      exact ⟨L, rfl, hE, hB, hL, hLim, by omega⟩
  · clear hB hE hsz w1
    rintro f w1 ⟨L, hf5, hE, hB, hL, hLim, hv⟩
    rw [ui hf5]
    refine gg ?_
    refine R1_call2 (trim_ok _ _ _ _ w1 (mag_of_blk hB hLim) hL (Nat.le_refl _) (by omega)) ?_
    rintro v w4 ⟨rfl, m, hm4, rfl, htr, hval⟩
    refine gg ?_
    exact ret1 (v := .slice _ _ _) rfl rfl ⟨hE, natV_trim (mag_of_blk hB hLim) hm4 (by omega) (by omega) htr hval (by omega)⟩
end Go.Proofs.Ytimjiaabaanbeaa
