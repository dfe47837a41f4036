/- The program's natural numbers: divideStep. -/
import Derived.Test.YtimjiaabaanbeaaNate
import Derived.Test.YtimjiaabaanbeaaKnu
namespace Go.Proofs.Ytimjiaabaanbeaa
open Go Go.Eng Go.Num Go.Proofs

theorem top_of (R V : List Nat) (o k : Nat) (hR : Lim R) (hV : Lim V) (hn : V.length = k + 2) (ho : o + k + 3 ≤ R.length) (hnorm : 2147483648 ≤ V.getD (k + 1) 0) (hlt : val (seg R o (k + 3)) < B * val V) :
    Top (B ^ k) (val (V.take k)) (V.getD k 0) (V.getD (k + 1) 0) (val (seg R o k)) (R.getD (o + k) 0) (R.getD (o + (k + 1)) 0) (R.getD (o + (k + 2)) 0) (val (seg R o (k + 3))) (val V) where
  hV := by
    rw [← val_take_all V, hn, val_take_succ _ _ (by omega), val_take_succ _ _ (by omega), Nat.pow_succ, Nat.mul_add, Nat.mul_assoc]; omega
  hU := by
    rw [val_seg_succ _ _ _ (by omega), val_seg_succ _ _ _ (by omega), val_seg_succ _ _ _ (by omega)]
    simp only [Nat.pow_succ, Nat.mul_add, Nat.mul_assoc]; omega
  dpos := Nat.pow_pos (by decide)
  hvl := val_take_lt hV k
  hul := val_seg_lt hR o k
  hv2 := hV.getD k
  hv1 := hV.getD (k + 1)
  hu3 := hR.getD _
  hu2 := hR.getD _
  hu1 := hR.getD _
  norm := by unfold B; omega
  lt := hlt

set_option maxHeartbeats 16000000 in
theorem divideStep_ok (g o k n nu cu cv : Nat) (av : Addr) (R V : List Nat) (w : World) (hR : Lb w g R) (hlR : Lim R) (hV : Mag w (some av) V) (hne : av.block ≠ g) (hk : V.length = k + 2) (hn : n = k + 2) (hnu : nu = k + 3) (ho : o + k + 3 ≤ R.length) (hRl : R.length < 2199023255552)
    (hnorm : 2147483648 ≤ V.getD (k + 1) 0) (hlt : val (seg R o (k + 3)) < B * val V) :
    Meets Try.prog 110 #[.slice (some ⟨g, 0 + o * 1, none⟩) nu cu, .slice (some av) n cv] w fun v w' => ∃ q R', v = .int .u32 ((q : Nat) : Int) ∧ q < 4294967296 ∧ Ch (fun b => b = g) w w' ∧ w'.heap.size = w.heap.size ∧ Lb w' g R' ∧ R'.length = R.length ∧ Lim R' ∧
      (∀ j, j < o ∨ o + k + 3 ≤ j → R'.getD j 0 = R.getD j 0) ∧ val (seg R o (k + 3)) = q * val V + val (seg R' o (k + 3)) ∧ val (seg R' o (k + 3)) < val V := by
  subst hn hnu
  have hT := top_of R V o k hlR hV.lim hk ho hnorm hlt
  have bu1 := hlR.getD (o + (k + 2))
  have bu2 := hlR.getD (o + (k + 1))
  have bu3 := hlR.getD (o + k)
  have bv1 := hV.lim.getD (k + 1)
  have bv2 := hV.lim.getD k
  have hso := shl_or _ _ bu1 bu2
  have hst := hT.start
  have hmod := Nat.mod_lt (R.getD (o + (k + 2)) 0 * B + R.getD (o + (k + 1)) 0) hT.v1pos
  refine fn_W (n := 171) Try.func110 rfl rfl (by kernel_rfl) (by simp) ?_
  refine gg ?_
  refine W_seqD [(0, 3), (1, 3), (2, 3), (3, 0), (4, 3), (5, 3), (6, 3), (7, 3), (8, 3), (9, 3), (10, 0), (11, 3), (12, 3), (13, 3)] mixed (by kernel_rfl) (fun w1 hE1 hh1 => ?_)
  have hR1 := hR.ext hE1
  have hx := hR1.at (j := o + (k + 2)) (by omega)
  have hy := hR1.at (j := o + (k + 1)) (by omega)
  rw [← idx2] at hx hy
  refine gg ?_
  refine R1_or_u64 rfl rfl (Nat.mod_lt _ (by decide)) (by omega) ?_
  rw [show R.getD (o + (k + 2)) 0 * 2 ^ (OfNat.ofNat 32) % 18446744073709551616 ||| R.getD (o + (k + 1)) 0 = R.getD (o + (k + 2)) 0 * 4294967296 + R.getD (o + (k + 1)) 0 from hso.1]
  refine gg ?_
  refine W_seqD [(0, 3), (1, 3), (2, 3), (3, 3), (4, 3), (5, 0), (6, 3), (7, 3), (8, 3), (9, 3), (10, 3), (11, 3), (12, 3), (13, 0), (14, 3), (15, 3), (16, 3), (17, 3)] mixed (by kernel_rfl) (fun w2 hE2 hh2 => ?_)
  have hV2 := hV.ext (hE1.trans hE2)
  obtain ⟨_, e0, hc⟩ := hV2.at (j := k + 1) (by omega)
  injection e0 with e0
  subst e0
  have hz := hc (k + 1) (by omega)
  refine gg ?_
  refine R1_quo_u64 rfl rfl hso.2 hT.v1pos ?_
  refine gg ?_
  refine R1_rem_u64 rfl rfl hT.v1pos ?_
  refine gg ?_
  have hw2 : Ch (fun b => b = g) w w2 := (hE1.trans hE2).ch
  have hs2 : w2.heap.size = w.heap.size := by rw [hh2, hh1]
  refine W_seqM (fun f w' => ∃ gs, f 0 = .slice (some ⟨g, 0 + o * 1, none⟩) (k + 3) cu ∧ f 1 = .slice (some av) (k + 2) cv ∧ f 5 = .int .i64 ((k + 2 : Nat) : Int) ∧ f 7 = .int .u64 ((gs : Nat) : Int) ∧
    Ch (fun b => b = g) w w' ∧ w'.heap.size = w.heap.size ∧ Lb w' g R ∧ Mag w' (some av) V ∧ gs < 4294967296 ∧ val (seg R o (k + 3)) < (gs + 1) * val V ∧ gs * val V < val (seg R o (k + 3)) + val V) ?_ ?_
  · refine W_block ?_
    refine W_loop (fun m f w' => ∃ r, f 0 = .slice (some ⟨g, 0 + o * 1, none⟩) (k + 3) cu ∧ f 1 = .slice (some av) (k + 2) cv ∧ f 5 = .int .i64 ((k + 2 : Nat) : Int) ∧ f 7 = .int .u64 ((m : Nat) : Int) ∧ f 8 = .int .u64 ((r : Nat) : Int) ∧
      Ch (fun b => b = g) w w' ∧ w'.heap.size = w.heap.size ∧ Lb w' g R ∧ Mag w' (some av) V ∧ r < 4294967296 ∧ m ≤ 4294967297 ∧ m * V.getD (k + 1) 0 + r = R.getD (o + (k + 2)) 0 * B + R.getD (o + (k + 1)) 0 ∧ val (seg R o (k + 3)) < (m + 1) * val V)
      _ ⟨_, rfl, rfl, rfl, rfl, rfl, hw2, hs2, hR.ext (hE1.trans hE2), hV2, Nat.lt_trans hmod bv1, hst.2.1, hst.2.2, hst.1⟩ ?_
    clear hc hz hV2 hE2 hx hy hR1 hE1 hmod hst hso hw2 hs2
    rintro m f w3 ⟨r, hf0, hf1, hf5, hf7, hf8, hC, hsz, hL, hM, hr, hm, heq, hup⟩
    rw [ui hf0, ui hf1, ui hf5, ui hf7, ui hf8]
    clear hf0 hf1 hf5 hf7 hf8
    refine W_seqM (fun f w' => f 0 = .slice (some ⟨g, 0 + o * 1, none⟩) (k + 3) cu ∧ f 1 = .slice (some av) (k + 2) cv ∧ f 5 = .int .i64 ((k + 2 : Nat) : Int) ∧ f 7 = .int .u64 ((m : Nat) : Int) ∧ f 8 = .int .u64 ((r : Nat) : Int) ∧
      Ch (fun b => b = g) w w' ∧ w'.heap.size = w.heap.size ∧ Lb w' g R ∧ Mag w' (some av) V ∧ val (seg R o (k + 3)) < m * val V) ?_ ?_
    · refine W_seqD [(0, 3), (1, 3), (2, 3), (3, 3), (4, 3), (5, 3), (6, 3), (7, 3), (8, 3), (9, 0), (10, 3), (11, 3), (12, 3), (13, 3), (14, 3), (15, 3), (16, 3), (17, 3), (18, 0), (19, 3), (20, 3), (21, 3), (22, 3)] mixed (by kernel_rfl) (fun w4 hE4 hh4 => ?_)
      have hC4 : Ch (fun b => b = g) w w4 := hC.trans hE4.ch
      have hs4 : w4.heap.size = w.heap.size := by rw [hh4, hsz]
      have hL4 := hL.ext hE4
      have hM4 := hM.ext hE4
      by_cases hbig : m / 4294967296 = 0
      · obtain ⟨_, e0, hc⟩ := hM4.at (j := k) (by omega)
        injection e0 with e0
        subst e0
        have hz := hc k (by omega)
        have hx := hL4.at (j := o + k) (by omega)
        rw [← idx2] at hx
        have hmv := mul_small m _ (by omega) bv2
        have hso := shl_or r _ hr bu3
        refine gg ?_
        refine R1_mul_u64 rfl rfl (by omega) ?_
        refine gg ?_
        refine R1_or_u64 rfl rfl (Nat.mod_lt _ (by decide)) (by omega) ?_
        rw [show r * 2 ^ (OfNat.ofNat 32) % 18446744073709551616 ||| R.getD (o + k) 0 = r * 4294967296 + R.getD (o + k) 0 from hso.1]
        by_cases hgt : r * 4294967296 + R.getD (o + k) 0 < m * V.getD k 0
        · refine gg ?_
          exact ⟨rfl, rfl, rfl, rfl, rfl, hC4, hs4, hL4, hM4, hT.second heq hgt⟩
        · refine gg ?_
          exact ⟨m, rfl, rfl, rfl, rfl, hC4, hs4, hL4, hM4, by omega, hup, hT.stop heq (show m < B by unfold B; omega) (show _ ≤ r * 4294967296 + _ by omega)⟩
      · refine gg ?_
        exact ⟨rfl, rfl, rfl, rfl, rfl, hC4, hs4, hL4, hM4, hT.big (show B ≤ m by unfold B; omega)⟩
    · clear hC hsz hL hM f w3
      rintro f w3 ⟨hf0, hf1, hf5, hf7, hf8, hC, hsz, hL, hM, hup⟩
      rw [ui hf0, ui hf1, ui hf5, ui hf7, ui hf8]
      clear hf0 hf1 hf5 hf7 hf8
      have hm0 : 0 < m := by
        rcases Nat.eq_zero_or_pos m with h | h
        · subst h; simp at hup
        · exact h
      obtain ⟨j, rfl⟩ : ∃ j, m = j + 1 := ⟨m - 1, by omega⟩
      have heq' : j * V.getD (k + 1) 0 + (r + V.getD (k + 1) 0) = R.getD (o + (k + 2)) 0 * B + R.getD (o + (k + 1)) 0 := by rw [← heq, Nat.add_mul]; omega
      obtain ⟨_, e0, hc⟩ := hM.at (j := k + 1) (by omega)
      injection e0 with e0
      subst e0
      have hz := hc (k + 1) (by omega)
      by_cases hbrk : (r + V.getD (k + 1) 0) / 4294967296 = 0
      · refine gg ?_
        exact ⟨j, by omega, _, rfl, rfl, rfl, rfl, rfl, hC, hsz, hL, hM, by omega, by omega, heq', hup⟩
      · refine gg ?_
        have hb := hT.brk heq' (show B ≤ r + V.getD (k + 1) 0 by unfold B; omega)
        exact ⟨j, rfl, rfl, rfl, rfl, hC, hsz, hL, hM, hb.1, hup, hT.stop heq' hb.1 hb.2⟩
  · clear hc hz hV2 hE2 hx hy hR1 hE1 hmod hst hso hw2 hs2
    rintro f w3 ⟨gs, hf0, hf1, hf5, hf7, hC, hsz, hL, hM, hgs, hup, hlo⟩
    rw [ui hf0, ui hf1, ui hf5, ui hf7]
    clear hf0 hf1 hf5 hf7
    refine gg ?_
    refine W_seqM (fun f w' => ∃ cy br R', f 0 = .slice (some ⟨g, 0 + o * 1, none⟩) (k + 3) cu ∧ f 1 = .slice (some av) (k + 2) cv ∧ f 5 = .int .i64 ((k + 2 : Nat) : Int) ∧ f 7 = .int .u64 ((gs : Nat) : Int) ∧ f 9 = .int .u64 ((cy : Nat) : Int) ∧ f 10 = .int .u64 ((br : Nat) : Int) ∧
      Ch (fun b => b = g) w w' ∧ w'.heap.size = w.heap.size ∧ Lb w' g R' ∧ Mag w' (some av) V ∧ R'.length = R.length ∧ Lim R' ∧ cy < 4294967296 ∧ br ≤ 1 ∧
      val (seg R' o (k + 2)) + gs * val V = val (seg R o (k + 2)) + (cy + br) * B ^ (k + 2) ∧ (∀ q, q < o ∨ o + (k + 2) ≤ q → R'.getD q 0 = R.getD q 0)) ?_ ?_
    · refine gg ?_
      refine W_loop (fun m f w' => ∃ i cy br R', m = k + 2 - i ∧ i ≤ k + 2 ∧ f 0 = .slice (some ⟨g, 0 + o * 1, none⟩) (k + 3) cu ∧ f 1 = .slice (some av) (k + 2) cv ∧ f 5 = .int .i64 ((k + 2 : Nat) : Int) ∧ f 7 = .int .u64 ((gs : Nat) : Int) ∧ f 9 = .int .u64 ((cy : Nat) : Int) ∧ f 10 = .int .u64 ((br : Nat) : Int) ∧ f 82 = .int .i64 ((k + 2 : Nat) : Int) ∧ f 83 = .int .i64 ((i : Nat) : Int) ∧
        Ch (fun b => b = g) w w' ∧ w'.heap.size = w.heap.size ∧ Lb w' g R' ∧ Mag w' (some av) V ∧ R'.length = R.length ∧ Lim R' ∧ cy < 4294967296 ∧ br ≤ 1 ∧
        val (seg R' o i) + gs * val (V.take i) = val (seg R o i) + (cy + br) * B ^ i ∧ (∀ q, q < o ∨ o + i ≤ q → R'.getD q 0 = R.getD q 0))
        (k + 2) ⟨0, 0, 0, R, rfl, Nat.zero_le _, rfl, rfl, rfl, rfl, rfl, rfl, rfl, rfl, hC, hsz, hL, hM, rfl, hlR, by omega, by omega, by simp [seg_zero, val], fun _ _ => rfl⟩ ?_
      clear hC hsz hL hM f w3
      rintro m f w3 ⟨i, cy, br, R', rfl, hi, hf0, hf1, hf5, hf7, hf9, hf10, hf82, hf83, hC, hsz, hL, hM, hlen, hlim, hcy, hbr, hv, hsame⟩
      rw [ui hf0, ui hf1, ui hf5, ui hf7, ui hf9, ui hf10, ui hf82, ui hf83]
      clear hf0 hf1 hf5 hf7 hf9 hf10 hf82 hf83
      by_cases hik : i < k + 2
      · obtain ⟨_, e0, hc⟩ := hM.at (j := i) (by omega)
        injection e0 with e0
        subst e0
        have hz := hc i (by omega)
        have hx := hL.at (j := o + i) (by omega)
        rw [← idx2, hsame (o + i) (by omega)] at hx
        have bu := hlR.getD (o + i)
        have bv := hV.lim.getD i
        have hgv := mul_small gs _ hgs bv
        have hcl : (cy + gs * V.getD i 0) % 4294967296 < 4294967296 := Nat.mod_lt _ (by decide)
        refine gg ?_
        refine R1_mul_u64 rfl rfl (by omega) ?_
        refine gg ?_
        refine R1_subm_u64 rfl rfl (by omega) ?_
        refine gg ?_
        refine R1_subm_u64 rfl rfl (by omega) ?_
        refine gg ?_
        obtain ⟨sp, hB⟩ := hL
        refine R1_storeI (one_of rfl) (.inl rfl) rfl rfl hB (by rw [Array.size_append, cells_size]; omega) ?_
        intro w5 hB5 hC5 hs5
        rw [idx2] at hB5
        refine gg ?_
        have hs := msub_limb (R.getD (o + i) 0) _ br bu hcl hbr
        refine ⟨_, ?_, i + 1, _, _, _, rfl, by omega, rfl, rfl, rfl, rfl, rfl, rfl, rfl, rfl, hC.trans hC5, hs5.trans hsz, Lb.set (by omega) hB5, hM.ch hC5 (fun ad e => by injection e with e; subst e; exact hne), by simpa using hlen, hlim.set (Nat.mod_lt _ (by decide)), by omega, hs.2, ?_, fun q hq => by rw [Num.getD_set_ne (by omega)]; exact hsame q (by omega)⟩
        · omega
        · rw [val_seg_succ _ _ _ (by simp; omega), val_seg_succ _ _ _ (by omega), getD_set_self (by omega), val_take_succ _ _ (by omega), Nat.mul_add, Nat.mul_left_comm gs, Nat.pow_succ]
          rw [seg_congr (R := R'.set (o + i) _) (R' := R') o i (by simp) (fun q _ h2 => Num.getD_set_ne (by omega))]
          exact msub_step _ _ _ _ _ _ _ _ _ _ _ hv hs.1
      · refine gg ?_
        have : i = k + 2 := by omega
        subst this
        rw [← hk, val_take_all, hk] at hv
        exact ⟨cy, br, R', rfl, rfl, rfl, rfl, rfl, rfl, hC, hsz, hL, hM, hlen, hlim, hcy, hbr, hv, hsame⟩
    · clear hC hsz hL hM f w3
      rintro f w3 ⟨cy, br, R', hf0, hf1, hf5, hf7, hf9, hf10, hC, hsz, hL, hM, hlen, hlim, hcy, hbr, hv, hsame⟩
      rw [ui hf0, ui hf1, ui hf5, ui hf7, ui hf9, ui hf10]
      clear hf0 hf1 hf5 hf7 hf9 hf10
      have hx := hL.at (j := o + (k + 2)) (by omega)
      rw [← idx2, hsame (o + (k + 2)) (by omega)] at hx
      refine gg ?_
      refine R1_subm_u64 rfl rfl (by omega) ?_
      refine gg ?_
      refine R1_subm_u64 rfl rfl (by omega) ?_
      refine gg ?_
      obtain ⟨sp, hB⟩ := hL
      refine R1_storeI (one_of rfl) (.inl rfl) rfl rfl hB (by rw [Array.size_append, cells_size]; omega) ?_
      intro w5 hB5 hC5 hs5
      rw [idx2] at hB5
      have hM5 := hM.ch hC5 (fun ad e => by injection e with e; subst e; exact hne)
      have hL5 := Lb.set (L := R') (by omega) hB5
      have hU := val_seg_succ R o (k + 2) (by omega)
      have hseg : ∀ x, val (seg (R'.set (o + (k + 2)) x) o (k + 3)) = val (seg R' o (k + 2)) + B ^ (k + 2) * x := fun x => by
        rw [val_seg_succ _ _ _ (by simp; omega), getD_set_self (by omega), seg_congr (R := R'.set (o + (k + 2)) x) (R' := R') o (k + 2) (by simp) (fun q _ h2 => Num.getD_set_ne (by omega))]
      generalize hx5 : ((R.getD (o + (k + 2)) 0 + (18446744073709551616 - cy)) % 18446744073709551616 + (18446744073709551616 - br)) % 18446744073709551616 = t at *
      have hx6 : t % 4294967296 + (cy + br) = R.getD (o + (k + 2)) 0 ∧ t / 9223372036854775808 = 0 ∨ R.getD (o + (k + 2)) 0 < cy + br ∧ t % 4294967296 + (cy + br) = R.getD (o + (k + 2)) 0 + 4294967296 ∧ t / 9223372036854775808 = 1 := by omega
      clear hx5
      have hR5 : Lim (R'.set (o + (k + 2)) (t % 4294967296)) := hlim.set (Nat.mod_lt _ (by decide))
      refine gg ?_
      rcases hx6 with ⟨hx6, ht0⟩ | ⟨hneg, hx6, ht0⟩
      · refine W_seq ?_
        refine gg ?_
        have hf := fin_ok (a := R.getD (o + (k + 2)) 0) hv hx6 (by rw [← hU]; exact hup)
        refine ret1 (v := .int _ _) rfl rfl ⟨gs % 4294967296, _, rfl, Nat.mod_lt _ (by decide), hC.trans hC5, hs5.trans hsz, hL5, by simpa using hlen, hR5, fun j hj => by rw [Num.getD_set_ne (by omega)]; exact hsame j (by omega), ?_, ?_⟩
        · rw [Nat.mod_eq_of_lt hgs, hseg, hU]; exact hf.2.1
        · rw [hseg]; exact hf.2.2
      · refine W_seq ?_
        refine gg ?_
        have hg0 : 0 < gs := by
          rcases Nat.eq_zero_or_pos gs with h | h
          · exfalso
            subst h
            rw [Nat.zero_mul, Nat.add_zero] at hv
            have := val_seg_lt hlim o (k + 2)
            have h2 : 1 * B ^ (k + 2) ≤ (cy + br) * B ^ (k + 2) := Nat.mul_le_mul_right _ (by omega)
            omega
          · exact h
        have hVlt : val V < B ^ (k + 2) := by have := val_lt V hV.lim; rw [hk] at this; exact this
        refine W_seqM (fun f w' => ∃ cy R6, f 0 = .slice (some ⟨g, 0 + o * 1, none⟩) (k + 3) cu ∧ f 5 = .int .i64 ((k + 2 : Nat) : Int) ∧ f 7 = .int .u64 ((gs : Nat) : Int) ∧ f 9 = .int .u64 ((cy : Nat) : Int) ∧
          Ch (fun b => b = g) w w' ∧ w'.heap.size = w.heap.size ∧ Lb w' g R6 ∧ R6.length = R.length ∧ Lim R6 ∧ cy ≤ 1 ∧
          val (seg R6 o (k + 2)) + cy * B ^ (k + 2) = val (seg R' o (k + 2)) + val V ∧ R6.getD (o + (k + 2)) 0 = t % 4294967296 ∧ (∀ q, q < o ∨ o + (k + 3) ≤ q → R6.getD q 0 = R.getD q 0)) ?_ ?_
        · refine gg ?_
          refine W_loop (fun m f w' => ∃ i cy R6, m = k + 2 - i ∧ i ≤ k + 2 ∧ f 0 = .slice (some ⟨g, 0 + o * 1, none⟩) (k + 3) cu ∧ f 1 = .slice (some av) (k + 2) cv ∧ f 5 = .int .i64 ((k + 2 : Nat) : Int) ∧ f 7 = .int .u64 ((gs : Nat) : Int) ∧ f 9 = .int .u64 ((cy : Nat) : Int) ∧ f 135 = .int .i64 ((k + 2 : Nat) : Int) ∧ f 136 = .int .i64 ((i : Nat) : Int) ∧
            Ch (fun b => b = g) w w' ∧ w'.heap.size = w.heap.size ∧ Lb w' g R6 ∧ Mag w' (some av) V ∧ R6.length = R.length ∧ Lim R6 ∧ cy ≤ 1 ∧
            val (seg R6 o i) + cy * B ^ i = val (seg R' o i) + val (V.take i) ∧ (∀ q, q < o ∨ o + i ≤ q → R6.getD q 0 = (R'.set (o + (k + 2)) (t % 4294967296)).getD q 0))
            (k + 2) ⟨0, 0, _, rfl, Nat.zero_le _, rfl, rfl, rfl, rfl, rfl, rfl, rfl, hC.trans hC5, hs5.trans hsz, hL5, hM5, by simpa using hlen, hR5, by omega, by simp [seg_zero, val], fun _ _ => rfl⟩ ?_
          clear hB hB5 hL5 hM5 hs5 hC5 w5 hx f
          rintro m f w6 ⟨i, cy', R6, rfl, hi, hf0, hf1, hf5, hf7, hf9, hf135, hf136, hC6, hs6, hL6, hM6, hlen6, hlim6, hcy6, hv6, hsame6⟩
          rw [ui hf0, ui hf1, ui hf5, ui hf7, ui hf9, ui hf135, ui hf136]
          clear hf0 hf1 hf5 hf7 hf9 hf135 hf136
          by_cases hik : i < k + 2
          · refine gg ?_
            refine W_seqD [(0, 3), (1, 3), (2, 3), (3, 3), (4, 0), (5, 3), (6, 3), (7, 3), (8, 3), (9, 0), (10, 3), (11, 3), (12, 3), (13, 3)] mixed (by kernel_rfl) (fun w7 hE7 hh7 => ?_)
            have hM7 := hM6.ext hE7
            obtain ⟨_, e0, hc⟩ := hM7.at (j := i) (by omega)
            injection e0 with e0
            subst e0
            have hz := hc i (by omega)
            have hL7 := hL6.ext hE7
            have hx := hL7.at (j := o + i) (by omega)
            have hRi : R6.getD (o + i) 0 = R'.getD (o + i) 0 := by rw [hsame6 (o + i) (by omega), Num.getD_set_ne (by omega)]
            rw [← idx2, hRi] at hx
            have bu := hlim.getD (o + i)
            have bv := hV.lim.getD i
            refine gg ?_
            obtain ⟨sp7, hB7⟩ := hL7
            refine R1_storeI (one_of rfl) (.inl rfl) rfl rfl hB7 (by rw [Array.size_append, cells_size]; omega) ?_
            intro w8 hB8 hC8 hs8
            rw [idx2] at hB8
            refine gg ?_
            refine ⟨_, ?_, i + 1, _, _, rfl, by omega, rfl, rfl, rfl, rfl, rfl, rfl, rfl, (hC6.trans hE7.ch).trans hC8, by rw [hs8, hh7, hs6], Lb.set (by omega) hB8, hM7.ch hC8 (fun ad e => by injection e with e; subst e; exact hne), by simpa using hlen6, hlim6.set (Nat.mod_lt _ (by decide)), by omega, ?_, fun q hq => by rw [Num.getD_set_ne (by omega)]; exact hsame6 q (by omega)⟩
            · omega
            · rw [val_seg_succ _ _ _ (by simp; omega), val_seg_succ _ _ _ (by omega), getD_set_self (by omega), val_take_succ _ _ (by omega), Nat.pow_succ]
              rw [seg_congr (R := R6.set (o + i) _) (R' := R6) o i (by simp) (fun q _ h2 => Num.getD_set_ne (by omega))]
              exact (add_step _ _ _ _ _ _ hv6).trans (by omega)
          · refine gg ?_
            have : i = k + 2 := by omega
            subst this
            rw [← hk, val_take_all, hk] at hv6
            exact ⟨cy', R6, rfl, rfl, rfl, rfl, hC6, hs6, hL6, hlen6, hlim6, hcy6, hv6, by rw [hsame6 _ (by omega), getD_set_self (by omega)], fun q hq => by rw [hsame6 q (by omega), Num.getD_set_ne (by omega)]; exact hsame q (by omega)⟩
        · clear hB hB5 hL5 hM5 hs5 hC5 w5 hx f
          rintro f w6 ⟨cy', R6, hf0, hf5, hf7, hf9, hC6, hs6, hL6, hlen6, hlim6, hcy6, hv6, htop, hsame6⟩
          rw [ui hf0, ui hf5, ui hf7, ui hf9]
          clear hf0 hf5 hf7 hf9
          have hx := hL6.at (j := o + (k + 2)) (by omega)
          rw [← idx2, htop] at hx
          refine gg ?_
          refine R1_addm_u32 rfl rfl ?_
          refine gg ?_
          obtain ⟨sp6, hB6⟩ := hL6
          refine R1_storeI (one_of rfl) (.inl rfl) rfl rfl hB6 (by rw [Array.size_append, cells_size]; omega) ?_
          intro w8 hB8 hC8 hs8
          rw [idx2] at hB8
          refine gg ?_
          have hseg6 : ∀ x, val (seg (R6.set (o + (k + 2)) x) o (k + 3)) = val (seg R6 o (k + 2)) + B ^ (k + 2) * x := fun x => by
            rw [val_seg_succ _ _ _ (by simp; omega), getD_set_self (by omega), seg_congr (R := R6.set (o + (k + 2)) x) (R' := R6) o (k + 2) (by simp) (fun q _ h2 => Num.getD_set_ne (by omega))]
          have hlimF : Lim (R6.set (o + (k + 2)) ((t % 4294967296 + cy' % 4294967296) % 4294967296)) := hlim6.set (Nat.mod_lt _ (by decide))
          have hSlt := val_seg_lt hlimF o (k + 3)
          have hdlt := val_seg_lt hR5 o (k + 3)
          rw [hseg6, Nat.pow_succ] at hSlt
          rw [hseg, Nat.pow_succ] at hdlt
          have hf := fin_back (a := R.getD (o + (k + 2)) 0) (x := t % 4294967296) hg0 hv hx6 (by rw [← hU]; exact hlo) hSlt hdlt hVlt ⟨(t % 4294967296 + cy') / 4294967296, by
            have e := add_step1 (B ^ (k + 2)) (val (seg R6 o (k + 2))) cy' _ (t % 4294967296) hv6
            rw [Nat.mod_eq_of_lt (show cy' < 4294967296 by omega), Nat.add_comm (t % 4294967296) cy']
            exact e.trans (by omega)⟩
          refine ret1 (v := .int _ _) rfl rfl ⟨(gs - 1) % 4294967296, _, rfl, Nat.mod_lt _ (by decide), hC6.trans hC8, hs8.trans hs6, Lb.set (by omega) hB8, by simpa using hlen6, hlimF, fun j hj => by rw [Num.getD_set_ne (by omega)]; exact hsame6 j (by omega), ?_, ?_⟩
          · rw [Nat.mod_eq_of_lt (show gs - 1 < 4294967296 by omega), hseg6, hU]; exact hf.1
          · rw [hseg6]; exact hf.2
end Go.Proofs.Ytimjiaabaanbeaa
