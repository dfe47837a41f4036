/- The program's natural numbers: divideByLimb, shiftLeft, shiftRight, bits.Len32, bits.LeadingZeros32. -/
import Derived.Test.YtimjiaabaanbeaaNatc
namespace Go.Proofs.Ytimjiaabaanbeaa
open Go Go.Eng Go.Num Go.Proofs

set_option maxHeartbeats 8000000 in
theorem divideByLimb_ok (g n c b : Nat) (L : List Nat) (w : World) (hL : Lb w g L) (hlim : Lim L) (hn : L.length = n) (hl : n < 1099511627776) (hb : 0 < b) (hb2 : b < 4294967296) :
    Meets Try.prog 107 #[.slice (some ⟨g, 0, none⟩) n c, .int .u32 ((b : Nat) : Int)] w fun v w' => ∃ r L', v = .int .u32 ((r : Nat) : Int) ∧ Ch (fun q => q = g) w w' ∧ w'.heap.size = w.heap.size ∧ Lb w' g L' ∧ L'.length = n ∧ Lim L' ∧ val L = val L' * b + r ∧ r < b := by
  subst hn
  refine fn_W (n := 36) Try.func107 rfl rfl (by kernel_rfl) (by simp) ?_
  refine gg ?_
  refine W_seq ?_
  refine gg ?_
  refine W_loop (fun m f w' => ∃ r L', m ≤ L.length ∧ f 0 = .slice (some ⟨g, 0, none⟩) L.length c ∧ f 1 = .int .u32 ((b : Nat) : Int) ∧ f 5 = .int .u64 ((r : Nat) : Int) ∧ f 6 = .int .i64 ((m : Int) - 1) ∧ Ch (fun q => q = g) w w' ∧ w'.heap.size = w.heap.size ∧ Lb w' g L' ∧ L'.length = L.length ∧ Lim L' ∧ r < b ∧ (∀ j, j < m → L'.getD j 0 = L.getD j 0) ∧ val (L.drop m) = val (L'.drop m) * b + r)
    L.length ⟨0, L, Nat.le_refl _, rfl, rfl, rfl, rfl, Ch.refl _ _, rfl, hL, rfl, hlim, hb, fun _ _ => rfl, by simp [val]⟩ ?_
  rintro m f w1 ⟨r, L', hm, hf0, hf1, hf5, hf6, hC, hsz, hL', hlen, hlim', hr, hsame, hv⟩
  rw [ui hf0, ui hf1, ui hf5]
  rcases m with _ | j
  · rw [ui hf6]
    refine W_seq ?_
    refine gg ?_
    refine ret1 (v := .int _ _) rfl rfl ⟨r % 4294967296, L', rfl, hC, hsz, hL', hlen, hlim', ?_, ?_⟩
    · rw [Nat.mod_eq_of_lt (by omega)]; simpa using hv
    · rw [Nat.mod_eq_of_lt (by omega)]; exact hr
  · have e6 : (((j + 1 : Nat) : Int) - 1) = (j : Int) := by omega
    rw [e6] at hf6
    rw [ui hf6]
    clear hf0 hf1 hf5 hf6
    have hx := hL'.at (j := j) (by omega)
    have bx := hlim'.getD j
    have hso := shl_or r (L'.getD j 0) (by omega) bx
    have hds := div_step b r (L'.getD j 0) _ _ hb hr bx hv
    have hq : (r * 4294967296 + L'.getD j 0) / b < 4294967296 := hds.1
    refine W_seq ?_
    refine gg ?_
    refine R1_or_u64 rfl rfl (Nat.mod_lt _ (by decide)) (by omega) ?_
    rw [show r * 2 ^ (OfNat.ofNat 32) % 18446744073709551616 ||| L'.getD j 0 = r * 4294967296 + L'.getD j 0 from hso.1]
    refine gg ?_
    refine R1_quo_u64 rfl rfl hso.2 hb ?_
    refine gg ?_
    obtain ⟨sp, hB⟩ := hL'
    refine R1_storeI (one_of rfl) (.inl rfl) rfl rfl hB (by rw [Array.size_append, cells_size]; omega) ?_
    intro w3 hB3 hC3 hs3
    refine gg ?_
    refine R1_rem_u64 rfl rfl hb ?_
    refine gg ?_
    refine ⟨j, by omega, (r * 4294967296 + L'.getD j 0) % b, L'.set j ((r * 4294967296 + L'.getD j 0) / b % 4294967296), by omega, rfl, rfl, rfl, rfl, hC.trans hC3, hs3.trans hsz, Lb.set (by omega) hB3, by simpa using hlen, hlim'.set (Nat.mod_lt _ (by decide)), hds.2.1, fun q hq => by rw [Num.getD_set_ne (by omega)]; exact hsame q (by omega), ?_⟩
    rw [Nat.mod_eq_of_lt hq, drop_set _ _ _ (by omega), drop_cons L j (by omega), ← hsame j (by omega)]
    exact hds.2.2

set_option maxHeartbeats 8000000 in
theorem shiftLeft_ok (A : Option Addr) (n c s : Nat) (l : List Nat) (w : World) (h : Mag w A l) (hn : l.length = n) (hl : n < 1099511627776) (hs : s < 32) :
    Meets Try.prog 109 #[.slice A n c, .int .i64 ((s : Nat) : Int)] w fun v w' => ∃ L, v = .slice (some ⟨w.heap.size, 0, none⟩) (n + 1) (n + 1) ∧ Ext w w' ∧ Blk w' w.heap.size 54 (cells L) ∧ L.length = n + 1 ∧ Lim L ∧ val L = val l * 2 ^ s ∧ L.getD n 0 < 2 ^ s := by
  subst hn
  refine fn_W (n := 41) Try.func109 rfl rfl (by kernel_rfl) (by simp) ?_
  refine gg ?_
  refine R1_make sl_u32 (.inl rfl) rfl rfl (Nat.le_refl _) (by omega) (by omega) ?_
  intro w1 hB hE hsz
  rw [cells_made] at hB
  refine gg ?_
  refine W_seq ?_
  refine gg ?_
  refine W_loop (fun m f w' => ∃ i cy L, m = l.length - i ∧ i ≤ l.length ∧ f 0 = .slice A l.length c ∧ f 1 = .int .i64 ((s : Nat) : Int) ∧ f 5 = .slice (some ⟨w.heap.size, 0, none⟩) (l.length + 1) (l.length + 1) ∧ f 6 = .int .u64 ((cy : Nat) : Int) ∧ f 13 = .slice A l.length c ∧
    f 14 = .int .i64 ((l.length : Nat) : Int) ∧ f 15 = .int .i64 ((i : Nat) : Int) ∧ Ext w w' ∧ Blk w' w.heap.size 54 (cells L) ∧ L.length = l.length + 1 ∧ Lim L ∧ cy < 2 ^ s ∧ val (L.take i) + cy * B ^ i = val (l.take i) * 2 ^ s)
    l.length ⟨0, 0, _, rfl, Nat.zero_le _, rfl, rfl, rfl, rfl, rfl, rfl, rfl, hE, hB, by simp, lim_replicate _, Nat.two_pow_pos s, by simp [val]⟩ ?_
  clear hB hE hsz w1
  rintro m f w1 ⟨i, cy, L, rfl, hi, hf0, hf1, hf5, hf6, hf13, hf14, hf15, hE, hB, hL, hLim, hcy, hv⟩
  rw [ui hf0, ui hf1, ui hf5, ui hf6, ui hf13, ui hf14, ui hf15]
  clear hf0 hf1 hf5 hf6 hf13 hf14 hf15
  have hp : 2 ^ s ≤ 2147483648 := Nat.pow_le_pow_right (n := 2) (by decide) (show s ≤ 31 by omega)
  by_cases hlt : i < l.length
  · obtain ⟨ad, rfl, hc⟩ := (h.ext hE).at (j := i) (by omega)
    have hx := hc i (by omega)
    have bx := h.lim.getD i
    have hso := shl_add s cy (l.getD i 0) hs hcy bx
    refine gg ?_
    refine R1_shl_u64 rfl rfl (by omega) ?_
    refine gg ?_
    refine R1_or_u64 rfl rfl (by omega) (Nat.mod_lt _ (by decide)) ?_
    rw [hso.1]
    refine gg ?_
    refine R1_storeI (one_of rfl) (.inl rfl) rfl rfl hB (by rw [cells_size]; omega) ?_
    intro w3 hB3 hC3 hs3
    rw [cells_set] at hB3
    refine gg ?_
    refine ⟨_, ?_, i + 1, _, _, rfl, by omega, rfl, rfl, rfl, rfl, rfl, rfl, rfl, hC3.ext_of hE (fun b hb => by omega), hB3, by simpa using hL, hLim.set (Nat.mod_lt _ (by decide)), hso.2.2, ?_⟩
    · omega
    · rw [val_set_succ _ _ _ (by omega), val_take_succ l i (by omega), Nat.pow_succ]
      exact shl_step _ _ _ _ _ _ hv
  · refine gg ?_
    have : i = l.length := by omega
    subst this
    refine R1_storeI (one_of rfl) (.inl rfl) rfl rfl hB (by rw [cells_size]; omega) ?_
    intro w3 hB3 hC3 hs3
    rw [cells_set] at hB3
    refine gg ?_
    refine ret1 (v := .slice _ _ _) rfl rfl ⟨_, rfl, hC3.ext_of hE (fun b hb => by omega), hB3, by simpa using hL, hLim.set (Nat.mod_lt _ (by decide)), ?_, ?_⟩
    · have e : L.set l.length (cy % 4294967296) = (L.set l.length (cy % 4294967296)).take (l.length + 1) := by rw [List.take_of_length_le]; simp; omega
      rw [e, val_set_succ _ _ _ (by omega), Nat.mod_eq_of_lt (by omega), Nat.mul_comm, hv, val_take_all]
    · have hlt' : l.length < L.length := by omega
      rw [Nat.mod_eq_of_lt (by omega)]
      simpa [List.getD, hlt'] using hcy
end Go.Proofs.Ytimjiaabaanbeaa
