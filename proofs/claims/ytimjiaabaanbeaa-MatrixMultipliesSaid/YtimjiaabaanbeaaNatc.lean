/- The program's natural numbers: mulNat. -/
import Derived.Test.YtimjiaabaanbeaaNatb
namespace Go.Proofs.Ytimjiaabaanbeaa
open Go Go.Eng Go.Num Go.Proofs

theorem idx2 (i j : Nat) : 0 + i * 1 + j * 1 = 0 + (i + j) * 1 := by omega

set_option maxHeartbeats 8000000 in
theorem mulNat_ok (A1 A2 : Option Addr) (n1 n2 c1 c2 : Nat) (l1 l2 : List Nat) (w : World) (h1 : Mag w A1 l1) (h2 : Mag w A2 l2) (hn1 : l1.length = n1) (hn2 : l2.length = n2) (hl1 : n1 < 1099511627776) (hl2 : n2 < 1099511627776) :
    Meets Try.prog 84 #[.slice A1 n1 c1, .slice A2 n2 c2] w fun v w' => Ext w w' ∧ NatV w' v (val l1 * val l2) := by
  subst hn1 hn2
  refine fn_W (n := 86) Try.func84 rfl rfl (by kernel_rfl) (by simp) ?_
  refine gg ?_
  by_cases hsm : l1.length ≤ 1 ∧ l2.length ≤ 1
  · obtain ⟨s1, s2⟩ := hsm
    have v1 := val_one l1 h1.lim s1
    have v2 := val_one l2 h2.lim s2
    have v3 := mul_small _ _ v1 v2
    refine W_seq ?_
    refine gg ?_
    refine R1_call2 (word_ok _ _ _ _ w h1 rfl (by omega)) ?_
    rintro _ w1 ⟨rfl, rfl⟩
    refine gg ?_
    refine R1_call2 (word_ok _ _ _ _ w h2 rfl (by omega)) ?_
    rintro _ w1 ⟨rfl, rfl⟩
    refine gg ?_
    refine R1_mul_u64 rfl rfl (by omega) ?_
    refine gg ?_
    refine R1_call2 (fromWord_ok _ w (by omega)) ?_
    rintro v w1 ⟨hE, hV⟩
    refine gg ?_
    exact ret1 (v := v) rfl rfl ⟨hE, hV⟩
  · refine W_seqM (fun f w' => w = w' ∧ f 0 = .slice A1 l1.length c1 ∧ f 1 = .slice A2 l2.length c2) ?_ ?_
    · by_cases s1 : l1.length ≤ 1
      · refine gg ?_
        exact ⟨rfl, rfl, rfl⟩
      · refine gg ?_
        exact ⟨rfl, rfl, rfl⟩
    rintro f w' ⟨rfl, hf0, hf1⟩
    rw [ui hf0, ui hf1]
    clear hf0 hf1 hsm
    refine gg ?_
    refine R1_make sl_u32 (.inl rfl) rfl rfl (Nat.le_refl _) (by omega) (by omega) ?_
    intro w1 hB hE hsz
    rw [cells_made] at hB
    refine gg ?_
    refine W_seqM (fun f w' => ∃ L, f 5 = .slice (some ⟨w.heap.size, 0, none⟩) (l1.length + l2.length) (l1.length + l2.length) ∧ Ext w w' ∧ Blk w' w.heap.size 54 (cells L) ∧ L.length = l1.length + l2.length ∧ Lim L ∧ val L = val l1 * val l2) ?_ ?_
    · refine gg ?_
      refine W_loop (fun m f w' => ∃ i L, m = l1.length - i ∧ i ≤ l1.length ∧ f 1 = .slice A2 l2.length c2 ∧ f 5 = .slice (some ⟨w.heap.size, 0, none⟩) (l1.length + l2.length) (l1.length + l2.length) ∧ f 32 = .slice A1 l1.length c1 ∧
        f 33 = .int .i64 ((l1.length : Nat) : Int) ∧ f 34 = .int .i64 ((i : Nat) : Int) ∧ Ext w w' ∧ Blk w' w.heap.size 54 (cells L) ∧ L.length = l1.length + l2.length ∧ Lim L ∧ val L = val (l1.take i) * val l2 ∧ ∀ j, i + l2.length ≤ j → L.getD j 0 = 0)
        l1.length ⟨0, _, rfl, Nat.zero_le _, rfl, rfl, rfl, rfl, rfl, hE, hB, by simp, lim_replicate _, by simp [val, val_zeros], fun j _ => getD_replicate _ _⟩ ?_
      clear hB hE hsz w1 f
      rintro m f w1 ⟨i, L, rfl, hi, hf1, hf5, hf32, hf33, hf34, hE, hB, hL, hLim, hv, hz⟩
      rw [ui hf1, ui hf5, ui hf32, ui hf33, ui hf34]
      clear hf1 hf5 hf32 hf33 hf34
      by_cases hlt : i < l1.length
      · obtain ⟨ad, rfl, hc⟩ := (h1.ext hE).at (j := i) (by omega)
        have hx := hc i (by omega)
        have bx := h1.lim.getD i
        refine gg ?_
        by_cases hx0 : l1.getD i 0 = 0
        · refine W_seq ?_
          refine gg ?_
          refine ⟨_, ?_, i + 1, L, rfl, by omega, rfl, rfl, rfl, rfl, rfl, hE, hB, hL, hLim, ?_, fun j hj => hz j (by omega)⟩
          · omega
          · rw [val_take_succ l1 i (by omega), hx0, hv]; simp
        · refine W_seq ?_
          refine gg ?_
          refine R1_sliceLHB sl_u32 rfl rfl rfl (by omega) (by omega) (by omega) ?_
          refine gg ?_
          refine W_seqM (fun f w' => ∃ cy L', f 1 = .slice A2 l2.length c2 ∧ f 5 = .slice (some ⟨w.heap.size, 0, none⟩) (l1.length + l2.length) (l1.length + l2.length) ∧ f 8 = .slice (some ⟨w.heap.size, 0 + i * 1, none⟩) (i + l2.length + 1 - i) (l1.length + l2.length - i) ∧ f 9 = .int .u64 ((cy : Nat) : Int) ∧
            f 32 = .slice (some ad) l1.length c1 ∧ f 33 = .int .i64 ((l1.length : Nat) : Int) ∧ f 34 = .int .i64 ((i : Nat) : Int) ∧ Ext w w' ∧ Blk w' w.heap.size 54 (cells L') ∧ L'.length = l1.length + l2.length ∧ Lim L' ∧ cy < 4294967296 ∧
            val L' + cy * B ^ (i + l2.length) = val L + B ^ i * (l1.getD i 0 * val l2) ∧ ∀ j, i + l2.length ≤ j → L'.getD j 0 = 0) ?_ ?_
          · refine gg ?_
            refine W_loop (fun m f w' => ∃ j cy L', m = l2.length - j ∧ j ≤ l2.length ∧ f 1 = .slice A2 l2.length c2 ∧ f 5 = .slice (some ⟨w.heap.size, 0, none⟩) (l1.length + l2.length) (l1.length + l2.length) ∧ f 7 = .int .u32 ((l1.getD i 0 : Nat) : Int) ∧ f 8 = .slice (some ⟨w.heap.size, 0 + i * 1, none⟩) (i + l2.length + 1 - i) (l1.length + l2.length - i) ∧ f 9 = .int .u64 ((cy : Nat) : Int) ∧
              f 32 = .slice (some ad) l1.length c1 ∧ f 33 = .int .i64 ((l1.length : Nat) : Int) ∧ f 34 = .int .i64 ((i : Nat) : Int) ∧ f 49 = .slice A2 l2.length c2 ∧ f 50 = .int .i64 ((l2.length : Nat) : Int) ∧ f 51 = .int .i64 ((j : Nat) : Int) ∧
              Ext w w' ∧ Blk w' w.heap.size 54 (cells L') ∧ L'.length = l1.length + l2.length ∧ Lim L' ∧ cy < 4294967296 ∧
              val L' + cy * B ^ (i + j) = val L + B ^ i * (l1.getD i 0 * val (l2.take j)) ∧ (∀ q, i + j ≤ q → L'.getD q 0 = L.getD q 0))
              l2.length ⟨0, 0, L, rfl, Nat.zero_le _, rfl, rfl, rfl, rfl, rfl, rfl, rfl, rfl, rfl, rfl, rfl, hE, hB, hL, hLim, by omega, by simp [val], fun _ _ => rfl⟩ ?_
            clear hB hE w1 f hx hc
            rintro m f w1 ⟨j, cy, L', rfl, hj, hf1, hf5, hf7, hf8, hf9, hf32, hf33, hf34, hf49, hf50, hf51, hE, hB, hL', hLim', hcy, hv', hsame⟩
            rw [ui hf1, ui hf5, ui hf7, ui hf8, ui hf9, ui hf32, ui hf33, ui hf34, ui hf49, ui hf50, ui hf51]
            clear hf1 hf5 hf7 hf8 hf9 hf32 hf33 hf34 hf49 hf50 hf51
            by_cases hjl : j < l2.length
            · obtain ⟨ad', rfl, hc'⟩ := (h2.ext hE).at (j := j) (by omega)
              have hy := hc' j (by omega)
              have bY := h2.lim.getD j
              have hr : w1.cell? ⟨w.heap.size, 0 + i * 1 + j * 1, none⟩ = some (.int .u32 ((L'.getD (i + j) 0 : Nat) : Int)) := by rw [idx2]; exact cells_at hB (by omega)
              have br := hLim'.getD (i + j)
              have bxy := mul_small _ _ bx bY
              refine gg ?_
              refine R1_mul_u64 rfl rfl (by omega) ?_
              refine gg ?_
              refine R1_storeI (one_of rfl) (.inl rfl) rfl rfl hB (by rw [cells_size]; omega) ?_
              intro w3 hB3 hC3 hs3
              rw [idx2, cells_set] at hB3
              refine gg ?_
              refine ⟨_, ?_, j + 1, _, _, rfl, by omega, rfl, rfl, rfl, rfl, rfl, rfl, rfl, rfl, rfl, rfl, rfl, hC3.ext_of hE (fun b hb => by omega), hB3, by simpa using hL', hLim'.set (Nat.mod_lt _ (by decide)), ?_, ?_, fun q hq => by rw [Num.getD_set_ne (by omega)]; exact hsame q (by omega)⟩
              · omega
              · omega
              · have e := mul_step _ _ _ (l1.getD i 0) (l2.getD j 0) (L'.getD (i + j) 0) _ hv' _ (val_set L' (i + j) _ (by omega))
                rw [val_take_succ l2 j (by omega), Nat.mul_add, Nat.mul_add, ← Nat.add_assoc i j 1, Nat.pow_succ]
                refine e.trans ?_
                rw [Nat.pow_add, Nat.add_assoc]
                congr 2
                rw [Nat.mul_assoc, Nat.mul_left_comm (l1.getD i 0)]
            · refine gg ?_
              have : j = l2.length := by omega
              subst this
              rw [val_take_all] at hv'
              exact ⟨cy, L', rfl, rfl, rfl, rfl, rfl, rfl, rfl, hE, hB, hL', hLim', hcy, hv', fun q hq => by rw [hsame q hq]; exact hz q hq⟩
          · clear hB hE w1 f hx hc
            rintro f w1 ⟨cy, L', hf1, hf5, hf8, hf9, hf32, hf33, hf34, hE, hB, hL', hLim', hcy, hv', hz'⟩
            rw [ui hf1, ui hf5, ui hf8, ui hf9, ui hf32, ui hf33, ui hf34]
            clear hf1 hf5 hf8 hf9 hf32 hf33 hf34
            refine gg ?_
            refine R1_storeI (one_of rfl) (.inl rfl) rfl rfl hB (by rw [cells_size]; omega) ?_
            intro w3 hB3 hC3 hs3
            rw [idx2, cells_set] at hB3
            refine gg ?_
            refine ⟨_, ?_, i + 1, _, rfl, by omega, rfl, rfl, rfl, rfl, rfl, hC3.ext_of hE (fun b hb => by omega), hB3, by simpa using hL', hLim'.set (Nat.mod_lt _ (by decide)), ?_, fun q hq => by rw [Num.getD_set_ne (by omega)]; exact hz' q (by omega)⟩
            · omega
            · have e := val_set L' (i + l2.length) (cy % 4294967296) (by omega)
              rw [hz' _ (Nat.le_refl _), Nat.mod_eq_of_lt hcy] at e
              rw [Nat.mod_eq_of_lt hcy, val_take_succ l1 i (by omega), Nat.add_mul, ← hv, Nat.mul_assoc, ← hv', Nat.mul_comm cy]
              omega
      · refine gg ?_
        have : i = l1.length := by omega
        subst this
        rw [val_take_all] at hv
        exact ⟨L, rfl, hE, hB, hL, hLim, hv⟩
    · clear hB hE hsz w1
      rintro f w1 ⟨L, hf5, hE, hB, hL, hLim, hv⟩
      rw [ui hf5]
      refine gg ?_
      refine R1_call2 (trim_ok _ _ _ _ w1 (mag_of_blk hB hLim) hL (Nat.le_refl _) (by omega)) ?_
      rintro v w4 ⟨rfl, m, hm4, rfl, htr, hval⟩
      refine gg ?_
      exact ret1 (v := .slice _ _ _) rfl rfl ⟨hE, natV_trim (mag_of_blk hB hLim) hm4 (by omega) (by omega) htr hval hv⟩
end Go.Proofs.Ytimjiaabaanbeaa
