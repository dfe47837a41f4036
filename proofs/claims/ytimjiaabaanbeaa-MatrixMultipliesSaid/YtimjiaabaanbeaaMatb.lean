/- matrix.build. -/
import Derived.Test.YtimjiaabaanbeaaMata
namespace Go.Proofs.Ytimjiaabaanbeaa
open Go Go.Eng Go.Num Go.Proofs

set_option maxHeartbeats 8000000 in
theorem mbuild_ok (r c g : Nat) (cap : List Value) (M : Nat → Nat → Int) (w : World) (hr : r < 1073741824) (hc : c < 1073741824)
    (hf : ∀ i j, i < r → j < c → ∀ w', Ext w w' → Meets Try.prog g (.int .i64 ((i : Nat) : Int) :: .int .i64 ((j : Nat) : Int) :: cap).toArray w' (RI w' (M i j))) :
    Meets Try.prog 50 #[.int .i64 ((r : Nat) : Int), .int .i64 ((c : Nat) : Int), .func (.func g) #[] cap.toArray] w (RM w r c M) := by
  refine fn_W (n := 43) Try.func50 rfl rfl (by kernel_rfl) (by simp) ?_
  refine gg ?_
  refine R1_make sl_sInt (.inl rfl) rfl rfl (Nat.le_refl _) (by omega) (by omega) ?_
  intro w1 hB hE hsz
  rw [arr_made, Nat.mul_one] at hB
  refine gg ?_
  refine W_seqM (fun f w' => ∃ gs, f 7 = .slice (some ⟨w.heap.size, 0, none⟩) r r ∧ Ext w w' ∧ (∀ i, i < r → w.heap.size < gs i) ∧ OMat w' w.heap.size gs r c M) ?_ ?_
  · refine gg ?_
    refine W_loop (fun m f w' => ∃ i gs h, m = r - i ∧ i ≤ r ∧ f 1 = .int .i64 ((c : Nat) : Int) ∧ f 2 = .func (.func g) #[] cap.toArray ∧ f 7 = .slice (some ⟨w.heap.size, 0, none⟩) r r ∧ f 13 = .int .i64 ((r : Nat) : Int) ∧ f 14 = .int .i64 ((i : Nat) : Int) ∧
      Ext w w' ∧ Blk w' w.heap.size 53 (arr r h) ∧ (∀ k, k < r → ∃ A m c, h k = .slice A m c) ∧ (∀ k, k < i → h k = .slice (some ⟨gs k, 0, none⟩) c c ∧ ORow w' (gs k) c (M k) ∧ w.heap.size < gs k) ∧ (∀ k k', k < i → k' < i → gs k = gs k' → k = k'))
      r ⟨0, fun _ => 0, _, rfl, Nat.zero_le _, rfl, rfl, rfl, rfl, rfl, hE, hB, fun k _ => ⟨none, 0, 0, by simp [Value.cells, Nat.mod_one]⟩, fun k hk => absurd hk (by omega), fun k k' hk => absurd hk (by omega)⟩ ?_
    clear hB hE hsz w1
    rintro m f w1 ⟨i, gs, h, rfl, hi, hf1, hf2, hf7, hf13, hf14, hE, hB, hsl, hrow, hinj⟩
    rw [ui hf1, ui hf2, ui hf7, ui hf13, ui hf14]
    clear hf1 hf2 hf7 hf13 hf14
    by_cases hlt : i < r
    · refine gg ?_
      refine R1_make sl_Int (.inl rfl) rfl rfl (Nat.le_refl _) (by omega) (by omega) ?_
      intro w2 hB2 hE2 hs2
      have hO := orow_made hB2
      refine gg ?_
      refine R1_storeS (one_of rfl) (.inl rfl) rfl rfl (hB.ext hE2) (by rw [arr_size]; omega) ?_
      intro w3 hB3 hC3 hs3
      have hg : w.heap.size ≠ w1.heap.size := by have := hB.lt; omega
      have hO3 := hO.keep (hB.ext hE2) (noInt_rows hsl) hC3 hg.symm
      rw [arr_set, Nat.zero_add, Nat.mul_one] at hB3
      have hE3 : Ext w w3 := hC3.ext_of (hE.trans hE2) (fun b hb => by omega)
      have hlt3 : w1.heap.size < w3.heap.size := by omega
      have hx : w3.cell? ⟨w.heap.size, 0 + i * 1, none⟩ = some (.slice (some ⟨w1.heap.size, 0, none⟩) c c) := by
        rw [hB3.cell, arr_at (by omega), Nat.zero_add, Nat.mul_one, upd_self]
      have hrow3 : ∀ k, k < i → h k = .slice (some ⟨gs k, 0, none⟩) c c ∧ ORow w3 (gs k) c (M k) ∧ w.heap.size < gs k ∧ gs k < w1.heap.size := fun k hk => by
        obtain ⟨e, ho, hl⟩ := hrow k hk
        refine ⟨e, (ho.ext hE2).keep (hB.ext hE2) (noInt_rows hsl) hC3 (by omega), hl, ?_⟩
        obtain ⟨_, hb, _⟩ := ho; exact hb.lt
      clear hrow hC3 hO hB2 hB hE2
      refine gg ?_
      refine W_loop (fun m f w' => ∃ j Z, m = c - j ∧ j ≤ c ∧ f 1 = .int .i64 ((c : Nat) : Int) ∧ f 2 = .func (.func g) #[] cap.toArray ∧ f 7 = .slice (some ⟨w.heap.size, 0, none⟩) r r ∧ f 8 = .int .i64 ((i : Nat) : Int) ∧ f 13 = .int .i64 ((r : Nat) : Int) ∧ f 14 = .int .i64 ((i : Nat) : Int) ∧
        f 26 = .int .i64 ((c : Nat) : Int) ∧ f 27 = .int .i64 ((j : Nat) : Int) ∧ Ext w w' ∧ Blk w' w.heap.size 53 (arr r (upd h i (.slice (some ⟨w1.heap.size, 0, none⟩) c c))) ∧ (∀ k, k < i → ORow w' (gs k) c (M k)) ∧ ORow w' w1.heap.size c Z ∧ ∀ q, q < j → Z q = M i q)
        c ⟨0, fun _ => 0, rfl, Nat.zero_le _, rfl, rfl, rfl, rfl, rfl, rfl, rfl, rfl, hE3, hB3, fun k hk => (hrow3 k hk).2.1, hO3, fun q hq => absurd hq (by omega)⟩ ?_
      have hrow4 : ∀ k, k < i → h k = .slice (some ⟨gs k, 0, none⟩) c c ∧ w.heap.size < gs k ∧ gs k < w1.heap.size := fun k hk => ⟨(hrow3 k hk).1, (hrow3 k hk).2.2⟩
      have hw1 := hE.size
      have hsl2 : ∀ k, k < r → ∃ A m cc, upd h i (.slice (some ⟨w1.heap.size, 0, none⟩) c c) k = .slice A m cc := fun k hk => by
        by_cases hki : k = i
        · subst hki; exact ⟨_, _, _, upd_self _ _ _⟩
        · rw [upd_ne _ _ hki]; exact hsl k hk
      clear hrow3 hO3 hB3 hE3 hx hs3 hlt3 w3 hs2 w2 f
      rintro m f w3 ⟨j, Z, rfl, hj, hf1, hf2, hf7, hf8, hf13, hf14, hf26, hf27, hE3, hB3, hR3, hO3, hZ⟩
      rw [ui hf1, ui hf2, ui hf7, ui hf8, ui hf13, ui hf14, ui hf26, ui hf27]
      clear hf1 hf2 hf7 hf8 hf13 hf14 hf26 hf27
      by_cases hjc : j < c
      · refine gg ?_
        refine W_regD [(0, 3), (1, 3), (2, 3), (3, 0), (4, 3), (5, 3), (6, 3), (7, 3), (8, 1), (9, 3), (10, 2)] mixed (by kernel_rfl) (fun w4 hE4 _ => ?_)
        have hx : w4.cell? ⟨w.heap.size, 0 + i * 1, none⟩ = some (.slice (some ⟨w1.heap.size, 0, none⟩) c c) := by
          rw [(hB3.ext hE4).cell, arr_at (by omega), Nat.zero_add, Nat.mul_one, upd_self]
        refine gg ?_
        refine R1_callv2 (.inr rfl) rfl rfl rfl (hf i j hlt hjc w4 (hE3.trans hE4)) ?_
        rintro _ w5 ⟨hE5, x, y, rfl, hcv⟩
        refine ⟨fun _ => hE5, ?_⟩
        obtain ⟨hh, hBr, hcr⟩ := hO3.ext (hE4.trans hE5)
        refine gg ?_
        refine R1_store2 agg_Int (.inl rfl) rfl rfl hcv.one0 hcv.one1 hBr (by rw [arr_size]; omega) ?_
        intro w6 hB6 hC6 hs6
        have hO6 := ORow.set hBr hcr hcv hC6 hB6
        have hE6 : Ext w w6 := hC6.ext_of ((hE3.trans hE4).trans hE5) (fun b hb => by omega)
        have hg : w.heap.size ≠ w1.heap.size := by have := hB3.lt; omega
        refine gg ?_
        refine ⟨_, ?_, j + 1, _, rfl, by omega, rfl, rfl, rfl, rfl, rfl, rfl, rfl, rfl, hE6, (hB3.ext (hE4.trans hE5)).ch hC6 hg, fun k hk => ((hR3 k hk).ext (hE4.trans hE5)).keep hBr (ORow.noInt hcr) hC6 (by have := (hrow4 k hk).2.2; omega), hO6, fun q hq => ?_⟩
        · omega
        · unfold setZ
          split
          · rename_i e; rw [e]
          · exact hZ q (by omega)
      · refine gg ?_
        have : j = c := by omega
        subst this
        refine ⟨_, ?_, i + 1, fun k => if k = i then w1.heap.size else gs k, _, rfl, by omega, rfl, rfl, rfl, rfl, rfl, hE3, hB3, hsl2, fun k hk => ?_, fun k k' hk hk' e => ?_⟩
        · omega
        · by_cases hki : k = i
          · subst hki
            rw [upd_self]
            simp only [if_true]
            exact ⟨trivial, hO3.congr hZ, by omega⟩
          · rw [upd_ne _ _ hki]
            simp only [if_neg hki]
            exact ⟨(hrow4 k (by omega)).1, hR3 k (by omega), (hrow4 k (by omega)).2.1⟩
        · simp only at e
          split at e <;> split at e
          · omega
          · have := (hrow4 k' (by omega)).2.2; omega
          · have := (hrow4 k (by omega)).2.2; omega
          · exact hinj k k' (by omega) (by omega) e
    · refine gg ?_
      have : i = r := by omega
      subst this
      refine ⟨gs, rfl, hE, fun k hk => (hrow k hk).2.2, ⟨?_, fun k hk => (hrow k hk).2.1, fun k hk => by have := (hrow k hk).2.2; omega, hinj⟩⟩
      rw [arr_congr (fun k hk => (hrow k hk).1)] at hB
      exact hB
  · rintro f w2 ⟨gs, hf7, hE2, hlt, hO⟩
    rw [ui hf7]
    refine gg ?_
    exact ret1 (v := .slice _ _ _) rfl rfl ⟨hE2, _, gs, rfl, Nat.le_refl _, fun i hi => Nat.le_of_lt (hlt i hi), hO⟩
end Go.Proofs.Ytimjiaabaanbeaa
