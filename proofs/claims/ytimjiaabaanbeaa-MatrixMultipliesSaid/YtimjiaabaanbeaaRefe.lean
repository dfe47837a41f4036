/- The reference's integers: Mul, Cmp. -/
import Derived.Test.YtimjiaabaanbeaaRefd
namespace Go.Proofs.Ytimjiaabaanbeaa
open Go Go.Eng Go.Num Go.Proofs

set_option maxHeartbeats 16000000 in
theorem rmul_ok (x1 y1 x2 y2 : Value) (z1 z2 : Int) (N : Nat) (w : World) (h1 : IV w N x1 y1 z1) (h2 : IV w N x2 y2 z2) (hN : N < 137438953472) :
    Meets Try.prog 41 #[.agg #[x1, y1], .agg #[x2, y2]] w (RI w (z1 * z2)) := by
  obtain ⟨g1, A1, l1, c1, rfl, rfl, hc1, hd1, hM1, hl1, rfl⟩ := h1
  obtain ⟨g2, A2, l2, c2, rfl, rfl, hc2, hd2, hM2, hl2, rfl⟩ := h2
  refine fn_W (n := 77) Try.func41 rfl rfl (by kernel_rfl) (by simp) ?_
  refine gg ?_
  refine R1_box (v := .agg _) (.inl rfl) rfl ?_
  intro w1 hB1 hE1 hs1
  refine gg ?_
  refine R1_box (v := .agg _) (.inl rfl) rfl ?_
  intro w2 hB2 hE2 hs2
  refine gg ?_
  refine R1_alloc (.inl rfl) z_Int ?_
  intro w3 hB3 hE3 hs3
  have hR3 : Blk w3 w2.heap.size 35 #[.bool false, .slice none 0 0] := hB3
  obtain ⟨ga, hga⟩ : ∃ g, g = w.heap.size := ⟨_, rfl⟩
  obtain ⟨gb, hgb⟩ : ∃ g, g = w1.heap.size := ⟨_, rfl⟩
  obtain ⟨gR, hgR⟩ : ∃ g, g = w2.heap.size := ⟨_, rfl⟩
  rw [← hgR] at hR3 ⊢
  rw [← hgb] at hB2 ⊢
  rw [← hga] at hB1 ⊢
  have hA3 := hB1.ext (hE2.trans hE3)
  have hB3' := hB2.ext hE3
  have a1 := blk1 hA3
  have b1 := blk1 hB3'
  refine gg ?_
  refine R1_make sl_u32 (.inl rfl) rfl rfl (Nat.le_refl _) (by omega) (by omega) ?_
  intro w4 hB4 hE4 hs4
  rw [cells_made] at hB4
  obtain ⟨gM, hgM⟩ : ∃ g, g = w3.heap.size := ⟨_, rfl⟩
  rw [← hgM] at hB4 ⊢
  have hE04 := hE1.trans (hE2.trans (hE3.trans hE4))
  have hA4 := hA3.ext hE4
  have hBb4 := hB3'.ext hE4
  have hR4 := hR3.ext hE4
  have hab : ga < gb ∧ gb < gR ∧ gR < gM ∧ w.heap.size ≤ ga := by omega
  obtain ⟨hab1, hab2, hab3, hab4⟩ := hab
  clear hA3 hB3' hB3 hB1 hB2 hE1 hE2 hE3 hE4 hs1 hs2 hs3 hs4 hgR hgb hga hgM a1 b1 hR3
  have a1 := blk1 hA4
  have b1 := blk1 hBb4
  refine gg ?_
  refine W_seqM (fun f w' => ∃ L, f 2 = .pointer (some ⟨ga, 0, none⟩) ∧ f 3 = .pointer (some ⟨gb, 0, none⟩) ∧ f 4 = .pointer (some ⟨gR, 0, none⟩) ∧ f 5 = .slice (some ⟨gM, 0, none⟩) (l1.length + l2.length) (l1.length + l2.length) ∧ Ext w w' ∧
    Blk w' ga 35 #[.bool g1, .slice A1 l1.length c1] ∧ Blk w' gb 35 #[.bool g2, .slice A2 l2.length c2] ∧ Blk w' gR 35 #[.bool false, .slice none 0 0] ∧ Blk w' gM 54 (cells L) ∧ L.length = l1.length + l2.length ∧ Lim L ∧ val L = val l1 * val l2) ?_ ?_
  · refine gg ?_
    refine W_loop (fun m f w' => ∃ i L, m = l1.length - i ∧ i ≤ l1.length ∧ f 2 = .pointer (some ⟨ga, 0, none⟩) ∧ f 3 = .pointer (some ⟨gb, 0, none⟩) ∧ f 4 = .pointer (some ⟨gR, 0, none⟩) ∧ f 5 = .slice (some ⟨gM, 0, none⟩) (l1.length + l2.length) (l1.length + l2.length) ∧ f 20 = .slice A1 l1.length c1 ∧
      f 21 = .int .i64 ((l1.length : Nat) : Int) ∧ f 22 = .int .i64 ((i : Nat) : Int) ∧ Ext w w' ∧ Blk w' ga 35 #[.bool g1, .slice A1 l1.length c1] ∧ Blk w' gb 35 #[.bool g2, .slice A2 l2.length c2] ∧ Blk w' gR 35 #[.bool false, .slice none 0 0] ∧
      Blk w' gM 54 (cells L) ∧ L.length = l1.length + l2.length ∧ Lim L ∧ val L = val (l1.take i) * val l2 ∧ ∀ j, i + l2.length ≤ j → L.getD j 0 = 0)
      l1.length ⟨0, _, rfl, Nat.zero_le _, rfl, rfl, rfl, rfl, rfl, rfl, rfl, hE04, hA4, hBb4, hR4, hB4, by simp, lim_replicate _, by simp [val, val_zeros], fun j _ => getD_replicate _ _⟩ ?_
    clear hE04 hA4 hBb4 hR4 hB4 a1 b1 w4
    rintro m f w4 ⟨i, L, rfl, hi, hf2, hf3, hf4, hf5, hf20, hf21, hf22, hE, hA, hBb, hR, hB, hL, hLim, hv, hz⟩
    rw [ui hf2, ui hf3, ui hf4, ui hf5, ui hf20, ui hf21, ui hf22]
    clear hf2 hf3 hf4 hf5 hf20 hf21 hf22
    by_cases hlt : i < l1.length
    · obtain ⟨ad, rfl, hc⟩ := (hM1.ext hE).at (j := i) (by omega)
      have hx := hc i (by omega)
      have bx := hM1.lim.getD i
      have b1 := blk1 hBb
      refine gg ?_
      refine W_seqM (fun f w' => ∃ cy L', f 2 = .pointer (some ⟨ga, 0, none⟩) ∧ f 3 = .pointer (some ⟨gb, 0, none⟩) ∧ f 4 = .pointer (some ⟨gR, 0, none⟩) ∧ f 5 = .slice (some ⟨gM, 0, none⟩) (l1.length + l2.length) (l1.length + l2.length) ∧ f 6 = .int .i64 ((i : Nat) : Int) ∧ f 8 = .int .u64 ((cy : Nat) : Int) ∧ f 20 = .slice (some ad) l1.length c1 ∧
        f 21 = .int .i64 ((l1.length : Nat) : Int) ∧ f 22 = .int .i64 ((i : Nat) : Int) ∧ Ext w w' ∧ Blk w' ga 35 #[.bool g1, .slice (some ad) l1.length c1] ∧ Blk w' gb 35 #[.bool g2, .slice A2 l2.length c2] ∧ Blk w' gR 35 #[.bool false, .slice none 0 0] ∧ Blk w' gM 54 (cells L') ∧ L'.length = l1.length + l2.length ∧ Lim L' ∧ cy < 4294967296 ∧
        val L' + cy * B ^ (i + l2.length) = val L + B ^ i * (l1.getD i 0 * val l2) ∧ ∀ j, i + l2.length ≤ j → L'.getD j 0 = 0) ?_ ?_
      · refine gg ?_
        refine W_loop (fun m f w' => ∃ j cy L', m = l2.length - j ∧ j ≤ l2.length ∧ f 2 = .pointer (some ⟨ga, 0, none⟩) ∧ f 3 = .pointer (some ⟨gb, 0, none⟩) ∧ f 4 = .pointer (some ⟨gR, 0, none⟩) ∧ f 5 = .slice (some ⟨gM, 0, none⟩) (l1.length + l2.length) (l1.length + l2.length) ∧ f 6 = .int .i64 ((i : Nat) : Int) ∧ f 7 = .int .u32 ((l1.getD i 0 : Nat) : Int) ∧ f 8 = .int .u64 ((cy : Nat) : Int) ∧ f 20 = .slice (some ad) l1.length c1 ∧
          f 21 = .int .i64 ((l1.length : Nat) : Int) ∧ f 22 = .int .i64 ((i : Nat) : Int) ∧ f 28 = .slice A2 l2.length c2 ∧ f 29 = .int .i64 ((l2.length : Nat) : Int) ∧ f 30 = .int .i64 ((j : Nat) : Int) ∧
          Ext w w' ∧ Blk w' ga 35 #[.bool g1, .slice (some ad) l1.length c1] ∧ Blk w' gb 35 #[.bool g2, .slice A2 l2.length c2] ∧ Blk w' gR 35 #[.bool false, .slice none 0 0] ∧ Blk w' gM 54 (cells L') ∧ L'.length = l1.length + l2.length ∧ Lim L' ∧ cy < 4294967296 ∧
          val L' + cy * B ^ (i + j) = val L + B ^ i * (l1.getD i 0 * val (l2.take j)) ∧ (∀ q, i + j ≤ q → L'.getD q 0 = L.getD q 0))
          l2.length ⟨0, 0, L, rfl, Nat.zero_le _, rfl, rfl, rfl, rfl, rfl, rfl, rfl, rfl, rfl, rfl, rfl, rfl, rfl, hE, hA, hBb, hR, hB, hL, hLim, by omega, by simp [val], fun _ _ => rfl⟩ ?_
        clear hB hE hA hBb hR hx hc b1 w4 f
        rintro m f w4 ⟨j, cy, L', rfl, hj, hf2, hf3, hf4, hf5, hf6, hf7, hf8, hf20, hf21, hf22, hf28, hf29, hf30, hE, hA, hBb, hR, hB, hL', hLim', hcy, hv', hsame⟩
        rw [ui hf2, ui hf3, ui hf4, ui hf5, ui hf6, ui hf7, ui hf8, ui hf20, ui hf21, ui hf22, ui hf28, ui hf29, ui hf30]
        clear hf2 hf3 hf4 hf5 hf6 hf7 hf8 hf20 hf21 hf22 hf28 hf29 hf30
        by_cases hjl : j < l2.length
        · obtain ⟨ad', rfl, hc'⟩ := (hM2.ext hE).at (j := j) (by omega)
          have hy := hc' j (by omega)
          have bY := hM2.lim.getD j
          have hr : w4.cell? ⟨gM, 0 + (i + j) * 1, none⟩ = some (.int .u32 ((L'.getD (i + j) 0 : Nat) : Int)) := cells_at hB (by omega)
          have br := hLim'.getD (i + j)
          have bxy := mul_small _ _ bx bY
          refine gg ?_
          refine R1_mul_u64 rfl rfl (by omega) ?_
          refine gg ?_
          refine R1_storeI (one_of rfl) (.inl rfl) rfl rfl hB (by rw [cells_size]; omega) ?_
          intro w5 hB5 hC5 hs5
          rw [cells_set] at hB5
          refine gg ?_
          refine ⟨_, ?_, j + 1, _, _, rfl, by omega, rfl, rfl, rfl, rfl, rfl, rfl, rfl, rfl, rfl, rfl, rfl, rfl, rfl, hC5.ext_of hE (fun b hb => by omega), hA.ch hC5 (by omega), hBb.ch hC5 (by omega), hR.ch hC5 (by omega), hB5, by simpa using hL', hLim'.set (Nat.mod_lt _ (by decide)), ?_, ?_, fun q hq => by rw [Num.getD_set_ne (by omega)]; exact hsame q (by omega)⟩
          · omega
          · omega
          · have e := mul_step _ _ _ (l1.getD i 0) (l2.getD j 0) (L'.getD (i + j) 0) _ hv' _ (val_set L' (i + j) _ (by omega))
            rw [val_take_succ l2 j (by omega), Nat.mul_add, Nat.mul_add, ← Nat.add_assoc i j 1, Nat.pow_succ]
            refine e.trans ?_
            rw [Nat.pow_add, Nat.add_assoc]
            congr 2
            rw [Nat.mul_assoc, Nat.mul_left_comm (l1.getD i 0)]
        · refine gg ?_
          have : j = l2.length := by omega
          subst this
          rw [val_take_all] at hv'
          exact ⟨cy, L', rfl, rfl, rfl, rfl, rfl, rfl, rfl, rfl, rfl, hE, hA, hBb, hR, hB, hL', hLim', hcy, hv', fun q hq => by rw [hsame q hq]; exact hz q hq⟩
      · clear hB hE hA hBb hR hx hc b1 w4 f
        rintro f w4 ⟨cy, L', hf2, hf3, hf4, hf5, hf6, hf8, hf20, hf21, hf22, hE, hA, hBb, hR, hB, hL', hLim', hcy, hv', hz'⟩
        rw [ui hf2, ui hf3, ui hf4, ui hf5, ui hf6, ui hf8, ui hf20, ui hf21, ui hf22]
        clear hf2 hf3 hf4 hf5 hf6 hf8 hf20 hf21 hf22
        have b1 := blk1 hBb
        refine gg ?_
        refine R1_storeI (one_of rfl) (.inl rfl) rfl rfl hB (by rw [cells_size]; omega) ?_
        intro w5 hB5 hC5 hs5
        rw [cells_set] at hB5
        refine gg ?_
        refine ⟨_, ?_, i + 1, _, rfl, by omega, rfl, rfl, rfl, rfl, rfl, rfl, rfl, hC5.ext_of hE (fun b hb => by omega), hA.ch hC5 (by omega), hBb.ch hC5 (by omega), hR.ch hC5 (by omega), hB5, by simpa using hL', hLim'.set (Nat.mod_lt _ (by decide)), ?_, fun q hq => by rw [Num.getD_set_ne (by omega)]; exact hz' q (by omega)⟩
        · omega
        · have e := val_set L' (i + l2.length) (cy % 4294967296) (by omega)
          rw [hz' _ (Nat.le_refl _), Nat.mod_eq_of_lt hcy] at e
          rw [Nat.mod_eq_of_lt hcy, val_take_succ l1 i (by omega), Nat.add_mul, ← hv, Nat.mul_assoc, ← hv', Nat.mul_comm cy]
          omega
    · refine gg ?_
      have : i = l1.length := by omega
      subst this
      rw [val_take_all] at hv
      exact ⟨L, rfl, rfl, rfl, rfl, hE, hA, hBb, hR, hB, hL, hLim, hv⟩
  · clear hE04 hA4 hBb4 hR4 hB4 a1 b1 w4
    rintro f w4 ⟨L, hf2, hf3, hf4, hf5, hE, hA, hBb, hR, hB, hL, hLim, hv⟩
    rw [ui hf2, ui hf3, ui hf4, ui hf5]
    clear hf2 hf3 hf4 hf5
    have a0 := blk0 hA
    have b0 := blk0 hBb
    refine gg ?_
    refine R1_call2 (make_ok (g1 != g2) _ _ _ L w4 (mag_of_blk hB hLim) hL (Nat.le_refl _) (by omega)) ?_
    rintro _ w5 ⟨hE5, x, y, rfl, hcv⟩
    refine gg ?_
    refine R1_store2 agg_Int (.inl rfl) rfl rfl hcv.one0 hcv.one1 (hR.ext hE5) (by decide) ?_
    intro w6 hB6 hC6 hs6
    refine gg ?_
    refine retC rfl agg_Int rfl hB6 ⟨hC6.ext_of (hE.trans hE5) (fun b hb => by omega), x, y, rfl, ?_⟩
    rw [← sg_mul, ← hv]
    exact hcv.keep (hR.ext hE5) noInt2 hC6

/-- -1, 0 or 1 -/
def cmpI (a b : Int) : Int := if a < b then -1 else if b < a then 1 else 0
theorem cmpI_sub (a b : Int) : cmpI a b = (a - b).sign := by
  unfold cmpI
  split
  · rw [Int.sign_eq_neg_one_of_neg (by omega)]
  · split
    · rw [Int.sign_eq_one_of_pos (by omega)]
    · rw [show a - b = 0 by omega]; rfl

set_option maxHeartbeats 8000000 in
theorem rcmpI_ok (x1 y1 x2 y2 : Value) (z1 z2 : Int) (N : Nat) (w : World) (h1 : IV w N x1 y1 z1) (h2 : IV w N x2 y2 z2) (hN : N < 137438953472) :
    Meets Try.prog 97 #[.agg #[x1, y1], .agg #[x2, y2]] w fun v w' => Ext w w' ∧ v = .int .i64 (cmpI z1 z2) := by
  have i1 := h1
  have i2 := h2
  obtain ⟨g1, A1, l1, c1, rfl, rfl, hc1, hd1, hM1, hl1, hz1⟩ := h1
  obtain ⟨g2, A2, l2, c2, rfl, rfl, hc2, hd2, hM2, hl2, hz2⟩ := h2
  refine fn_W (n := 26) Try.func97 rfl rfl (by kernel_rfl) (by simp) ?_
  refine gg ?_
  refine R1_box (v := .agg _) (.inl rfl) rfl ?_
  intro w1 hB1 hE1 hs1
  refine gg ?_
  refine R1_box (v := .agg _) (.inl rfl) rfl ?_
  intro w2 hB2 hE2 hs2
  have hE02 := hE1.trans hE2
  refine gg ?_
  refine W_seqD [(0, 0), (2, 0), (1, 1), (3, 1), (4, 3), (5, 3)] mixed (by kernel_rfl) (fun w3 hE3 _ => ?_)
  obtain ⟨f0, f1⟩ := blkP (hB1.ext (hE2.trans hE3))
  obtain ⟨f2, f3⟩ := blkP (hB2.ext hE3)
  have hE03 := hE02.trans hE3
  refine gg ?_
  refine R1_call1 (rsign_ok _ _ _ N w3 (i1.ext hE03) (by omega)) ?_
  rintro _ w4 ⟨hE4, rfl⟩
  refine ⟨hE4, ?_⟩
  refine gg ?_
  refine R1_call1 (rsign_ok _ _ _ N w4 (i2.ext (hE03.trans hE4)) (by omega)) ?_
  rintro _ w5 ⟨hE5, rfl⟩
  refine ⟨hE5, ?_⟩
  have hE05 := hE03.trans (hE4.trans hE5)
  have hE25 := hE3.trans (hE4.trans hE5)
  have s1 : z1.sign = -1 ∧ z1 < 0 ∨ z1.sign = 0 ∧ z1 = 0 ∨ z1.sign = 1 ∧ 0 < z1 := by
    rcases Int.lt_trichotomy z1 0 with h | h | h
    · exact .inl ⟨Int.sign_eq_neg_one_of_neg h, h⟩
    · exact .inr (.inl ⟨by rw [h]; rfl, h⟩)
    · exact .inr (.inr ⟨Int.sign_eq_one_of_pos h, h⟩)
  have s2 : z2.sign = -1 ∧ z2 < 0 ∨ z2.sign = 0 ∧ z2 = 0 ∨ z2.sign = 1 ∧ 0 < z2 := by
    rcases Int.lt_trichotomy z2 0 with h | h | h
    · exact .inl ⟨Int.sign_eq_neg_one_of_neg h, h⟩
    · exact .inr (.inl ⟨by rw [h]; rfl, h⟩)
    · exact .inr (.inr ⟨Int.sign_eq_one_of_pos h, h⟩)
  refine gg ?_
  by_cases hs : z1.sign = z2.sign
  · refine W_seq ?_
    refine gg ?_
    refine W_seqD [(0, 3), (1, 3), (2, 0), (4, 3), (5, 0), (3, 1), (6, 1), (7, 1), (8, 3), (9, 3)] mixed (by kernel_rfl) (fun w6 hE6 _ => ?_)
    have f1 := blk1 (hB1.ext (hE2.trans (hE25.trans hE6)))
    have f3 := blk1 (hB2.ext (hE25.trans hE6))
    have hE06 := hE05.trans hE6
    refine gg ?_
    refine R1_call1 (rtrim_ok _ _ _ _ w6 (hM1.ext hE06) rfl hc1 (by omega)) ?_
    rintro _ w7 ⟨hE7, hV7⟩
    refine ⟨hE7, ?_⟩
    refine gg ?_
    refine R1_call1 (rtrim_ok _ _ _ _ w7 (hM2.ext (hE06.trans hE7)) rfl hc2 (by omega)) ?_
    rintro _ w8 ⟨hE8, hV8⟩
    refine ⟨hE8, ?_⟩
    obtain ⟨T1, t1, d1, rfl, _, _, hT1, ht1, hv1⟩ := hV7.ext hE8
    obtain ⟨T2, t2, d2, rfl, _, _, hT2, ht2, hv2⟩ := hV8
    have hlt1 : t1.length ≤ N := by have := len_le hM1.lim ht1 (Nat.le_of_eq hv1); omega
    have hlt2 : t2.length ≤ N := by have := len_le hM2.lim ht2 (Nat.le_of_eq hv2); omega
    refine gg ?_
    refine R1_call1 (rcmp_ok _ _ _ _ _ _ t1 t2 w8 hT1 hT2 rfl rfl (by omega) (by omega) ht1 ht2) ?_
    rintro _ w9 ⟨hE9, rfl⟩
    refine ⟨hE9, ?_⟩
    have hcz : cmpZ (val t1) (val t2) = -1 ∨ cmpZ (val t1) (val t2) = 0 ∨ cmpZ (val t1) (val t2) = 1 := by
      unfold cmpZ; split
      · exact .inl rfl
      · split
        · exact .inr (.inr rfl)
        · exact .inr (.inl rfl)
    have hb : -9223372036854775808 ≤ z1.sign * cmpZ (val t1) (val t2) ∧ z1.sign * cmpZ (val t1) (val t2) < 9223372036854775808 := by
      rcases s1 with ⟨e, _⟩ | ⟨e, _⟩ | ⟨e, _⟩ <;> rcases hcz with e' | e' | e' <;> rw [e, e'] <;> decide
    refine gg ?_
    refine R1_mul_z rfl rfl hb.1 hb.2 ?_
    refine gg ?_
    refine ret1 (v := .int _ _) rfl rfl ⟨hE06.trans (hE7.trans (hE8.trans hE9)), ?_⟩
    congr 1
    rw [hv1, hv2]
    have n1 : z1.natAbs = val l1 := by rw [hz1, sg_abs]
    have n2 : z2.natAbs = val l2 := by rw [hz2, sg_abs]
    unfold cmpI cmpZ
    rcases s1 with ⟨e, h1⟩ | ⟨e, h1⟩ | ⟨e, h1⟩ <;> rcases s2 with ⟨e', h2⟩ | ⟨e', h2⟩ | ⟨e', h2⟩ <;> rw [e, e'] at hs <;> first | (exfalso; revert hs; decide) | (rw [e]; by_cases p1 : val l1 < val l2 <;> by_cases p2 : val l2 < val l1 <;> simp only [p1, p2, if_true, if_false] <;> by_cases q1 : z1 < z2 <;> by_cases q2 : z2 < z1 <;> simp only [q1, q2, if_true, if_false] <;> omega)
  · refine W_seq ?_
    by_cases hlt : z1.sign < z2.sign
    · refine gg ?_
      refine W_seq ?_
      refine gg ?_
      refine ret1 (v := .int _ _) rfl rfl ⟨hE05, ?_⟩
      unfold cmpI
      rw [if_pos (by omega)]
    · refine gg ?_
      refine W_seq ?_
      refine gg ?_
      refine ret1 (v := .int _ _) rfl rfl ⟨hE05, ?_⟩
      unfold cmpI
      rw [if_neg (by omega), if_pos (by omega)]; rfl
end Go.Proofs.Ytimjiaabaanbeaa
