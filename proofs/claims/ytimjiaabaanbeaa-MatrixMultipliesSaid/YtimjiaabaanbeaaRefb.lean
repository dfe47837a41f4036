/- The reference's integers: Normalize, Neg, word, Small, cmp, Same. -/
import Derived.Test.YtimjiaabaanbeaaRefa
namespace Go.Proofs.Ytimjiaabaanbeaa
open Go Go.Eng Go.Num Go.Proofs

set_option maxHeartbeats 8000000 in
theorem rnormalize_ok (x y : Value) (z : Int) (N : Nat) (w : World) (h : IV w N x y z) (hN : N < 1099511627776) :
    Meets Try.prog 75 #[.agg #[x, y]] w (RI w z) := by
  obtain ⟨neg, A, l, c, rfl, rfl, hc, hc2, hM, hl, rfl⟩ := h
  refine fn_W (n := 8) Try.func75 rfl rfl (by kernel_rfl) (by simp) ?_
  refine gg ?_
  refine R1_box (v := .agg _) (.inl rfl) rfl ?_
  intro w1 hB1 hE1 hs1
  refine gg ?_
  refine R1_alloc (.inl rfl) z_Int ?_
  intro w2 hB2 hE2 hs2
  have hB13 := hB1.ext hE2
  have f0 := blk0 hB13
  have f1 := blk1 hB13
  have hE := hE1.trans hE2
  refine gg ?_
  refine R1_call2 (make_ok neg _ _ _ l w2 (hM.ext hE) rfl hc (by omega)) ?_
  rintro _ w5 ⟨hE5, x', y', rfl, hcv⟩
  refine gg ?_
  refine R1_store2 agg_Int (.inl rfl) rfl rfl hcv.one0 hcv.one1 (hB2.ext hE5) (by decide) ?_
  intro w6 hB6 hC6 hs6
  refine gg ?_
  have hE6 : Ext w w6 := hC6.ext_of (hE.trans hE5) (fun b hb => by have := hE1.size; omega)
  exact retC rfl agg_Int rfl hB6 ⟨hE6, _, _, rfl, hcv.keep (hB2.ext hE5) noInt2 hC6⟩

set_option maxHeartbeats 8000000 in
theorem rneg_ok (x y : Value) (z : Int) (N : Nat) (w : World) (h : IV w N x y z) (hN : N < 1099511627776) :
    Meets Try.prog 62 #[.agg #[x, y]] w (RI w (-z)) := by
  obtain ⟨neg, A, l, c, rfl, rfl, hc, hc2, hM, hl, rfl⟩ := h
  refine fn_W (n := 9) Try.func62 rfl rfl (by kernel_rfl) (by simp) ?_
  refine gg ?_
  refine R1_box (v := .agg _) (.inl rfl) rfl ?_
  intro w1 hB1 hE1 hs1
  refine gg ?_
  refine R1_alloc (.inl rfl) z_Int ?_
  intro w2 hB2 hE2 hs2
  have hB13 := hB1.ext hE2
  have f0 := blk0 hB13
  have f1 := blk1 hB13
  have hE := hE1.trans hE2
  refine gg ?_
  refine R1_call2 (make_ok (!neg) _ _ _ l w2 (hM.ext hE) rfl hc (by omega)) ?_
  rintro _ w5 ⟨hE5, x', y', rfl, hcv⟩
  refine gg ?_
  refine R1_store2 agg_Int (.inl rfl) rfl rfl hcv.one0 hcv.one1 (hB2.ext hE5) (by decide) ?_
  intro w6 hB6 hC6 hs6
  refine gg ?_
  have hE6 : Ext w w6 := hC6.ext_of (hE.trans hE5) (fun b hb => by have := hE1.size; omega)
  rw [sg_not] at hcv
  exact retC rfl agg_Int rfl hB6 ⟨hE6, _, _, rfl, hcv.keep (hB2.ext hE5) noInt2 hC6⟩

set_option maxHeartbeats 8000000 in
theorem rword_ok (neg : Bool) (x : Nat) (w : World) (hx : x < 18446744073709551616) :
    Meets Try.prog 80 #[.bool neg, .int .u64 ((x : Nat) : Int)] w (RI w (sg neg x)) := by
  refine fn_W (n := 13) Try.func80 rfl rfl (by kernel_rfl) (by simp) ?_
  refine gg ?_
  refine R1_alloc (.inl rfl) z_Int ?_
  intro w1 hB1 hE1 hs1
  refine gg ?_
  refine R1_build2 (v0 := .int _ _) (v1 := .int _ _) sl_u32 rfl (.inl rfl) rfl rfl rfl rfl ?_
  intro w2 hB hE2 hsz
  have hB' : Blk w2 w1.heap.size 54 (cells [x % 4294967296, x / 2 ^ 32 % 4294967296]) := hB
  have hl : Lim [x % 4294967296, x / 2 ^ 32 % 4294967296] := by
    intro y hy
    simp at hy
    omega
  refine gg ?_
  refine R1_call2 (make_ok neg _ _ _ _ w2 (mag_of_blk hB' hl) rfl (Nat.le_refl _) (by decide)) ?_
  rintro _ w5 ⟨hE5, x', y', rfl, hcv⟩
  refine gg ?_
  refine R1_store2 agg_Int (.inl rfl) rfl rfl hcv.one0 hcv.one1 (hB1.ext (hE2.trans hE5)) (by decide) ?_
  intro w6 hB6 hC6 hs6
  refine gg ?_
  have hE6 : Ext w w6 := hC6.ext_of ((hE1.trans hE2).trans hE5) (fun b hb => by omega)
  have e : val [x % 4294967296, x / 2 ^ 32 % 4294967296] = x := by simp only [val, B]; omega
  rw [e] at hcv
  exact retC rfl agg_Int rfl hB6 ⟨hE6, _, _, rfl, hcv.keep (hB1.ext (hE2.trans hE5)) noInt2 hC6⟩

set_option maxHeartbeats 8000000 in
theorem rsmall_ok (z : Int) (w : World) (h1 : -9223372036854775808 ≤ z) (h2 : z < 9223372036854775808) :
    Meets Try.prog 48 #[.int .i64 z] w (RI w z) := by
  refine fn_W (n := 12) Try.func48 rfl rfl (by kernel_rfl) (by simp) ?_
  refine gg ?_
  refine R1_alloc (.inl rfl) z_Int ?_
  intro w1 hB1 hE1 hs1
  refine gg ?_
  by_cases hz : z < 0
  · refine W_seq ?_
    refine gg ?_
    refine R1_i64_u64 ty_i64 ty_u64 rfl ?_
    refine gg ?_
    refine R1_neg_u64 rfl (by omega) ?_
    refine gg ?_
    refine R1_call2 (rword_ok true _ w1 (Nat.mod_lt _ (by decide))) ?_
    rintro _ w3 ⟨hE3, x', y', rfl, hcv⟩
    refine gg ?_
    refine R1_store2 agg_Int (.inl rfl) rfl rfl hcv.one0 hcv.one1 (hB1.ext hE3) (by decide) ?_
    intro w6 hB6 hC6 hs6
    refine gg ?_
    have hE6 : Ext w w6 := hC6.ext_of (hE1.trans hE3) (fun b hb => by omega)
    have e : sg true ((18446744073709551616 - (z % 18446744073709551616).toNat) % 18446744073709551616) = z := by rw [sg_true]; omega
    rw [e] at hcv
    exact retC rfl agg_Int rfl hB6 ⟨hE6, _, _, rfl, hcv.keep (hB1.ext hE3) noInt2 hC6⟩
  · refine W_seq ?_
    refine gg ?_
    refine R1_i64_u64 ty_i64 ty_u64 rfl ?_
    refine gg ?_
    refine R1_call2 (rword_ok false _ w1 (by omega)) ?_
    rintro _ w3 ⟨hE3, x', y', rfl, hcv⟩
    refine gg ?_
    refine R1_store2 agg_Int (.inl rfl) rfl rfl hcv.one0 hcv.one1 (hB1.ext hE3) (by decide) ?_
    intro w6 hB6 hC6 hs6
    refine gg ?_
    have hE6 : Ext w w6 := hC6.ext_of (hE1.trans hE3) (fun b hb => by omega)
    have e : sg false ((z % 18446744073709551616).toNat) = z := by rw [sg_false]; omega
    rw [e] at hcv
    exact retC rfl agg_Int rfl hB6 ⟨hE6, _, _, rfl, hcv.keep (hB1.ext hE3) noInt2 hC6⟩

set_option maxHeartbeats 8000000 in
theorem rcmp_ok (A1 A2 : Option Addr) (n1 n2 c1 c2 : Nat) (l1 l2 : List Nat) (w : World) (h1 : Mag w A1 l1) (h2 : Mag w A2 l2) (hn1 : l1.length = n1) (hn2 : l2.length = n2) (hl1 : n1 < 1099511627776) (hl2 : n2 < 1099511627776) (t1 : Trimd l1) (t2 : Trimd l2) :
    Meets Try.prog 59 #[.slice A1 n1 c1, .slice A2 n2 c2] w fun v w' => Ext w w' ∧ v = .int .i64 (cmpZ (val l1) (val l2)) := by
  subst hn1 hn2
  refine fn_W (n := 41) Try.func59 rfl rfl (by kernel_rfl) (by simp) ?_
  refine gg ?_
  by_cases hne : l1.length = l2.length
  case neg =>
    refine W_seq ?_
    refine gg ?_
    refine W_seq ?_
    by_cases hlt : l1.length < l2.length
    · refine gg ?_
      refine ret1 (v := .int _ _) rfl rfl ⟨Ext.refl _, ?_⟩
      rw [cmpZ, if_pos (val_lt_len h1.lim t2 hlt)]
    · refine gg ?_
      refine ret1 (v := .int _ _) rfl rfl ⟨Ext.refl _, ?_⟩
      have := val_lt_len h2.lim t1 (by omega)
      rw [cmpZ, if_neg (by omega), if_pos this]; rfl
  refine W_seq ?_
  refine gg ?_
  refine W_seq ?_
  refine gg ?_
  have heq := hne
  refine W_loop (fun m f w' => ∃ k, m = k ∧ k ≤ l1.length ∧ f 0 = .slice A1 l1.length c1 ∧ f 1 = .slice A2 l2.length c2 ∧ f 5 = .int .i64 ((k : Int) - 1) ∧ Ext w w' ∧ l1.drop k = l2.drop k) l1.length ⟨_, rfl, Nat.le_refl _, rfl, rfl, rfl, Ext.refl _, by rw [heq]; simp [← heq]⟩ ?_
  rintro m f w1 ⟨k, rfl, hk, hf0, hf1, hf5, hE, hd⟩
  rw [ui hf0, ui hf1]
  rcases m with _ | j
  · rw [ui hf5]
    refine W_seq ?_
    refine gg ?_
    refine ret1 (v := .int _ _) rfl rfl ⟨hE, ?_⟩
    have : val l1 = val l2 := by simp at hd; rw [hd]
    rw [cmpZ, if_neg (by omega), if_neg (by omega)]; rfl
  · have e5 : (((j + 1 : Nat) : Int) - 1) = (j : Int) := by omega
    rw [e5] at hf5
    rw [ui hf5]
    refine W_seq ?_
    refine gg ?_
    refine W_seqD [(0, 3), (1, 3), (2, 3), (3, 0), (4, 3), (5, 3), (6, 3), (7, 0), (8, 3)] mixed (by kernel_rfl) (fun w2 hE2 _ => ?_)
    have hE' := hE.trans hE2
    obtain ⟨ad, rfl, hc1⟩ := (h1.ext hE').at (j := j) (by omega)
    obtain ⟨ad', rfl, hc2⟩ := (h2.ext hE').at (j := j) (by omega)
    have hx := hc1 j (by omega)
    have hy := hc2 j (by omega)
    by_cases ha : l1.getD j 0 = l2.getD j 0
    · refine gg ?_
      refine ⟨j, by omega, j, rfl, by omega, rfl, rfl, rfl, hE', ?_⟩
      rw [drop_cons l1 j (by omega), drop_cons l2 j (by omega), hd, ha]
    · refine gg ?_
      refine W_seq ?_
      refine W_seqD [(0, 3), (1, 3), (2, 3), (3, 0), (4, 3), (5, 3), (6, 3), (7, 0), (8, 3)] mixed (by kernel_rfl) (fun w3 hE3 _ => ?_)
      have hx := cell_ext hE3 hx
      have hy := cell_ext hE3 hy
      by_cases hb : l1.getD j 0 < l2.getD j 0
      · refine gg ?_
        refine ret1 (v := .int _ _) rfl rfl ⟨hE'.trans hE3, ?_⟩
        rw [cmpZ, if_pos (val_lt_at h1.lim heq (by omega) hd hb)]
      · refine gg ?_
        refine ret1 (v := .int _ _) rfl rfl ⟨hE'.trans hE3, ?_⟩
        have := val_lt_at h2.lim heq.symm (by omega) hd.symm (show l2.getD j 0 < l1.getD j 0 by omega)
        rw [cmpZ, if_neg (by omega), if_pos this]; rfl

theorem val_inj {l1 l2 : List Nat} (h1 : Lim l1) (h2 : Lim l2) (t1 : Trimd l1) (t2 : Trimd l2) (h : val l1 = val l2) : l1.length = l2.length := by
  rcases Nat.lt_trichotomy l1.length l2.length with hh | hh | hh
  · have := val_lt_len h1 t2 hh; omega
  · exact hh
  · have := val_lt_len h2 t1 hh; omega

theorem sg_inj {a b : Bool} {m n : Nat} (ha : m = 0 → a = false) (hb : n = 0 → b = false) (h : sg a m = sg b n) : a = b ∧ m = n := by
  have e : m = n := by rw [← sg_abs a m, h, sg_abs]
  subst e
  refine ⟨?_, rfl⟩
  rcases Nat.eq_zero_or_pos m with h0 | h0
  · rw [ha h0, hb h0]
  · cases a <;> cases b <;> simp [sg] at h ⊢ <;> omega

set_option maxHeartbeats 8000000 in
theorem rsame_ok (x1 y1 x2 y2 : Value) (z1 z2 : Int) (N1 N2 : Nat) (w : World) (h1 : CV w x1 y1 z1) (h2 : CV w x2 y2 z2) (hN1 : N1 < 1099511627776) (_hN2 : N2 < 1099511627776) (b1 : z1.natAbs < B ^ N1) (b2 : z2.natAbs < B ^ N2) :
    Meets Try.prog 24 #[.agg #[x1, y1], .agg #[x2, y2]] w fun v w' => Ext w w' ∧ v = .bool (decide (z1 = z2)) := by
  have i1 := h1.iv b1
  have i2 := h2.iv b2
  obtain ⟨neg1, A1, l1, c1, rfl, rfl, hc1, hd1, hM1, ht1, hn1, rfl⟩ := h1
  obtain ⟨neg2, A2, l2, c2, rfl, rfl, hc2, hd2, hM2, ht2, hn2, rfl⟩ := h2
  have hl1 : l1.length ≤ N1 := by
    obtain ⟨_, _, l, _, _, e, _, _, _, hl, _⟩ := i1
    injection e with _ e _; omega
  have hl2 : l2.length ≤ N2 := by
    obtain ⟨_, _, l, _, _, e, _, _, _, hl, _⟩ := i2
    injection e with _ e _; omega
  clear i1 i2
  refine fn_W (n := 27) Try.func24 rfl rfl (by kernel_rfl) (by simp) ?_
  refine gg ?_
  refine R1_box (v := .agg _) (.inl rfl) rfl ?_
  intro w1 hB1 hE1 hs1
  refine gg ?_
  refine R1_box (v := .agg _) (.inl rfl) rfl ?_
  intro w2 hB2 hE2 hs2
  have hB13 := hB1.ext hE2
  have f0 := blk0 hB13
  have f1 := blk1 hB13
  have g0 := blk0 hB2
  have g1 := blk1 hB2
  have hE := hE1.trans hE2
  by_cases hb : neg1 = neg2
  · have e0 : (neg1 == neg2) = true := by simpa using hb
    refine gg ?_
    rw [e0]
    refine gg ?_
    by_cases hll : l1.length = l2.length
    · refine gg ?_
      refine R1_call2 (rcmp_ok _ _ _ _ _ _ l1 l2 w2 (hM1.ext hE) (hM2.ext hE) rfl rfl (by omega) (by omega) ht1 ht2) ?_
      rintro _ w3 ⟨hE3, rfl⟩
      refine gg ?_
      refine ret1 (v := .bool _) rfl rfl ⟨hE.trans hE3, ?_⟩
      congr 1
      apply decide_eq_decide.2
      subst hb
      rw [cmpZ]
      constructor
      · intro h
        have e : val l1 = val l2 := by
          by_cases a : val l1 < val l2
          · rw [if_pos a] at h; cases h
          · by_cases b : val l2 < val l1
            · rw [if_neg a, if_pos b] at h; cases h
            · omega
        rw [e]
      · intro h
        have e : val l1 = val l2 := by rw [← sg_abs neg1 (val l1), h, sg_abs]
        rw [if_neg (by omega), if_neg (by omega)]
    · refine gg ?_
      refine ret1 (v := .bool _) rfl rfl ⟨hE, ?_⟩
      congr 1
      refine (decide_eq_false ?_).symm
      intro h
      subst hb
      exact hll (val_inj hM1.lim hM2.lim ht1 ht2 (by rw [← sg_abs neg1 (val l1), h, sg_abs]))
  · have e0 : (neg1 == neg2) = false := by simpa using hb
    refine gg ?_
    rw [e0]
    refine gg ?_
    refine ret1 (v := .bool _) rfl rfl ⟨hE, ?_⟩
    congr 1
    refine (decide_eq_false ?_).symm
    intro h
    exact hb (sg_inj (fun e => hn1 (val_zero ht1 e)) (fun e => hn2 (val_zero ht2 e)) h).1
end Go.Proofs.Ytimjiaabaanbeaa
