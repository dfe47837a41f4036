/- The reference's integers: difference, Add, Sub, Sign, Abs, Cmp. -/
import Derived.Test.YtimjiaabaanbeaaRefc
import Derived.Test.YtimjiaabaanbeaaMate
namespace Go.Proofs.Ytimjiaabaanbeaa
open Go Go.Eng Go.Num Go.Proofs

theorem rsub_limb (a x : Nat) (ha : a < 4294967296) (hx : x ≤ 4294967296) : (a + (18446744073709551616 - x)) % 18446744073709551616 % 4294967296 + x = a + 4294967296 * (if a < x then 1 else 0) := by
  split <;> omega

set_option maxHeartbeats 8000000 in
theorem rdifference_ok (A1 A2 : Option Addr) (n1 n2 c1 c2 : Nat) (l1 l2 : List Nat) (w : World) (h1 : Mag w A1 l1) (h2 : Mag w A2 l2) (hn1 : l1.length = n1) (hn2 : l2.length = n2) (hl1 : n1 < 1099511627776) (hl : n2 ≤ n1) (hle : val l2 ≤ val l1) :
    Meets Try.prog 94 #[.slice A1 n1 c1, .slice A2 n2 c2] w fun v w' => Ext w w' ∧ LimV w' v n1 (val l1 - val l2) := by
  subst hn1 hn2
  refine fn_W (n := 46) Try.func94 rfl rfl (by kernel_rfl) (by simp) ?_
  refine gg ?_
  refine W_seq ?_
  refine gg ?_
  refine W_loop (fun m f w' => ∃ i v l br, m = l1.length - i ∧ i ≤ l1.length ∧ f 0 = .slice A1 l1.length c1 ∧ f 1 = .slice A2 l2.length c2 ∧ f 5 = v ∧ f 6 = .int .u64 ((br : Nat) : Int) ∧ f 7 = .int .i64 ((i : Nat) : Int) ∧ Ext w w' ∧ OwL w' w.heap.size v l ∧ l.length = i ∧ br ≤ 1 ∧
    val l + val (l2.take i) = val (l1.take i) + br * B ^ i) l1.length ⟨0, _, [], 0, rfl, by omega, rfl, rfl, rfl, rfl, rfl, Ext.refl _, OwL.nil _ _, rfl, by omega, by simp [val]⟩ ?_
  rintro m f w1 ⟨i, v, l, br, rfl, hi, hf0, hf1, hf5, hf6, hf7, hE, hO, hll, hbr, hv⟩
  rw [ui hf0, ui hf1, ui hf5, ui hf6, ui hf7]
  clear hf0 hf1 hf5 hf6 hf7
  refine W_seq ?_
  have bx := h1.lim.getD i
  have bY := h2.lim.getD i
  by_cases hlt : i < l1.length
  · obtain ⟨ad, rfl, hc1⟩ := (h1.ext hE).at (j := i) (by omega)
    have hx := hc1 i (by omega)
    refine gg ?_
    refine W_seqM (fun f w' => w1 = w' ∧ f 0 = .slice (some ad) l1.length c1 ∧ f 1 = .slice A2 l2.length c2 ∧ f 5 = v ∧ f 7 = .int .i64 ((i : Nat) : Int) ∧ f 8 = .int .u64 ((br + l2.getD i 0 : Nat) : Int)) ?_ ?_
    · refine W_seq ?_
      by_cases hi2 : i < l2.length
      · obtain ⟨ad', rfl, hc2⟩ := (h2.ext hE).at (j := i) (by omega)
        have hy := hc2 i (by omega)
        refine gg ?_
        exact ⟨rfl, rfl, rfl, rfl, rfl, rfl⟩
      · have : l2.getD i 0 = 0 := by simp [List.getD, hi2]
        refine gg ?_
        exact ⟨rfl, rfl, rfl, rfl, rfl, by rw [this]; rfl⟩
    rintro f w' ⟨rfl, hf0, hf1, hf5, hf7, hf8⟩
    rw [ui hf0, ui hf1, ui hf5, ui hf7, ui hf8]
    clear hf0 hf1 hf5 hf7 hf8
    refine gg ?_
    refine R1_subm_u64 rfl rfl (by omega) ?_
    refine gg ?_
    refine R1_build1 sl_u32 rfl (.inl rfl) rfl rfl ?_
    intro w2 hB2 hE2 hs2
    refine gg ?_
    refine R1_push rfl rfl (hO.ext hE2) rfl hB2 (Nat.mod_lt _ (by decide)) (by omega) (by have := hE.size; omega) ?_
    intro v' w3 hO3 hC3
    have hE3 : Ext w w3 := hC3.ext_of (hE.trans hE2) (fun b hb => hO.blk hb)
    obtain ⟨ad2, e2, hc3⟩ := (h1.ext hE3).at (j := i) (by omega)
    injection e2 with e2; subst e2
    have hx3 := hc3 i (by omega)
    have hs := rsub_limb (l1.getD i 0) (br + l2.getD i 0) bx (by omega)
    have key : ∀ nb, nb = (if l1.getD i 0 < br + l2.getD i 0 then 1 else 0) → val (l ++ [(l1.getD i 0 + (18446744073709551616 - (br + l2.getD i 0))) % 18446744073709551616 % 4294967296]) + val (l2.take (i + 1)) = val (l1.take (i + 1)) + nb * B ^ (i + 1) := fun nb hnb => by
      rw [← hnb] at hs
      rw [val_snoc, hll, val_take_succ' l1, val_take_succ' l2, Nat.pow_succ]
      exact sub_step (B ^ i) (val l) (val (l2.take i)) (val (l1.take i)) (l1.getD i 0) (l2.getD i 0) br _ nb hv (by show _ = _ + 4294967296 * nb; omega)
    by_cases hb : l1.getD i 0 < br + l2.getD i 0
    · refine gg ?_
      refine ⟨_, ?_, i + 1, v', _, 1, rfl, by omega, rfl, rfl, rfl, rfl, rfl, hE3, hO3, by simp [hll], by omega, key 1 (by rw [if_pos hb])⟩
      omega
    · refine gg ?_
      refine ⟨_, ?_, i + 1, v', _, 0, rfl, by omega, rfl, rfl, rfl, rfl, rfl, hE3, hO3, by simp [hll], by omega, key 0 (by rw [if_neg hb])⟩
      omega
  · refine gg ?_
    have : i = l1.length := by omega
    subst this
    rw [val_take_ge l1 _ (by omega), val_take_ge l2 _ (by omega)] at hv
    have b0 := val_lt l hO.1
    have : br = 0 := by
      rcases Nat.lt_or_ge 0 br with h | h
      · have : B ^ l1.length ≤ br * B ^ l1.length := Nat.le_mul_of_pos_left _ h
        rw [hll] at b0; omega
      · omega
    subst this
    refine ret1 (v := v) rfl rfl ⟨hE, ?_⟩
    have := hO.limV (N := l1.length) (by omega)
    rw [show val l = val l1 - val l2 by omega] at this
    exact this

/-- the end of a function that leaves an Int in a box, behind a call -/
theorem radd_core {w w2 : World} {z z' : Int} (h : z' = z) {v : Value} (hr : RI w2 z' v w2) : RI w2 z v w2 := by rw [← h]; exact hr

set_option maxHeartbeats 8000000 in
theorem radd_ok (x1 y1 x2 y2 : Value) (z1 z2 : Int) (N : Nat) (w : World) (h1 : IV w N x1 y1 z1) (h2 : IV w N x2 y2 z2) (hN : N < 137438953472) :
    Meets Try.prog 63 #[.agg #[x1, y1], .agg #[x2, y2]] w (RI w (z1 + z2)) := by
  obtain ⟨g1, A1, l1, c1, rfl, rfl, hc1, hd1, hM1, hl1, rfl⟩ := h1
  obtain ⟨g2, A2, l2, c2, rfl, rfl, hc2, hd2, hM2, hl2, rfl⟩ := h2
  refine fn_W (n := 40) Try.func63 rfl rfl (by kernel_rfl) (by simp) ?_
  refine gg ?_
  refine R1_box (v := .agg _) (.inl rfl) rfl ?_
  intro w1 hB1 hE1 hs1
  refine gg ?_
  refine R1_box (v := .agg _) (.inl rfl) rfl ?_
  intro w2 hB2 hE2 hs2
  refine gg ?_
  refine R1_alloc (.inl rfl) z_Int ?_
  intro w3 hB3 hE3 hs3
  have hR3 : Bx w3 w2.heap.size 1 true 0 := Bx.zero true hB3
  obtain ⟨gR, hgR⟩ : ∃ g, g = w2.heap.size := ⟨_, rfl⟩
  rw [← hgR] at hR3 ⊢
  have hE13 := hE1.trans (hE2.trans hE3)
  refine gg ?_
  refine W_seqD [(0, 3), (1, 0), (3, 3), (4, 0), (2, 1), (5, 1), (6, 3), (7, 3)] mixed (by kernel_rfl) (fun w4 hE4 _ => ?_)
  have hB14 := hB1.ext (hE2.trans (hE3.trans hE4))
  have hB24 := hB2.ext (hE3.trans hE4)
  have f1 := blk1 hB14
  have f3 := blk1 hB24
  refine gg ?_
  refine R1_call1 (rtrim_ok _ _ _ _ w4 (hM1.ext (hE13.trans hE4)) rfl hc1 (by omega)) ?_
  rintro _ w5 ⟨hE5, hV5⟩
  refine ⟨hE5, ?_⟩
  refine gg ?_
  refine R1_call1 (rtrim_ok _ _ _ _ w5 (hM2.ext ((hE13.trans hE4).trans hE5)) rfl hc2 (by omega)) ?_
  rintro _ w6 ⟨hE6, hV6⟩
  refine ⟨hE6, ?_⟩
  obtain ⟨T1, t1, d1, rfl, hd1', hd1'', hT1, ht1, hv1⟩ := hV5.ext hE6
  obtain ⟨T2, t2, d2, rfl, hd2', hd2'', hT2, ht2, hv2⟩ := hV6
  have hlt1 : t1.length ≤ N := by have := len_le hM1.lim ht1 (Nat.le_of_eq hv1); omega
  have hlt2 : t2.length ≤ N := by have := len_le hM2.lim ht2 (Nat.le_of_eq hv2); omega
  have hE46 := hE4.trans (hE5.trans hE6)
  have hE16 := hE13.trans hE46
  have hB16 := hB1.ext (hE2.trans (hE3.trans hE46))
  have hB26 := hB2.ext (hE3.trans hE46)
  have hR6 := hR3.ext hE46
  have hgw : w.heap.size ≤ gR := by have := (hE1.trans hE2).size; omega
  clear f1 f3 hB14 hB24 hE4 hE5 hE6 hE46 hE13 hE3 hE2 hE1 hB1 hB2 hB3 hR3 hs1 hs2 hs3 hgR hV5
  have f0 := blk0 hB16
  have f2 := blk0 hB26
  refine gg ?_
  by_cases hb : g1 = g2
  · have e0 : (g1 == g2) = true := by simpa using hb
    refine W_seq ?_
    refine gg ?_
    rw [e0]
    refine gg ?_
    refine W_seqD [(0, 3), (1, 0), (2, 3), (3, 3), (4, 1), (5, 1), (6, 2)] mixed (by kernel_rfl) (fun w7 hE7 _ => ?_)
    have g0 := cell_ext hE7 f0
    refine gg ?_
    refine R1_call1 (rsum_ok _ _ _ _ _ _ t1 t2 w7 (hT1.ext hE7) (hT2.ext hE7) rfl rfl (by omega) (by omega)) ?_
    rintro _ w8 ⟨hE8, A, l, c, rfl, hlc, hc2, hM, hlN, hv⟩
    refine ⟨hE8, ?_⟩
    refine gg ?_
    refine R1_call1 (make_ok g1 _ _ _ l w8 hM rfl hlc (by omega)) ?_
    rintro _ w9 ⟨hE9, x, y, rfl, hcv⟩
    refine ⟨hE9, ?_⟩
    refine gg ?_
    obtain ⟨ox, oy, hoB, hov⟩ := hR6.ext (hE7.trans (hE8.trans hE9))
    refine R1_store2 agg_Int (.inl rfl) rfl rfl hcv.one0 hcv.one1 hoB (by simp) ?_
    intro w10 hB10 hC10 hs10
    refine gg ?_
    refine retC rfl agg_Int rfl hB10 ⟨hC10.ext_of (hE16.trans (hE7.trans (hE8.trans hE9))) (fun b hb => by omega), x, y, rfl, ?_⟩
    have e : sg g1 (val l) = sg g1 (val l1) + sg g2 (val l2) := by
      rw [hv, hv1, hv2, ← hb]; cases g1 <;> simp [sg]; omega
    rw [← e]
    exact hcv.kp (kp_ch hoB hov.1.noU hC10)
  · have e0 : (g1 == g2) = false := by simpa using hb
    refine W_seq ?_
    refine gg ?_
    rw [e0]
    refine gg ?_
    refine W_seq ?_
    refine gg ?_
    refine R1_call2 (rcmp_ok _ _ _ _ _ _ t1 t2 w6 hT1 hT2 rfl rfl (by omega) (by omega) ht1 ht2) ?_
    rintro _ w7 ⟨hE7, rfl⟩
    by_cases hcmp : val t2 ≤ val t1
    · have hge : (0 : Int) ≤ cmpZ (val t1) (val t2) := by unfold cmpZ; rw [if_neg (by omega)]; split <;> decide
      have g0 := cell_ext hE7 f0
      refine gg ?_
      refine W_seqD [(0, 3), (1, 0), (2, 3), (3, 3), (4, 1), (5, 1), (6, 2)] mixed (by kernel_rfl) (fun w8 hE8 _ => ?_)
      have g0 := cell_ext hE8 g0
      have hE68 := hE7.trans hE8
      refine gg ?_
      refine R1_call1 (rdifference_ok _ _ _ _ _ _ t1 t2 w8 (hT1.ext hE68) (hT2.ext hE68) rfl rfl (by omega) (len_le hT1.lim ht2 hcmp) hcmp) ?_
      rintro _ w9 ⟨hE9, A, l, c, rfl, hlc, hc2, hM, hlN, hv⟩
      refine ⟨hE9, ?_⟩
      refine gg ?_
      refine R1_call1 (make_ok g1 _ _ _ l w9 hM rfl hlc (by omega)) ?_
      rintro _ w10 ⟨hE10, x, y, rfl, hcv⟩
      refine ⟨hE10, ?_⟩
      refine gg ?_
      obtain ⟨ox, oy, hoB, hov⟩ := hR6.ext (hE68.trans (hE9.trans hE10))
      refine R1_store2 agg_Int (.inl rfl) rfl rfl hcv.one0 hcv.one1 hoB (by simp) ?_
      intro w11 hB11 hC11 hs11
      refine gg ?_
      refine retC rfl agg_Int rfl hB11 ⟨hC11.ext_of (hE16.trans (hE68.trans (hE9.trans hE10))) (fun b hb => by omega), x, y, rfl, ?_⟩
      have e : sg g1 (val l) = sg g1 (val l1) + sg g2 (val l2) := by
        rw [hv, hv1, hv2]; rw [hv1, hv2] at hcmp
        cases g1 <;> cases g2 <;> simp [sg] at hb ⊢ <;> omega
      rw [← e]
      exact hcv.kp (kp_ch hoB hov.1.noU hC11)
    · have hge : ¬ (0 : Int) ≤ cmpZ (val t1) (val t2) := by unfold cmpZ; rw [if_pos (by omega)]; decide
      have g0 := cell_ext hE7 f2
      refine gg ?_
      refine W_seqD [(0, 3), (1, 0), (2, 3), (3, 3), (4, 1), (5, 1), (6, 2)] mixed (by kernel_rfl) (fun w8 hE8 _ => ?_)
      have g0 := cell_ext hE8 g0
      have hE68 := hE7.trans hE8
      refine gg ?_
      refine R1_call1 (rdifference_ok _ _ _ _ _ _ t2 t1 w8 (hT2.ext hE68) (hT1.ext hE68) rfl rfl (by omega) (len_le hT2.lim ht1 (by omega)) (by omega)) ?_
      rintro _ w9 ⟨hE9, A, l, c, rfl, hlc, hc2, hM, hlN, hv⟩
      refine ⟨hE9, ?_⟩
      refine gg ?_
      refine R1_call1 (make_ok g2 _ _ _ l w9 hM rfl hlc (by omega)) ?_
      rintro _ w10 ⟨hE10, x, y, rfl, hcv⟩
      refine ⟨hE10, ?_⟩
      refine gg ?_
      obtain ⟨ox, oy, hoB, hov⟩ := hR6.ext (hE68.trans (hE9.trans hE10))
      refine R1_store2 agg_Int (.inl rfl) rfl rfl hcv.one0 hcv.one1 hoB (by simp) ?_
      intro w11 hB11 hC11 hs11
      refine gg ?_
      refine retC rfl agg_Int rfl hB11 ⟨hC11.ext_of (hE16.trans (hE68.trans (hE9.trans hE10))) (fun b hb => by omega), x, y, rfl, ?_⟩
      have e : sg g2 (val l) = sg g1 (val l1) + sg g2 (val l2) := by
        rw [hv, hv1, hv2]; rw [hv1, hv2] at hcmp
        cases g1 <;> cases g2 <;> simp [sg] at hb ⊢ <;> omega
      rw [← e]
      exact hcv.kp (kp_ch hoB hov.1.noU hC11)

set_option maxHeartbeats 8000000 in
theorem rsub_ok (x1 y1 x2 y2 : Value) (z1 z2 : Int) (N : Nat) (w : World) (h1 : IV w N x1 y1 z1) (h2 : IV w N x2 y2 z2) (hN : N < 137438953472) :
    Meets Try.prog 91 #[.agg #[x1, y1], .agg #[x2, y2]] w (RI w (z1 - z2)) := by
  refine fn_W (n := 9) Try.func91 rfl rfl (by kernel_rfl) (by simp) ?_
  refine gg ?_
  refine R1_box (v := .agg _) (.inl rfl) rfl ?_
  intro w1 hB1 hE1 hs1
  refine gg ?_
  refine R1_box (v := .agg _) (.inl rfl) rfl ?_
  intro w2 hB2 hE2 hs2
  refine gg ?_
  refine R1_alloc (.inl rfl) z_Int ?_
  intro w3 hB3 hE3 hs3
  have hR3 : Bx w3 w2.heap.size 1 true 0 := Bx.zero true hB3
  obtain ⟨gR, hgR⟩ : ∃ g, g = w2.heap.size := ⟨_, rfl⟩
  rw [← hgR] at hR3 ⊢
  have hE13 := hE1.trans (hE2.trans hE3)
  refine gg ?_
  refine W_seqD [(0, 0), (1, 0), (2, 1), (3, 1), (4, 2)] mixed (by kernel_rfl) (fun w4 hE4 _ => ?_)
  obtain ⟨f0, f1⟩ := blkP (hB1.ext (hE2.trans (hE3.trans hE4)))
  obtain ⟨f2, f3⟩ := blkP (hB2.ext (hE3.trans hE4))
  have hE14 := hE13.trans hE4
  refine gg ?_
  refine R1_call1 (rneg_ok _ _ _ N w4 (h2.ext hE14) (by omega)) ?_
  rintro _ w5 ⟨hE5, a, b, rfl, hc⟩
  refine ⟨hE5, ?_⟩
  refine gg ?_
  refine R1_call1 (radd_ok _ _ _ _ _ _ N w5 (h1.ext (hE14.trans hE5)) (hc.iv (IV.bd h2).neg) hN) ?_
  rintro _ w6 ⟨hE6, x, y, rfl, hcv⟩
  refine ⟨hE6, ?_⟩
  refine gg ?_
  obtain ⟨ox, oy, hoB, hov⟩ := hR3.ext (hE4.trans (hE5.trans hE6))
  refine R1_store2 agg_Int (.inl rfl) rfl rfl hcv.one0 hcv.one1 hoB (by simp) ?_
  intro w7 hB7 hC7 hs7
  refine gg ?_
  refine retC rfl agg_Int rfl hB7 ⟨hC7.ext_of (hE14.trans (hE5.trans hE6)) (fun b hb => by have := (hE1.trans hE2).size; omega), x, y, rfl, ?_⟩
  rw [Int.sub_eq_add_neg]
  exact hcv.kp (kp_ch hoB hov.1.noU hC7)

set_option maxHeartbeats 8000000 in
theorem rabs_ok (x y : Value) (z : Int) (N : Nat) (w : World) (h : IV w N x y z) (hN : N < 1099511627776) :
    Meets Try.prog 98 #[.agg #[x, y]] w (RI w (z.natAbs : Int)) := by
  obtain ⟨neg, A, l, c, rfl, rfl, hc, hc2, hM, hl, rfl⟩ := h
  refine fn_W (n := 6) Try.func98 rfl rfl (by kernel_rfl) (by simp) ?_
  refine gg ?_
  refine R1_box (v := .agg _) (.inl rfl) rfl ?_
  intro w1 hB1 hE1 hs1
  refine gg ?_
  refine R1_alloc (.inl rfl) z_Int ?_
  intro w2 hB2 hE2 hs2
  have f1 := blk1 (hB1.ext hE2)
  refine gg ?_
  refine R1_call2 (make_ok false _ _ _ l w2 (hM.ext (hE1.trans hE2)) rfl hc (by omega)) ?_
  rintro _ w3 ⟨hE3, x, y, rfl, hcv⟩
  refine gg ?_
  refine R1_store2 agg_Int (.inl rfl) rfl rfl hcv.one0 hcv.one1 (hB2.ext hE3) (by decide) ?_
  intro w6 hB6 hC6 hs6
  refine gg ?_
  refine retC rfl agg_Int rfl hB6 ⟨hC6.ext_of ((hE1.trans hE2).trans hE3) (fun b hb => by have := hE1.size; omega), _, _, rfl, ?_⟩
  rw [sg_abs]
  exact hcv.keep (hB2.ext hE3) noInt2 hC6

set_option maxHeartbeats 8000000 in
theorem rsign_ok (x y : Value) (z : Int) (N : Nat) (w : World) (h : IV w N x y z) (hN : N < 1099511627776) :
    Meets Try.prog 89 #[.agg #[x, y]] w fun v w' => Ext w w' ∧ v = .int .i64 z.sign := by
  obtain ⟨neg, A, l, c, rfl, rfl, hc, hc2, hM, hl, rfl⟩ := h
  refine fn_W (n := 12) Try.func89 rfl rfl (by kernel_rfl) (by simp) ?_
  refine gg ?_
  refine R1_box (v := .agg _) (.inl rfl) rfl ?_
  intro w1 hB1 hE1 hs1
  have f0 := blk0 hB1
  have f1 := blk1 hB1
  refine gg ?_
  refine R1_call2 (rtrim_ok _ _ _ _ w1 (hM.ext hE1) rfl hc (by omega)) ?_
  rintro _ w2 ⟨hE2, T, t, d, rfl, hd1, hd2, hT, htr, htv⟩
  have f0 := cell_ext hE2 f0
  by_cases hm0 : t.length = 0
  · refine gg ?_
    refine ret1 (v := .int _ _) rfl rfl ⟨hE1.trans hE2, ?_⟩
    have : val l = 0 := by rw [← htv, List.eq_nil_of_length_eq_zero hm0]; rfl
    rw [this]; cases neg <;> rfl
  · have hpos : 0 < val l := by
      rcases Nat.eq_zero_or_pos (val l) with h | h
      · exact absurd (by rw [val_zero htr (htv.trans h)]; rfl) hm0
      · exact h
    cases neg
    · refine gg ?_
      refine ret1 (v := .int _ _) rfl rfl ⟨hE1.trans hE2, ?_⟩
      rw [sg_false, Int.sign_eq_one_of_pos (by omega)]; rfl
    · refine gg ?_
      refine ret1 (v := .int _ _) rfl rfl ⟨hE1.trans hE2, ?_⟩
      rw [sg_true, Int.sign_eq_neg_one_of_neg (by omega)]
end Go.Proofs.Ytimjiaabaanbeaa
