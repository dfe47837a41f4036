/- The program's integers: addSigned, Add, Sub, Mul. -/
import Derived.Test.YtimjiaabaanbeaaIntb
namespace Go.Proofs.Ytimjiaabaanbeaa
open Go Go.Eng Go.Num Go.Proofs

theorem len_le {l1 l2 : List Nat} (h2 : Lim l2) (t1 : Trimd l1) (h : val l1 ≤ val l2) : l1.length ≤ l2.length := by
  rcases Nat.lt_or_ge l2.length l1.length with hlt | hge
  · have := val_lt_len h2 t1 hlt; omega
  · exact hge

set_option maxHeartbeats 8000000 in
theorem addSame_ok (neg : Bool) (A1 A2 : Option Addr) (n1 n2 c1 c2 : Nat) (l1 l2 : List Nat) (w : World) (h1 : Mag w A1 l1) (h2 : Mag w A2 l2) (hn1 : l1.length = n1) (hn2 : l2.length = n2) (hl1 : n1 < 1099511627776) (hl2 : n2 < 1099511627776) :
    Meets Try.prog 81 #[.bool neg, .slice A1 n1 c1, .bool neg, .slice A2 n2 c2] w (RI w (sg neg (val l1) + sg neg (val l2))) := by
  subst hn1 hn2
  refine fn_W (n := 33) Try.func81 rfl rfl (by kernel_rfl) (by simp) ?_
  refine gg ?_
  refine R1_alloc (.inl rfl) z_Int ?_
  intro w1 hB1 hE1 hs1
  have e : (neg == neg) = true := by cases neg <;> rfl
  refine gg ?_
  refine W_true (by show Value.bool (neg == neg) = _; rw [e]) ?_
  refine gg ?_
  refine R1_call2 (addNat_ok _ _ _ _ _ _ w1 (h1.ext hE1) (h2.ext hE1) hl1 hl2) ?_
  rintro v w2 ⟨hE2, hv⟩
  refine gg ?_
  refine R1_call2 (build_ok neg v _ w2 hv) ?_
  rintro _ w3 ⟨hE3, x', y', rfl, hcv⟩
  refine gg ?_
  refine R1_store2 agg_Int (.inl rfl) rfl rfl hcv.one0 hcv.one1 (hB1.ext (hE2.trans hE3)) (by decide) ?_
  intro w6 hB6 hC6 hs6
  refine gg ?_
  have hE6 : Ext w w6 := hC6.ext_of ((hE1.trans hE2).trans hE3) (fun b hb => by omega)
  have es : sg neg (val l1 + val l2) = sg neg (val l1) + sg neg (val l2) := by cases neg <;> simp [sg]; omega
  rw [es] at hcv
  exact retC rfl agg_Int rfl hB6 ⟨hE6, _, _, rfl, hcv.keep (hB1.ext (hE2.trans hE3)) noInt2 hC6⟩

set_option maxHeartbeats 8000000 in
theorem addDiff_ok (neg : Bool) (A1 A2 : Option Addr) (n1 n2 c1 c2 : Nat) (l1 l2 : List Nat) (w : World) (h1 : Mag w A1 l1) (h2 : Mag w A2 l2) (hn1 : l1.length = n1) (hn2 : l2.length = n2) (hl1 : n1 < 1099511627776) (hl2 : n2 < 1099511627776) (t1 : Trimd l1) (t2 : Trimd l2) :
    Meets Try.prog 81 #[.bool neg, .slice A1 n1 c1, .bool (!neg), .slice A2 n2 c2] w (RI w (sg neg (val l1) + sg (!neg) (val l2))) := by
  subst hn1 hn2
  refine fn_W (n := 33) Try.func81 rfl rfl (by kernel_rfl) (by simp) ?_
  refine gg ?_
  refine R1_alloc (.inl rfl) z_Int ?_
  intro w1 hB1 hE1 hs1
  have e : (neg == !neg) = false := by cases neg <;> rfl
  refine gg ?_
  refine W_false (by show Value.bool (neg == !neg) = _; rw [e]) ?_
  refine gg ?_
  refine R1_call2 (compareNat_ok _ _ _ _ _ _ _ _ w1 (h1.ext hE1) (h2.ext hE1) rfl rfl hl1 hl2 t1 t2) ?_
  rintro _ w2 ⟨hE2, rfl⟩
  have hE12 := hE1.trans hE2
  by_cases hlt : val l1 < val l2
  · have ec : ¬ 0 ≤ cmpZ (val l1) (val l2) := by rw [cmpZ, if_pos hlt]; decide
    have hlen := len_le h2.lim t1 (Nat.le_of_lt hlt)
    generalize cmpZ (val l1) (val l2) = cz at *
    refine gg ?_
    refine R1_call2 (subNat_ok _ _ _ _ _ _ _ _ w2 (h2.ext hE12) (h1.ext hE12) rfl rfl hl2 hlen (Nat.le_of_lt hlt)) ?_
    rintro v w3 ⟨hE3, hv⟩
    refine gg ?_
    refine R1_call2 (build_ok (!neg) v _ w3 hv) ?_
    rintro _ w4 ⟨hE4, x', y', rfl, hcv⟩
    refine gg ?_
    refine R1_store2 agg_Int (.inl rfl) rfl rfl hcv.one0 hcv.one1 (hB1.ext ((hE2.trans hE3).trans hE4)) (by decide) ?_
    intro w6 hB6 hC6 hs6
    refine gg ?_
    have hE6 : Ext w w6 := hC6.ext_of ((hE12.trans hE3).trans hE4) (fun b hb => by omega)
    have es : sg (!neg) (val l2 - val l1) = sg neg (val l1) + sg (!neg) (val l2) := by cases neg <;> simp [sg] <;> omega
    rw [es] at hcv
    exact retC rfl agg_Int rfl hB6 ⟨hE6, _, _, rfl, hcv.keep (hB1.ext ((hE2.trans hE3).trans hE4)) noInt2 hC6⟩
  · have ec : 0 ≤ cmpZ (val l1) (val l2) := by rw [cmpZ, if_neg hlt]; split <;> decide
    have hlen := len_le h1.lim t2 (Nat.le_of_not_lt hlt)
    generalize cmpZ (val l1) (val l2) = cz at *
    refine gg ?_
    refine R1_call2 (subNat_ok _ _ _ _ _ _ _ _ w2 (h1.ext hE12) (h2.ext hE12) rfl rfl hl1 hlen (Nat.le_of_not_lt hlt)) ?_
    rintro v w3 ⟨hE3, hv⟩
    refine gg ?_
    refine R1_call2 (build_ok neg v _ w3 hv) ?_
    rintro _ w4 ⟨hE4, x', y', rfl, hcv⟩
    refine gg ?_
    refine R1_store2 agg_Int (.inl rfl) rfl rfl hcv.one0 hcv.one1 (hB1.ext ((hE2.trans hE3).trans hE4)) (by decide) ?_
    intro w6 hB6 hC6 hs6
    refine gg ?_
    have hE6 : Ext w w6 := hC6.ext_of ((hE12.trans hE3).trans hE4) (fun b hb => by omega)
    have es : sg neg (val l1 - val l2) = sg neg (val l1) + sg (!neg) (val l2) := by cases neg <;> simp [sg] <;> omega
    rw [es] at hcv
    exact retC rfl agg_Int rfl hB6 ⟨hE6, _, _, rfl, hcv.keep (hB1.ext ((hE2.trans hE3).trans hE4)) noInt2 hC6⟩

theorem addSigned_ok (g1 g2 : Bool) (A1 A2 : Option Addr) (n1 n2 c1 c2 : Nat) (l1 l2 : List Nat) (w : World) (h1 : Mag w A1 l1) (h2 : Mag w A2 l2) (hn1 : l1.length = n1) (hn2 : l2.length = n2) (hl1 : n1 < 1099511627776) (hl2 : n2 < 1099511627776) (t1 : Trimd l1) (t2 : Trimd l2) :
    Meets Try.prog 81 #[.bool g1, .slice A1 n1 c1, .bool g2, .slice A2 n2 c2] w (RI w (sg g1 (val l1) + sg g2 (val l2))) := by
  by_cases e : g2 = g1
  · subst e; exact addSame_ok g2 A1 A2 n1 n2 c1 c2 l1 l2 w h1 h2 hn1 hn2 hl1 hl2
  · obtain rfl : g2 = !g1 := by cases g1 <;> cases g2 <;> simp_all
    exact addDiff_ok g1 A1 A2 n1 n2 c1 c2 l1 l2 w h1 h2 hn1 hn2 hl1 hl2 t1 t2

set_option maxHeartbeats 8000000 in
theorem add_ok (x1 y1 x2 y2 : Value) (z1 z2 : Int) (N : Nat) (w : World) (h1 : IV w N x1 y1 z1) (h2 : IV w N x2 y2 z2) (hN : N < 1099511627776) :
    Meets Try.prog 52 #[.agg #[x1, y1], .agg #[x2, y2]] w (RI w (z1 + z2)) := by
  obtain ⟨g1, A1, l1, c1, rfl, rfl, hc1, hd1, hM1, hl1, rfl⟩ := h1
  obtain ⟨g2, A2, l2, c2, rfl, rfl, hc2, hd2, hM2, hl2, rfl⟩ := h2
  refine fn_W (n := 16) Try.func52 rfl rfl (by kernel_rfl) (by simp) ?_
  refine gg ?_
  refine R1_box (v := .agg _) (.inl rfl) rfl ?_
  intro w1 hB1 hE1 hs1
  refine gg ?_
  refine R1_box (v := .agg _) (.inl rfl) rfl ?_
  intro w2 hB2 hE2 hs2
  refine gg ?_
  refine R1_alloc (.inl rfl) z_Int ?_
  intro w3 hB3 hE3 hs3
  refine gg ?_
  refine W_seqD [(0, 3), (1, 0), (2, 3), (3, 0), (5, 3), (6, 0), (7, 3), (8, 0), (4, 1), (9, 1), (10, 1), (11, 2)] mixed (by kernel_rfl) (fun w4 hE4 _ => ?_)
  have hB14 := hB1.ext ((hE2.trans hE3).trans hE4)
  have hB24 := hB2.ext (hE3.trans hE4)
  have hB34 := hB3.ext hE4
  have f0 := blk0 hB14
  have f1 := blk1 hB14
  have k0 := blk0 hB24
  have k1 := blk1 hB24
  have hE := ((hE1.trans hE2).trans hE3).trans hE4
  refine gg ?_
  refine R1_call1 (trim_ok _ _ _ _ w4 (hM1.ext hE) rfl hc1 hd1) ?_
  rintro _ _ ⟨rfl, m1, hm1, rfl, htr1, htv1⟩
  refine ⟨Ext.refl _, ?_⟩
  refine gg ?_
  refine R1_call1 (trim_ok _ _ _ _ w4 (hM2.ext hE) rfl hc2 hd2) ?_
  rintro _ _ ⟨rfl, m2, hm2, rfl, htr2, htv2⟩
  refine ⟨Ext.refl _, ?_⟩
  refine gg ?_
  refine R1_call1 (addSigned_ok _ _ _ _ _ _ _ _ _ _ w4 ((hM1.ext hE).take m1) ((hM2.ext hE).take m2) (List.length_take_of_le hm1) (List.length_take_of_le hm2) (by omega) (by omega) htr1 htr2) ?_
  rintro _ w5 ⟨hE5, x', y', rfl, hcv⟩
  refine ⟨hE5, ?_⟩
  refine gg ?_
  refine R1_store2 agg_Int (.inl rfl) rfl rfl hcv.one0 hcv.one1 (hB34.ext hE5) (by decide) ?_
  intro w6 hB6 hC6 hs6
  refine gg ?_
  have hE6 : Ext w w6 := hC6.ext_of (hE.trans hE5) (fun b hb => by have := hE1.size; have := hE2.size; omega)
  rw [htv1, htv2] at hcv
  exact retC rfl agg_Int rfl hB6 ⟨hE6, _, _, rfl, hcv.keep (hB34.ext hE5) noInt2 hC6⟩

set_option maxHeartbeats 8000000 in
theorem sub_ok (x1 y1 x2 y2 : Value) (z1 z2 : Int) (N : Nat) (w : World) (h1 : IV w N x1 y1 z1) (h2 : IV w N x2 y2 z2) (hN : N < 1099511627776) :
    Meets Try.prog 86 #[.agg #[x1, y1], .agg #[x2, y2]] w (RI w (z1 - z2)) := by
  obtain ⟨g1, A1, l1, c1, rfl, rfl, hc1, hd1, hM1, hl1, rfl⟩ := h1
  obtain ⟨g2, A2, l2, c2, rfl, rfl, hc2, hd2, hM2, hl2, rfl⟩ := h2
  refine fn_W (n := 17) Try.func86 rfl rfl (by kernel_rfl) (by simp) ?_
  refine gg ?_
  refine R1_box (v := .agg _) (.inl rfl) rfl ?_
  intro w1 hB1 hE1 hs1
  refine gg ?_
  refine R1_box (v := .agg _) (.inl rfl) rfl ?_
  intro w2 hB2 hE2 hs2
  refine gg ?_
  refine R1_alloc (.inl rfl) z_Int ?_
  intro w3 hB3 hE3 hs3
  refine gg ?_
  refine W_seqD [(0, 3), (1, 0), (2, 3), (3, 0), (5, 3), (6, 0), (7, 3), (8, 3), (9, 0), (4, 1), (10, 1), (11, 1), (12, 2)] mixed (by kernel_rfl) (fun w4 hE4 _ => ?_)
  have hB14 := hB1.ext ((hE2.trans hE3).trans hE4)
  have hB24 := hB2.ext (hE3.trans hE4)
  have hB34 := hB3.ext hE4
  have f0 := blk0 hB14
  have f1 := blk1 hB14
  have k0 := blk0 hB24
  have k1 := blk1 hB24
  have hE := ((hE1.trans hE2).trans hE3).trans hE4
  refine gg ?_
  refine R1_call1 (trim_ok _ _ _ _ w4 (hM1.ext hE) rfl hc1 hd1) ?_
  rintro _ _ ⟨rfl, m1, hm1, rfl, htr1, htv1⟩
  refine ⟨Ext.refl _, ?_⟩
  refine gg ?_
  refine R1_call1 (trim_ok _ _ _ _ w4 (hM2.ext hE) rfl hc2 hd2) ?_
  rintro _ _ ⟨rfl, m2, hm2, rfl, htr2, htv2⟩
  refine ⟨Ext.refl _, ?_⟩
  refine gg ?_
  refine R1_call1 (addSigned_ok _ _ _ _ _ _ _ _ _ _ w4 ((hM1.ext hE).take m1) ((hM2.ext hE).take m2) (List.length_take_of_le hm1) (List.length_take_of_le hm2) (by omega) (by omega) htr1 htr2) ?_
  rintro _ w5 ⟨hE5, x', y', rfl, hcv⟩
  refine ⟨hE5, ?_⟩
  refine gg ?_
  refine R1_store2 agg_Int (.inl rfl) rfl rfl hcv.one0 hcv.one1 (hB34.ext hE5) (by decide) ?_
  intro w6 hB6 hC6 hs6
  refine gg ?_
  have hE6 : Ext w w6 := hC6.ext_of (hE.trans hE5) (fun b hb => by have := hE1.size; have := hE2.size; omega)
  rw [htv1, htv2, sg_not, ← Int.sub_eq_add_neg] at hcv
  exact retC rfl agg_Int rfl hB6 ⟨hE6, _, _, rfl, hcv.keep (hB34.ext hE5) noInt2 hC6⟩

theorem sg_mul (a b : Bool) (m n : Nat) : sg (a != b) (m * n) = sg a m * sg b n := by
  cases a <;> cases b <;> simp [sg, Int.neg_mul, Int.mul_neg]

set_option maxHeartbeats 8000000 in
theorem mul_ok (x1 y1 x2 y2 : Value) (z1 z2 : Int) (N : Nat) (w : World) (h1 : IV w N x1 y1 z1) (h2 : IV w N x2 y2 z2) (hN : N < 1099511627776) :
    Meets Try.prog 53 #[.agg #[x1, y1], .agg #[x2, y2]] w (RI w (z1 * z2)) := by
  obtain ⟨g1, A1, l1, c1, rfl, rfl, hc1, hd1, hM1, hl1, rfl⟩ := h1
  obtain ⟨g2, A2, l2, c2, rfl, rfl, hc2, hd2, hM2, hl2, rfl⟩ := h2
  refine fn_W (n := 18) Try.func53 rfl rfl (by kernel_rfl) (by simp) ?_
  refine gg ?_
  refine R1_box (v := .agg _) (.inl rfl) rfl ?_
  intro w1 hB1 hE1 hs1
  refine gg ?_
  refine R1_box (v := .agg _) (.inl rfl) rfl ?_
  intro w2 hB2 hE2 hs2
  refine gg ?_
  refine R1_alloc (.inl rfl) z_Int ?_
  intro w3 hB3 hE3 hs3
  refine gg ?_
  refine W_seqD [(0, 3), (1, 0), (2, 3), (3, 0), (4, 3), (5, 3), (6, 0), (8, 3), (9, 0), (7, 1), (10, 1), (11, 1), (12, 1), (13, 2)] mixed (by kernel_rfl) (fun w4 hE4 _ => ?_)
  have hB14 := hB1.ext ((hE2.trans hE3).trans hE4)
  have hB24 := hB2.ext (hE3.trans hE4)
  have hB34 := hB3.ext hE4
  have f0 := blk0 hB14
  have f1 := blk1 hB14
  have k0 := blk0 hB24
  have k1 := blk1 hB24
  have hE := ((hE1.trans hE2).trans hE3).trans hE4
  refine gg ?_
  refine R1_call1 (trim_ok _ _ _ _ w4 (hM1.ext hE) rfl hc1 hd1) ?_
  rintro _ _ ⟨rfl, m1, hm1, rfl, htr1, htv1⟩
  refine ⟨Ext.refl _, ?_⟩
  refine gg ?_
  refine R1_call1 (trim_ok _ _ _ _ w4 (hM2.ext hE) rfl hc2 hd2) ?_
  rintro _ _ ⟨rfl, m2, hm2, rfl, htr2, htv2⟩
  refine ⟨Ext.refl _, ?_⟩
  refine gg ?_
  refine R1_call1 (mulNat_ok _ _ _ _ _ _ _ _ w4 ((hM1.ext hE).take m1) ((hM2.ext hE).take m2) (List.length_take_of_le hm1) (List.length_take_of_le hm2) (by omega) (by omega)) ?_
  rintro v w5 ⟨hE5, hv⟩
  refine ⟨hE5, ?_⟩
  refine gg ?_
  refine R1_call1 (build_ok (g1 != g2) v _ w5 hv) ?_
  rintro _ w5' ⟨hE5', x', y', rfl, hcv⟩
  refine ⟨hE5', ?_⟩
  refine gg ?_
  refine R1_store2 agg_Int (.inl rfl) rfl rfl hcv.one0 hcv.one1 (hB34.ext (hE5.trans hE5')) (by decide) ?_
  intro w6 hB6 hC6 hs6
  refine gg ?_
  have hE6 : Ext w w6 := hC6.ext_of ((hE.trans hE5).trans hE5') (fun b hb => by have := hE1.size; have := hE2.size; omega)
  rw [htv1, htv2, sg_mul] at hcv
  exact retC rfl agg_Int rfl hB6 ⟨hE6, _, _, rfl, hcv.keep (hB34.ext (hE5.trans hE5')) noInt2 hC6⟩
end Go.Proofs.Ytimjiaabaanbeaa
