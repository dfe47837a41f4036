/- The program's integers: Normalize, Small, Sign, Neg, addSigned, Add, Sub, Mul. -/
import Derived.Test.YtimjiaabaanbeaaInta
namespace Go.Proofs.Ytimjiaabaanbeaa
open Go Go.Eng Go.Num Go.Proofs

theorem sg_false (m : Nat) : sg false m = m := rfl
theorem sg_true (m : Nat) : sg true m = -(m : Int) := rfl
theorem sg_not (b : Bool) (m : Nat) : sg (!b) m = - sg b m := by cases b <;> simp [sg]

set_option maxHeartbeats 8000000 in
theorem normalize_ok (x y : Value) (z : Int) (N : Nat) (w : World) (h : IV w N x y z) (hN : N < 1099511627776) :
    Meets Try.prog 74 #[.agg #[x, y]] w (RI w z) := by
  obtain ⟨neg, A, l, c, rfl, rfl, hc, hc2, hM, hl, rfl⟩ := h
  refine fn_W (n := 10) Try.func74 rfl rfl (by kernel_rfl) (by simp) ?_
  refine gg ?_
  refine R1_box (v := .agg _) (.inl rfl) rfl ?_
  intro w1 hB1 hE1 hs1
  refine gg ?_
  refine R1_alloc (.inl rfl) z_Int ?_
  intro w2 hB2 hE2 hs2
  refine gg ?_
  refine W_seqD [(0, 3), (1, 0), (2, 3), (3, 0), (4, 1), (5, 1), (6, 1), (7, 2)] mixed (by kernel_rfl) (fun w3 hE3 _ => ?_)
  have hB13 := hB1.ext (hE2.trans hE3)
  have hB23 := hB2.ext hE3
  have f0 := blk0 hB13
  have f1 := blk1 hB13
  have hE := (hE1.trans hE2).trans hE3
  refine gg ?_
  refine R1_call1 (trim_ok _ _ _ _ w3 (hM.ext hE) rfl hc hc2) ?_
  rintro _ _ ⟨rfl, m, hm, rfl, htr, htv⟩
  refine ⟨Ext.refl _, ?_⟩
  refine gg ?_
  refine R1_call1 (clone_ok _ _ _ (l.take m) w3 ((hM.ext hE).take m) (List.length_take_of_le hm) (by omega) (fun e => by have := hM.none_len e; omega)) ?_
  rintro v w4 ⟨hE4, hv⟩
  refine ⟨hE4, ?_⟩
  refine gg ?_
  refine R1_call1 (build_ok neg v _ w4 (natV_clone (hM.lim.take m) htr (List.length_take_of_le hm) hv)) ?_
  rintro _ w5 ⟨hE5, x', y', rfl, hcv⟩
  refine ⟨hE5, ?_⟩
  refine gg ?_
  refine R1_store2 agg_Int (.inl rfl) rfl rfl hcv.one0 hcv.one1 (hB23.ext (hE4.trans hE5)) (by decide) ?_
  intro w6 hB6 hC6 hs6
  refine gg ?_
  have hE6 : Ext w w6 := hC6.ext_of ((hE.trans hE4).trans hE5) (fun b hb => by have := hE1.size; omega)
  rw [htv] at hcv
  exact retC rfl agg_Int rfl hB6 ⟨hE6, _, _, rfl, hcv.keep (hB23.ext (hE4.trans hE5)) noInt2 hC6⟩

set_option maxHeartbeats 8000000 in
theorem neg_ok (x y : Value) (z : Int) (N : Nat) (w : World) (h : IV w N x y z) (hN : N < 1099511627776) :
    Meets Try.prog 88 #[.agg #[x, y]] w (RI w (-z)) := by
  obtain ⟨neg, A, l, c, rfl, rfl, hc, hc2, hM, hl, rfl⟩ := h
  refine fn_W (n := 11) Try.func88 rfl rfl (by kernel_rfl) (by simp) ?_
  refine gg ?_
  refine R1_box (v := .agg _) (.inl rfl) rfl ?_
  intro w1 hB1 hE1 hs1
  refine gg ?_
  refine R1_alloc (.inl rfl) z_Int ?_
  intro w2 hB2 hE2 hs2
  refine gg ?_
  refine W_seqD [(0, 3), (1, 0), (2, 3), (3, 3), (4, 0), (5, 1), (6, 1), (7, 1), (8, 2)] mixed (by kernel_rfl) (fun w3 hE3 _ => ?_)
  have hB13 := hB1.ext (hE2.trans hE3)
  have hB23 := hB2.ext hE3
  have f0 := blk0 hB13
  have f1 := blk1 hB13
  have hE := (hE1.trans hE2).trans hE3
  refine gg ?_
  refine R1_call1 (trim_ok _ _ _ _ w3 (hM.ext hE) rfl hc hc2) ?_
  rintro _ _ ⟨rfl, m, hm, rfl, htr, htv⟩
  refine ⟨Ext.refl _, ?_⟩
  refine gg ?_
  refine R1_call1 (clone_ok _ _ _ (l.take m) w3 ((hM.ext hE).take m) (List.length_take_of_le hm) (by omega) (fun e => by have := hM.none_len e; omega)) ?_
  rintro v w4 ⟨hE4, hv⟩
  refine ⟨hE4, ?_⟩
  refine gg ?_
  refine R1_call1 (build_ok (!neg) v _ w4 (natV_clone (hM.lim.take m) htr (List.length_take_of_le hm) hv)) ?_
  rintro _ w5 ⟨hE5, x', y', rfl, hcv⟩
  refine ⟨hE5, ?_⟩
  refine gg ?_
  refine R1_store2 agg_Int (.inl rfl) rfl rfl hcv.one0 hcv.one1 (hB23.ext (hE4.trans hE5)) (by decide) ?_
  intro w6 hB6 hC6 hs6
  refine gg ?_
  have hE6 : Ext w w6 := hC6.ext_of ((hE.trans hE4).trans hE5) (fun b hb => by have := hE1.size; omega)
  rw [htv, sg_not] at hcv
  exact retC rfl agg_Int rfl hB6 ⟨hE6, _, _, rfl, hcv.keep (hB23.ext (hE4.trans hE5)) noInt2 hC6⟩

set_option maxHeartbeats 8000000 in
theorem small_ok (z : Int) (w : World) (h1 : -9223372036854775808 ≤ z) (h2 : z < 9223372036854775808) :
    Meets Try.prog 72 #[.int .i64 z] w (RI w z) := by
  refine fn_W (n := 14) Try.func72 rfl rfl (by kernel_rfl) (by simp) ?_
  refine gg ?_
  refine R1_alloc (.inl rfl) z_Int ?_
  intro w1 hB1 hE1 hs1
  refine gg ?_
  by_cases hz : z < 0
  · refine W_seq ?_
    refine gg ?_
    refine R1_i64_u64 ty_i64 ty_u64 rfl ?_
    refine gg ?_
    refine R1_neg_u64 rfl (by omega) ?_
    refine gg ?_
    refine R1_call2 (fromWord_ok _ w1 (Nat.mod_lt _ (by decide))) ?_
    rintro v w2 ⟨hE2, hv⟩
    refine gg ?_
    refine R1_call2 (build_ok true v _ w2 hv) ?_
    rintro _ w3 ⟨hE3, x', y', rfl, hcv⟩
    refine gg ?_
    refine R1_store2 agg_Int (.inl rfl) rfl rfl hcv.one0 hcv.one1 (hB1.ext (hE2.trans hE3)) (by decide) ?_
    intro w6 hB6 hC6 hs6
    refine gg ?_
    have hE6 : Ext w w6 := hC6.ext_of ((hE1.trans hE2).trans hE3) (fun b hb => by omega)
    have e : sg true ((18446744073709551616 - (z % 18446744073709551616).toNat) % 18446744073709551616) = z := by rw [sg_true]; omega
    rw [e] at hcv
    exact retC rfl agg_Int rfl hB6 ⟨hE6, _, _, rfl, hcv.keep (hB1.ext (hE2.trans hE3)) noInt2 hC6⟩
  · refine W_seq ?_
    refine gg ?_
    refine R1_i64_u64 ty_i64 ty_u64 rfl ?_
    refine gg ?_
    refine R1_call2 (fromWord_ok _ w1 (by omega)) ?_
    rintro v w2 ⟨hE2, hv⟩
    refine gg ?_
    refine R1_call2 (build_ok false v _ w2 hv) ?_
    rintro _ w3 ⟨hE3, x', y', rfl, hcv⟩
    refine gg ?_
    refine R1_store2 agg_Int (.inl rfl) rfl rfl hcv.one0 hcv.one1 (hB1.ext (hE2.trans hE3)) (by decide) ?_
    intro w6 hB6 hC6 hs6
    refine gg ?_
    have hE6 : Ext w w6 := hC6.ext_of ((hE1.trans hE2).trans hE3) (fun b hb => by omega)
    have e : sg false ((z % 18446744073709551616).toNat) = z := by rw [sg_false]; omega
    rw [e] at hcv
    exact retC rfl agg_Int rfl hB6 ⟨hE6, _, _, rfl, hcv.keep (hB1.ext (hE2.trans hE3)) noInt2 hC6⟩

theorem val_zero {l : List Nat} (h : Trimd l) (hv : val l = 0) : l = [] := by
  rcases l with _ | ⟨a, r⟩
  · rfl
  · have := val_top (List.cons_ne_nil a r) h
    have := Nat.pow_pos (n := (a :: r).length - 1) (show 0 < B by decide)
    omega

set_option maxHeartbeats 8000000 in
theorem sign_ok (x y : Value) (z : Int) (N : Nat) (w : World) (h : IV w N x y z) (_hN : N < 1099511627776) :
    Meets Try.prog 85 #[.agg #[x, y]] w fun v w' => Ext w w' ∧ v = .int .i64 z.sign := by
  obtain ⟨neg, A, l, c, rfl, rfl, hc, hc2, hM, hl, rfl⟩ := h
  refine fn_W (n := 12) Try.func85 rfl rfl (by kernel_rfl) (by simp) ?_
  refine gg ?_
  refine R1_box (v := .agg _) (.inl rfl) rfl ?_
  intro w1 hB1 hE1 hs1
  have f0 := blk0 hB1
  have f1 := blk1 hB1
  refine gg ?_
  refine R1_call2 (trim_ok _ _ _ _ w1 (hM.ext hE1) rfl hc hc2) ?_
  rintro _ _ ⟨rfl, m, hm, rfl, htr, htv⟩
  by_cases hm0 : m = 0
  · refine gg ?_
    refine ret1 (v := .int _ _) rfl rfl ⟨hE1, ?_⟩
    subst hm0
    have : val l = 0 := by rw [← htv]; simp [val]
    rw [this]; cases neg <;> rfl
  · have hpos : 0 < val l := by
      rcases Nat.eq_zero_or_pos (val l) with h | h
      · have := val_zero htr (htv.trans h)
        have := congrArg List.length this
        rw [List.length_take_of_le hm] at this
        exact absurd this hm0
      · exact h
    cases neg
    · refine gg ?_
      refine ret1 (v := .int _ _) rfl rfl ⟨hE1, ?_⟩
      rw [sg_false, Int.sign_eq_one_of_pos (by omega)]; rfl
    · refine gg ?_
      refine ret1 (v := .int _ _) rfl rfl ⟨hE1, ?_⟩
      rw [sg_true, Int.sign_eq_neg_one_of_neg (by omega)]
end Go.Proofs.Ytimjiaabaanbeaa
