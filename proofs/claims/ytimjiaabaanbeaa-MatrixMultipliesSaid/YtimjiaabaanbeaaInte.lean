/- The program's integers: Int64. -/
import Derived.Test.YtimjiaabaanbeaaRefb
namespace Go.Proofs.Ytimjiaabaanbeaa
open Go Go.Eng Go.Num Go.Proofs

def fits (z : Int) : Bool := decide (-9223372036854775808 ≤ z ∧ z < 9223372036854775808)
def clip (z : Int) : Int := if fits z then z else 0
theorem fits_t {z : Int} (h1 : -9223372036854775808 ≤ z) (h2 : z < 9223372036854775808) : fits z = true ∧ clip z = z := by
  have : fits z = true := decide_eq_true ⟨h1, h2⟩
  exact ⟨this, if_pos this⟩
theorem fits_f {z : Int} (h : ¬ (-9223372036854775808 ≤ z ∧ z < 9223372036854775808)) : fits z = false ∧ clip z = 0 := by
  have : fits z = false := decide_eq_false h
  exact ⟨this, if_neg (by rw [this]; simp)⟩
theorem wrap_small (a : Nat) (h : a < 9223372036854775808) : IntKind.i64.wrap ((a : Nat) : Int) = (a : Int) := by
  rw [IntKind.wrap_i64]; omega
theorem wrap_neg (a : Nat) (h : a ≤ 9223372036854775808) : IntKind.i64.wrap (((18446744073709551616 - a) % 18446744073709551616 : Nat) : Int) = -(a : Int) := by
  rw [IntKind.wrap_i64]; omega

set_option maxHeartbeats 8000000 in
theorem int64_ok (x y : Value) (z : Int) (N : Nat) (w : World) (h : IV w N x y z) (_hN : N < 1099511627776) :
    Meets Try.prog 67 #[.agg #[x, y]] w fun v w' => Ext w w' ∧ v = .tuple #[.int .i64 (clip z), .bool (fits z)] := by
  obtain ⟨neg, A, l, c, rfl, rfl, hc, hc2, hM, hl, rfl⟩ := h
  refine fn_W (n := 34) Try.func67 rfl rfl (by kernel_rfl) (by simp) ?_
  refine gg ?_
  refine R1_box (v := .agg _) (.inl rfl) rfl ?_
  intro w1 hB1 hE1 hs1
  have f0 := blk0 hB1
  have f1 := blk1 hB1
  refine gg ?_
  refine R1_call2 (trim_ok _ _ _ _ w1 (hM.ext hE1) rfl hc hc2) ?_
  rintro _ _ ⟨rfl, m, hm, rfl, htr, htv⟩
  refine gg ?_
  by_cases hm2 : 2 < m
  · refine W_seq ?_
    refine gg ?_
    refine ret2 (v := .int _ _) (v' := .bool _) rfl rfl rfl ⟨hE1, ?_⟩
    have hne : l.take m ≠ [] := by intro e; have := congrArg List.length e; rw [List.length_take_of_le hm] at this; simp at this; omega
    have hv := val_top hne htr
    rw [htv, List.length_take_of_le hm] at hv
    have h2 : B ^ 2 ≤ B ^ (m - 1) := Nat.pow_le_pow_right (by decide) (by omega)
    have h3 : B ^ 2 = 18446744073709551616 := by decide
    have hf : fits (sg neg (val l)) = false ∧ clip (sg neg (val l)) = 0 := by
      refine fits_f ?_
      cases neg
      · rw [sg_false]; omega
      · rw [sg_true]; omega
    rw [hf.1, hf.2]; rfl
  · refine W_seq ?_
    have hv : val l < 18446744073709551616 := by
      rw [← htv]
      refine Nat.lt_of_lt_of_le (val_lt _ (hM.lim.take m)) ?_
      rw [List.length_take_of_le hm]
      exact Nat.le_trans (Nat.pow_le_pow_right (show 0 < B by decide) (show m ≤ 2 by omega)) (by decide)
    refine gg ?_
    refine R1_call2 (word_ok _ _ _ (l.take m) w1 ((hM.ext hE1).take m) (List.length_take_of_le hm) (by omega)) ?_
    rintro _ _ ⟨rfl, rfl⟩
    rw [htv]
    refine gg ?_
    cases neg
    · by_cases hs : val l < 9223372036854775808
      · refine gg ?_
        refine R1_u64_i64 ty_u64 ty_i64 rfl (wrap_small _ hs) ?_
        refine gg ?_
        refine ret2 (v := .int _ _) (v' := .bool _) rfl rfl rfl ⟨hE1, ?_⟩
        have hf := fits_t (z := sg false (val l)) (by rw [sg_false]; omega) (by rw [sg_false]; omega)
        rw [hf.1, hf.2]; rfl
      · refine gg ?_
        refine ret2 (v := .int _ _) (v' := .bool _) rfl rfl rfl ⟨hE1, ?_⟩
        have hf := fits_f (z := sg false (val l)) (by rw [sg_false]; omega)
        rw [hf.1, hf.2]; rfl
    · by_cases hs : val l ≤ 9223372036854775808
      · refine gg ?_
        refine R1_neg_u64 rfl (by omega) ?_
        refine gg ?_
        refine R1_u64_i64 ty_u64 ty_i64 rfl (wrap_neg _ hs) ?_
        refine gg ?_
        refine ret2 (v := .int _ _) (v' := .bool _) rfl rfl rfl ⟨hE1, ?_⟩
        have hf := fits_t (z := sg true (val l)) (by rw [sg_true]; omega) (by rw [sg_true]; omega)
        rw [hf.1, hf.2]; rfl
      · refine gg ?_
        refine ret2 (v := .int _ _) (v' := .bool _) rfl rfl rfl ⟨hE1, ?_⟩
        have hf := fits_f (z := sg true (val l)) (by rw [sg_true]; omega)
        rw [hf.1, hf.2]; rfl
end Go.Proofs.Ytimjiaabaanbeaa
