/- matrix.scalar, negated, Mul. -/
import Derived.Test.YtimjiaabaanbeaaMatc
namespace Go.Proofs.Ytimjiaabaanbeaa
open Go Go.Eng Go.Num Go.Proofs

def sumTo : Nat → (Nat → Int) → Int
  | 0, _ => 0
  | k + 1, f => sumTo k f + f k
def Bd (N : Nat) (z : Int) : Prop := z.natAbs < B ^ N
theorem B_pos (N : Nat) : 0 < B ^ N := Nat.pow_pos (by decide)
theorem Bd.mono {N N' : Nat} {z : Int} (h : Bd N z) (hN : N ≤ N') : Bd N' z := Nat.lt_of_lt_of_le h (Nat.pow_le_pow_right (by decide) hN)
theorem Bd.mul {N N' : Nat} {a b : Int} (ha : Bd N a) (hb : Bd N' b) : Bd (N + N') (a * b) := by
  unfold Bd at *
  rw [Int.natAbs_mul, Nat.pow_add]
  exact Nat.mul_lt_mul'' ha hb
theorem Bd.neg {N : Nat} {a : Int} (ha : Bd N a) : Bd N (-a) := by unfold Bd at *; rw [Int.natAbs_neg]; exact ha
theorem two_B (N : Nat) : B ^ N + B ^ N ≤ B ^ (N + 1) := by
  have := Nat.mul_le_mul (Nat.le_refl (B ^ N)) (show 2 ≤ B by decide)
  rw [Nat.pow_succ]; omega
theorem Bd.add {N : Nat} {a b : Int} (ha : Bd N a) (hb : Bd N b) : Bd (N + 1) (a + b) := by
  unfold Bd at *
  have := Int.natAbs_add_le a b
  have := two_B N
  omega
theorem Bd.sub {N : Nat} {a b : Int} (ha : Bd N a) (hb : Bd N b) : Bd (N + 1) (a - b) := by
  rw [Int.sub_eq_add_neg]; exact ha.add hb.neg
theorem Bd.ediv {N : Nat} {a b : Int} (ha : Bd N a) : Bd N (a / b) := by
  unfold Bd at *
  exact Nat.lt_of_le_of_lt (Int.natAbs_ediv_le_natAbs _ _) ha
theorem Bd.zero (N : Nat) : Bd N 0 := B_pos N
theorem sumTo_le (n N : Nat) (f : Nat → Int) (h : ∀ k, k < n → Bd N (f k)) : (sumTo n f).natAbs ≤ n * B ^ N := by
  induction n with
  | zero => simp [sumTo]
  | succ n ih =>
    have h1 := ih fun k hk => h k (by omega)
    have h2 : (f n).natAbs < B ^ N := h n (by omega)
    have := Int.natAbs_add_le (sumTo n f) (f n)
    rw [Nat.succ_mul]
    show (sumTo n f + f n).natAbs ≤ _
    omega
theorem sumTo_bd {n N : Nat} {f : Nat → Int} (hn : n < 4294967296) (h : ∀ k, k < n → Bd N (f k)) : Bd (N + 1) (sumTo n f) := by
  have h1 := sumTo_le n N f h
  have h2 : n * B ^ N < B * B ^ N := Nat.mul_lt_mul_of_pos_right hn (B_pos N)
  unfold Bd
  rw [Nat.pow_succ, Nat.mul_comm (B ^ N)]
  omega
theorem IV.mono {w : World} {N N' : Nat} {x y : Value} {z : Int} (h : IV w N x y z) (hN : N ≤ N') : IV w N' x y z := by
  obtain ⟨neg, A, l, c, h1, h2, h3, h4, h5, h6, h7⟩ := h
  exact ⟨neg, A, l, c, h1, h2, h3, h4, h5, by omega, h7⟩
theorem RowE.mono {w : World} {N N' c : Nat} {v : Value} {g : Nat → Int} (h : RowE (EI N) w v c g) (hN : N ≤ N') : RowE (EI N') w v c g := by
  obtain ⟨A, cap, rfl, h1, h2, h3⟩ := h
  refine ⟨A, cap, rfl, h1, h2, fun j hj => ?_⟩
  obtain ⟨ad, x, y, e, hx, hy, hi⟩ := h3 j hj
  exact ⟨ad, x, y, e, hx, hy, IV.mono hi hN⟩
theorem MatE.mono {w : World} {N N' r : Nat} {len : Nat → Nat} {v : Value} {M : Nat → Nat → Int} (h : MatE (EI N) w v r len M) (hN : N ≤ N') : MatE (EI N') w v r len M := by
  obtain ⟨A, cap, rfl, h1, h2, h3⟩ := h
  refine ⟨A, cap, rfl, h1, h2, fun j hj => ?_⟩
  obtain ⟨ad, u, e, hu, hr⟩ := h3 j hj
  exact ⟨ad, u, e, hu, hr.mono hN⟩
theorem blkP {w : World} {g T : Nat} {x y : Value} (h : Blk w g T #[x, y]) : w.cell? ⟨g, 0, none⟩ = some x ∧ w.cell? ((⟨g, 0, none⟩ : Addr).add 1) = some y := by
  refine ⟨by rw [h.cell]; rfl, by rw [add_lit, h.cell]; rfl⟩
theorem blkS {w : World} {g T : Nat} {x : Value} (h : Blk w g T #[x]) : w.cell? ⟨g, 0, none⟩ = some x := by rw [h.cell]; rfl

def scal (a : Int) : Nat → Nat → Int := fun i j => if i = j then a else 0
def mulM (n : Nat) (X Y : Nat → Nat → Int) : Nat → Nat → Int := fun i j => sumTo n fun k => X i k * Y k j

set_option maxHeartbeats 8000000 in
theorem scalar1_ok (i j g N : Nat) (x y : Value) (z : Int) (w : World) (hb : Blk w g 35 #[x, y]) (h : IV w N x y z) (hN : N < 1099511627776) :
    Meets Try.prog 99 #[.int .i64 ((i : Nat) : Int), .int .i64 ((j : Nat) : Int), .pointer (some ⟨g, 0, none⟩)] w (RI w (scal z i j)) := by
  refine fn_W (n := 12) Try.func99 rfl rfl (by kernel_rfl) (by simp) ?_
  refine gg ?_
  refine R1_alloc (.inl rfl) z_Int ?_
  intro w1 hB hE hs
  obtain ⟨f0, f1⟩ := blkP (hb.ext hE)
  refine gg ?_
  refine W_seq ?_
  by_cases hij : i = j
  · refine gg ?_
    refine R1_call2 (normalize_ok _ _ _ N w1 (h.ext hE) hN) ?_
    rintro _ w5 ⟨hE5, x', y', rfl, hcv⟩
    refine gg ?_
    refine R1_store2 agg_Int (.inl rfl) rfl rfl hcv.one0 hcv.one1 (hB.ext hE5) (by decide) ?_
    intro w6 hB6 hC6 hs6
    refine gg ?_
    have hE6 : Ext w w6 := hC6.ext_of (hE.trans hE5) (fun b hb => by omega)
    refine retC rfl agg_Int rfl hB6 ⟨hE6, _, _, rfl, ?_⟩
    rw [scal, if_pos hij]
    exact hcv.keep (hB.ext hE5) noInt2 hC6
  · refine gg ?_
    refine R1_bld0 b0_Int ?_
    refine gg ?_
    refine R1_store2 agg_Int (.inl rfl) rfl rfl rfl rfl hB (by decide) ?_
    intro w6 hB6 hC6 hs6
    refine gg ?_
    have hE6 : Ext w w6 := hC6.ext_of hE (fun b hb => by omega)
    refine retC rfl agg_Int rfl hB6 ⟨hE6, _, _, rfl, ?_⟩
    rw [scal, if_neg hij]
    exact CV.zero _

set_option maxHeartbeats 8000000 in
theorem scalar_ok (n N : Nat) (x y : Value) (z : Int) (w : World) (h : IV w N x y z) (hN : N < 1099511627776) (hn : n < 1073741824) (_ho0 : x.oneCell' = true) :
    Meets Try.prog 71 #[.int .i64 ((n : Nat) : Int), .agg #[x, y]] w (RM w n n (scal z)) := by
  refine fn_W (n := 9) Try.func71 rfl rfl (by kernel_rfl) (by simp) ?_
  refine gg ?_
  refine R1_box (v := .agg _) (.inl rfl) rfl ?_
  intro w1 hB hE hs
  refine gg ?_
  refine R1_func0 ?_
  refine gg ?_
  refine R1_call2 (mbuild_ok n n _ _ (scal z) w1 hn hn (fun i j _ _ w' hE' => scalar1_ok i j _ N x y z w' (hB.ext hE') (h.ext (hE.trans hE')) hN)) ?_
  rintro v w2 ⟨hE2, gO, gs, rfl, hg, hgs, hO⟩
  refine gg ?_
  have := hE.size
  exact ret1 (v := .slice _ _ _) rfl rfl ⟨hE.trans hE2, gO, gs, rfl, by omega, fun i hi => by have := hgs i hi; omega, hO⟩
end Go.Proofs.Ytimjiaabaanbeaa
