/- Steps of a walk: one lemma for each kind of operation, in the engine's judgement. Over any program. -/
import Derived.Test.YtimjiaabaanbeaaEng
import Derived.WalkKit
import Derived.Laws.BitsAllLaws
namespace Go.Eng
open Go Go.RowKit

/-- a copy of another slot -/
def mv (f : Fr) (d t : Nat) : Fr := fun i => bif Nat.beq i d then f t else f i

theorem wrap_i64 {a : Int} (h : -9223372036854775808 ≤ a) (h2 : a < 9223372036854775808) : IntKind.i64.wrap a = a := by rw [IntKind.wrap_i64]; omega
theorem wrap_i64n {a : Nat} (h : a < 9223372036854775808) : IntKind.i64.wrap (a : Int) = a := wrap_i64 (by omega) (by omega)
theorem wrap_u64 (a : Int) : IntKind.u64.wrap a = a % 18446744073709551616 := IntKind.wrap_u64 a
theorem wrap_u32 (a : Int) : IntKind.u32.wrap a = a % 4294967296 := IntKind.wrap_u32 a
theorem wrap_u32m (a : Nat) : IntKind.u32.wrap (a : Int) = ((a % 4294967296 : Nat) : Int) := by rw [wrap_u32]; omega
theorem wrap_u64n {a : Nat} (h : a < 18446744073709551616) : IntKind.u64.wrap (a : Int) = a := by rw [wrap_u64]; omega
theorem wrap_u32n {a : Nat} (h : a < 4294967296) : IntKind.u32.wrap (a : Int) = a := by rw [wrap_u32]; omega

section
variable {P : Program} {n : Nat} {S : World → World → Prop} {k : Nat} {K : Fr → World → Prop} {f : Fr} {w : World}
  {d ty t t2 : Nat} {x y : Operand} {pos : String} {aft : Array Edge} {g : Option (Nat × Bool)}

theorem R1_moveT {i : Nat} (hi : Nat.blt i n = true) (h : K (mv f d i) w) : R1 P n S k ⟨some d, .move (.tmp i), ty, pos, aft, g⟩ K f w := by
  refine R1_pure (v := ev n f (.tmp i)) (fun w => rfl) ?_
  have e : updO f (some d) (ev n f (.tmp i)) = mv f d i := by funext j; simp [ev, hi, updO, mv, upd]
  rw [e]; exact h
theorem R1_assignT {i : Nat} (hi : Nat.blt i n = true) (h : K (mv f d i) w) : R1 P n S k ⟨some d, .assign (.tmp i), ty, pos, aft, g⟩ K f w := by
  refine R1_pure (v := ev n f (.tmp i)) (fun w => rfl) ?_
  have e : updO f (some d) (ev n f (.tmp i)) = mv f d i := by funext j; simp [ev, hi, updO, mv, upd]
  rw [e]; exact h
theorem R1_moveCi {kd : IntKind} {m : Nat} (h : K (upd f d (.int kd (((OfNat.ofNat m : Nat)) : Int))) w) : R1 P n S k ⟨some d, .move (.const (.int kd (OfNat.ofNat m))), ty, pos, aft, g⟩ K f w :=
  R1_pure (v := .int kd (((OfNat.ofNat m : Nat)) : Int)) (fun _ => rfl) h
theorem R1_assignCi {kd : IntKind} {m : Nat} (h : K (upd f d (.int kd (((OfNat.ofNat m : Nat)) : Int))) w) : R1 P n S k ⟨some d, .assign (.const (.int kd (OfNat.ofNat m))), ty, pos, aft, g⟩ K f w :=
  R1_pure (v := .int kd (((OfNat.ofNat m : Nat)) : Int)) (fun _ => rfl) h
theorem R1_moveC {v : Value} (h : K (upd f d v) w) : R1 P n S k ⟨some d, .move (.const v), ty, pos, aft, g⟩ K f w :=
  R1_pure (v := v) (fun _ => rfl) h
theorem R1_assignC {v : Value} (h : K (upd f d v) w) : R1 P n S k ⟨some d, .assign (.const v), ty, pos, aft, g⟩ K f w :=
  R1_pure (v := v) (fun _ => rfl) h

theorem R1_bin {op : BinOp} {r vx vy : Value} (hx : ev n f x = vx) (hy : ev n f y = vy) (hg : ∀ w, (eqGuard op t x y vx vy).run P w = .ok () w) (hr : ∀ w, (binOp op t vx vy).run P w = .ok r w)
    (h : K (upd f d r) w) : R1 P n S k ⟨some d, .binOp op t x y t2, ty, pos, aft, g⟩ K f w := by
  refine R1_pure (v := r) (fun w => ?_) h
  simp only [execOp, hx, hy, Sem.run_bind, hg, hr, Result.andThen_ok, Sem.run_pure]
theorem R1_add_i64 {a b : Nat} (hx : ev n f x = .int .i64 ((a : Nat) : Int)) (hy : ev n f y = .int .i64 ((b : Nat) : Int)) (hb : a + b < 9223372036854775808) (h : K (upd f d (.int .i64 ((a + b : Nat) : Int))) w) : R1 P n S k ⟨some d, .binOp .add t x y t2, ty, pos, aft, g⟩ K f w := by
  refine R1_bin hx hy (fun _ => by simp [eqGuard, go_sem]) (fun _ => ?_) h
  simp only [binOp, Op.intArith, ne_eq, not_true_eq_false, if_false]; rw [← Int.natCast_add, wrap_i64n hb]; rfl
theorem R1_sub_i64 {a b : Nat} (hx : ev n f x = .int .i64 ((a : Nat) : Int)) (hy : ev n f y = .int .i64 ((b : Nat) : Int)) (ha : a < 9223372036854775808) (hb : b ≤ a) (h : K (upd f d (.int .i64 ((a - b : Nat) : Int))) w) : R1 P n S k ⟨some d, .binOp .sub t x y t2, ty, pos, aft, g⟩ K f w := by
  refine R1_bin hx hy (fun _ => by simp [eqGuard, go_sem]) (fun _ => ?_) h
  simp only [binOp, Op.intArith, ne_eq, not_true_eq_false, if_false]; rw [← Int.natCast_sub hb, wrap_i64n (by omega)]; rfl
theorem R1_mul_i64 {a b : Nat} (hx : ev n f x = .int .i64 ((a : Nat) : Int)) (hy : ev n f y = .int .i64 ((b : Nat) : Int)) (hb : a * b < 9223372036854775808) (h : K (upd f d (.int .i64 ((a * b : Nat) : Int))) w) : R1 P n S k ⟨some d, .binOp .mul t x y t2, ty, pos, aft, g⟩ K f w := by
  refine R1_bin hx hy (fun _ => by simp [eqGuard, go_sem]) (fun _ => ?_) h
  simp only [binOp, Op.intArith, ne_eq, not_true_eq_false, if_false]; rw [← Int.natCast_mul, wrap_i64n hb]; rfl
theorem R1_quo_i64 {a b : Nat} (hx : ev n f x = .int .i64 ((a : Nat) : Int)) (hy : ev n f y = .int .i64 ((b : Nat) : Int)) (ha : a < 9223372036854775808) (hb : 0 < b) (h : K (upd f d (.int .i64 ((a / b : Nat) : Int))) w) : R1 P n S k ⟨some d, .binOp .quo t x y t2, ty, pos, aft, g⟩ K f w := by
  refine R1_bin hx hy (fun _ => by simp [eqGuard, go_sem]) (fun _ => ?_) h
  have e : ((b : Int) = 0) = False := by (simp; omega)
  simp only [binOp, Op.intDiv, ne_eq, not_true_eq_false, if_false, e]; rw [← Int.ofNat_tdiv, wrap_i64n (Nat.lt_of_le_of_lt (Nat.div_le_self _ _) ha)]; rfl
theorem R1_rem_i64 {a b : Nat} (hx : ev n f x = .int .i64 ((a : Nat) : Int)) (hy : ev n f y = .int .i64 ((b : Nat) : Int)) (hb : 0 < b) (h : K (upd f d (.int .i64 ((a % b : Nat) : Int))) w) : R1 P n S k ⟨some d, .binOp .rem t x y t2, ty, pos, aft, g⟩ K f w := by
  refine R1_bin hx hy (fun _ => by simp [eqGuard, go_sem]) (fun _ => ?_) h
  have e : ((b : Int) = 0) = False := by (simp; omega)
  simp only [binOp, Op.intDiv, ne_eq, not_true_eq_false, if_false, e]; rw [← Int.ofNat_tmod]; rfl
theorem R1_add_u64 {a b : Nat} (hx : ev n f x = .int .u64 ((a : Nat) : Int)) (hy : ev n f y = .int .u64 ((b : Nat) : Int)) (hb : a + b < 18446744073709551616) (h : K (upd f d (.int .u64 ((a + b : Nat) : Int))) w) : R1 P n S k ⟨some d, .binOp .add t x y t2, ty, pos, aft, g⟩ K f w := by
  refine R1_bin hx hy (fun _ => by simp [eqGuard, go_sem]) (fun _ => ?_) h
  simp only [binOp, Op.intArith, ne_eq, not_true_eq_false, if_false]; rw [← Int.natCast_add, wrap_u64n hb]; rfl
theorem R1_sub_u64 {a b : Nat} (hx : ev n f x = .int .u64 ((a : Nat) : Int)) (hy : ev n f y = .int .u64 ((b : Nat) : Int)) (ha : a < 18446744073709551616) (hb : b ≤ a) (h : K (upd f d (.int .u64 ((a - b : Nat) : Int))) w) : R1 P n S k ⟨some d, .binOp .sub t x y t2, ty, pos, aft, g⟩ K f w := by
  refine R1_bin hx hy (fun _ => by simp [eqGuard, go_sem]) (fun _ => ?_) h
  simp only [binOp, Op.intArith, ne_eq, not_true_eq_false, if_false]; rw [← Int.natCast_sub hb, wrap_u64n (by omega)]; rfl
theorem R1_mul_u64 {a b : Nat} (hx : ev n f x = .int .u64 ((a : Nat) : Int)) (hy : ev n f y = .int .u64 ((b : Nat) : Int)) (hb : a * b < 18446744073709551616) (h : K (upd f d (.int .u64 ((a * b : Nat) : Int))) w) : R1 P n S k ⟨some d, .binOp .mul t x y t2, ty, pos, aft, g⟩ K f w := by
  refine R1_bin hx hy (fun _ => by simp [eqGuard, go_sem]) (fun _ => ?_) h
  simp only [binOp, Op.intArith, ne_eq, not_true_eq_false, if_false]; rw [← Int.natCast_mul, wrap_u64n hb]; rfl
theorem R1_quo_u64 {a b : Nat} (hx : ev n f x = .int .u64 ((a : Nat) : Int)) (hy : ev n f y = .int .u64 ((b : Nat) : Int)) (ha : a < 18446744073709551616) (hb : 0 < b) (h : K (upd f d (.int .u64 ((a / b : Nat) : Int))) w) : R1 P n S k ⟨some d, .binOp .quo t x y t2, ty, pos, aft, g⟩ K f w := by
  refine R1_bin hx hy (fun _ => by simp [eqGuard, go_sem]) (fun _ => ?_) h
  have e : ((b : Int) = 0) = False := by (simp; omega)
  simp only [binOp, Op.intDiv, ne_eq, not_true_eq_false, if_false, e]; rw [← Int.ofNat_tdiv, wrap_u64n (Nat.lt_of_le_of_lt (Nat.div_le_self _ _) ha)]; rfl
theorem R1_rem_u64 {a b : Nat} (hx : ev n f x = .int .u64 ((a : Nat) : Int)) (hy : ev n f y = .int .u64 ((b : Nat) : Int)) (hb : 0 < b) (h : K (upd f d (.int .u64 ((a % b : Nat) : Int))) w) : R1 P n S k ⟨some d, .binOp .rem t x y t2, ty, pos, aft, g⟩ K f w := by
  refine R1_bin hx hy (fun _ => by simp [eqGuard, go_sem]) (fun _ => ?_) h
  have e : ((b : Int) = 0) = False := by (simp; omega)
  simp only [binOp, Op.intDiv, ne_eq, not_true_eq_false, if_false, e]; rw [← Int.ofNat_tmod]; rfl
theorem R1_add_u32 {a b : Nat} (hx : ev n f x = .int .u32 ((a : Nat) : Int)) (hy : ev n f y = .int .u32 ((b : Nat) : Int)) (hb : a + b < 4294967296) (h : K (upd f d (.int .u32 ((a + b : Nat) : Int))) w) : R1 P n S k ⟨some d, .binOp .add t x y t2, ty, pos, aft, g⟩ K f w := by
  refine R1_bin hx hy (fun _ => by simp [eqGuard, go_sem]) (fun _ => ?_) h
  simp only [binOp, Op.intArith, ne_eq, not_true_eq_false, if_false]; rw [← Int.natCast_add, wrap_u32n hb]; rfl
theorem R1_sub_u32 {a b : Nat} (hx : ev n f x = .int .u32 ((a : Nat) : Int)) (hy : ev n f y = .int .u32 ((b : Nat) : Int)) (ha : a < 4294967296) (hb : b ≤ a) (h : K (upd f d (.int .u32 ((a - b : Nat) : Int))) w) : R1 P n S k ⟨some d, .binOp .sub t x y t2, ty, pos, aft, g⟩ K f w := by
  refine R1_bin hx hy (fun _ => by simp [eqGuard, go_sem]) (fun _ => ?_) h
  simp only [binOp, Op.intArith, ne_eq, not_true_eq_false, if_false]; rw [← Int.natCast_sub hb, wrap_u32n (by omega)]; rfl
theorem R1_mul_u32 {a b : Nat} (hx : ev n f x = .int .u32 ((a : Nat) : Int)) (hy : ev n f y = .int .u32 ((b : Nat) : Int)) (hb : a * b < 4294967296) (h : K (upd f d (.int .u32 ((a * b : Nat) : Int))) w) : R1 P n S k ⟨some d, .binOp .mul t x y t2, ty, pos, aft, g⟩ K f w := by
  refine R1_bin hx hy (fun _ => by simp [eqGuard, go_sem]) (fun _ => ?_) h
  simp only [binOp, Op.intArith, ne_eq, not_true_eq_false, if_false]; rw [← Int.natCast_mul, wrap_u32n hb]; rfl
theorem R1_quo_u32 {a b : Nat} (hx : ev n f x = .int .u32 ((a : Nat) : Int)) (hy : ev n f y = .int .u32 ((b : Nat) : Int)) (ha : a < 4294967296) (hb : 0 < b) (h : K (upd f d (.int .u32 ((a / b : Nat) : Int))) w) : R1 P n S k ⟨some d, .binOp .quo t x y t2, ty, pos, aft, g⟩ K f w := by
  refine R1_bin hx hy (fun _ => by simp [eqGuard, go_sem]) (fun _ => ?_) h
  have e : ((b : Int) = 0) = False := by (simp; omega)
  simp only [binOp, Op.intDiv, ne_eq, not_true_eq_false, if_false, e]; rw [← Int.ofNat_tdiv, wrap_u32n (Nat.lt_of_le_of_lt (Nat.div_le_self _ _) ha)]; rfl
theorem R1_rem_u32 {a b : Nat} (hx : ev n f x = .int .u32 ((a : Nat) : Int)) (hy : ev n f y = .int .u32 ((b : Nat) : Int)) (hb : 0 < b) (h : K (upd f d (.int .u32 ((a % b : Nat) : Int))) w) : R1 P n S k ⟨some d, .binOp .rem t x y t2, ty, pos, aft, g⟩ K f w := by
  refine R1_bin hx hy (fun _ => by simp [eqGuard, go_sem]) (fun _ => ?_) h
  have e : ((b : Int) = 0) = False := by (simp; omega)
  simp only [binOp, Op.intDiv, ne_eq, not_true_eq_false, if_false, e]; rw [← Int.ofNat_tmod]; rfl
theorem R1_addm_u64 {a b : Nat} (hx : ev n f x = .int .u64 ((a : Nat) : Int)) (hy : ev n f y = .int .u64 ((b : Nat) : Int)) (h : K (upd f d (.int .u64 (((a + b) % 18446744073709551616 : Nat) : Int))) w) : R1 P n S k ⟨some d, .binOp .add t x y t2, ty, pos, aft, g⟩ K f w := by
  refine R1_bin hx hy (fun _ => by simp [eqGuard, go_sem]) (fun _ => ?_) h
  simp only [binOp, Op.intArith, ne_eq, not_true_eq_false, if_false]; rw [← Int.natCast_add, wrap_u64]; rfl
theorem R1_subm_u64 {a b : Nat} (hx : ev n f x = .int .u64 ((a : Nat) : Int)) (hy : ev n f y = .int .u64 ((b : Nat) : Int)) (hb : b ≤ 18446744073709551616) (h : K (upd f d (.int .u64 (((a + (18446744073709551616 - b)) % 18446744073709551616 : Nat) : Int))) w) : R1 P n S k ⟨some d, .binOp .sub t x y t2, ty, pos, aft, g⟩ K f w := by
  refine R1_bin hx hy (fun _ => by simp [eqGuard, go_sem]) (fun _ => ?_) h
  simp only [binOp, Op.intArith, ne_eq, not_true_eq_false, if_false]; rw [wrap_u64, show ((a : Int) - b) % 18446744073709551616 = (((a + (18446744073709551616 - b)) % 18446744073709551616 : Nat) : Int) from by omega]; rfl
theorem R1_mulm_u64 {a b : Nat} (hx : ev n f x = .int .u64 ((a : Nat) : Int)) (hy : ev n f y = .int .u64 ((b : Nat) : Int)) (h : K (upd f d (.int .u64 (((a * b) % 18446744073709551616 : Nat) : Int))) w) : R1 P n S k ⟨some d, .binOp .mul t x y t2, ty, pos, aft, g⟩ K f w := by
  refine R1_bin hx hy (fun _ => by simp [eqGuard, go_sem]) (fun _ => ?_) h
  simp only [binOp, Op.intArith, ne_eq, not_true_eq_false, if_false]; rw [← Int.natCast_mul, wrap_u64]; rfl
theorem R1_addm_u32 {a b : Nat} (hx : ev n f x = .int .u32 ((a : Nat) : Int)) (hy : ev n f y = .int .u32 ((b : Nat) : Int)) (h : K (upd f d (.int .u32 (((a + b) % 4294967296 : Nat) : Int))) w) : R1 P n S k ⟨some d, .binOp .add t x y t2, ty, pos, aft, g⟩ K f w := by
  refine R1_bin hx hy (fun _ => by simp [eqGuard, go_sem]) (fun _ => ?_) h
  simp only [binOp, Op.intArith, ne_eq, not_true_eq_false, if_false]; rw [← Int.natCast_add, wrap_u32]; rfl
theorem R1_subm_u32 {a b : Nat} (hx : ev n f x = .int .u32 ((a : Nat) : Int)) (hy : ev n f y = .int .u32 ((b : Nat) : Int)) (hb : b ≤ 4294967296) (h : K (upd f d (.int .u32 (((a + (4294967296 - b)) % 4294967296 : Nat) : Int))) w) : R1 P n S k ⟨some d, .binOp .sub t x y t2, ty, pos, aft, g⟩ K f w := by
  refine R1_bin hx hy (fun _ => by simp [eqGuard, go_sem]) (fun _ => ?_) h
  simp only [binOp, Op.intArith, ne_eq, not_true_eq_false, if_false]; rw [wrap_u32, show ((a : Int) - b) % 4294967296 = (((a + (4294967296 - b)) % 4294967296 : Nat) : Int) from by omega]; rfl
theorem R1_mulm_u32 {a b : Nat} (hx : ev n f x = .int .u32 ((a : Nat) : Int)) (hy : ev n f y = .int .u32 ((b : Nat) : Int)) (h : K (upd f d (.int .u32 (((a * b) % 4294967296 : Nat) : Int))) w) : R1 P n S k ⟨some d, .binOp .mul t x y t2, ty, pos, aft, g⟩ K f w := by
  refine R1_bin hx hy (fun _ => by simp [eqGuard, go_sem]) (fun _ => ?_) h
  simp only [binOp, Op.intArith, ne_eq, not_true_eq_false, if_false]; rw [← Int.natCast_mul, wrap_u32]; rfl
theorem R1_lss_i64 {a b : Nat} (hx : ev n f x = .int .i64 ((a : Nat) : Int)) (hy : ev n f y = .int .i64 ((b : Nat) : Int)) (h : K (upd f d (.bool (decide (a < b)))) w) : R1 P n S k ⟨some d, .binOp .lss t x y t2, ty, pos, aft, g⟩ K f w := by
  refine R1_bin hx hy (fun _ => by simp [eqGuard, go_sem]) (fun _ => ?_) h
  simp only [binOp, Op.intCmp, ne_eq, not_true_eq_false, if_false]; rw [show (decide ((a : Int) < b)) = decide (a < b) from by rw [Bool.eq_iff_iff]; simp]; rfl
theorem R1_leq_i64 {a b : Nat} (hx : ev n f x = .int .i64 ((a : Nat) : Int)) (hy : ev n f y = .int .i64 ((b : Nat) : Int)) (h : K (upd f d (.bool (decide (a ≤ b)))) w) : R1 P n S k ⟨some d, .binOp .leq t x y t2, ty, pos, aft, g⟩ K f w := by
  refine R1_bin hx hy (fun _ => by simp [eqGuard, go_sem]) (fun _ => ?_) h
  simp only [binOp, Op.intCmp, ne_eq, not_true_eq_false, if_false]; rw [show (decide ((a : Int) ≤ b)) = decide (a ≤ b) from by rw [Bool.eq_iff_iff]; simp]; rfl
theorem R1_gtr_i64 {a b : Nat} (hx : ev n f x = .int .i64 ((a : Nat) : Int)) (hy : ev n f y = .int .i64 ((b : Nat) : Int)) (h : K (upd f d (.bool (decide (b < a)))) w) : R1 P n S k ⟨some d, .binOp .gtr t x y t2, ty, pos, aft, g⟩ K f w := by
  refine R1_bin hx hy (fun _ => by simp [eqGuard, go_sem]) (fun _ => ?_) h
  simp only [binOp, Op.intCmp, ne_eq, not_true_eq_false, if_false]; rw [show (decide ((a : Int) > b)) = decide (b < a) from by rw [Bool.eq_iff_iff]; simp]; rfl
theorem R1_geq_i64 {a b : Nat} (hx : ev n f x = .int .i64 ((a : Nat) : Int)) (hy : ev n f y = .int .i64 ((b : Nat) : Int)) (h : K (upd f d (.bool (decide (b ≤ a)))) w) : R1 P n S k ⟨some d, .binOp .geq t x y t2, ty, pos, aft, g⟩ K f w := by
  refine R1_bin hx hy (fun _ => by simp [eqGuard, go_sem]) (fun _ => ?_) h
  simp only [binOp, Op.intCmp, ne_eq, not_true_eq_false, if_false]; rw [show (decide ((a : Int) ≥ b)) = decide (b ≤ a) from by rw [Bool.eq_iff_iff]; simp]; rfl
theorem R1_eql_i64 {a b : Nat} (hx : ev n f x = .int .i64 ((a : Nat) : Int)) (hy : ev n f y = .int .i64 ((b : Nat) : Int)) (h : K (upd f d (.bool (decide (a = b)))) w) : R1 P n S k ⟨some d, .binOp .eql t x y t2, ty, pos, aft, g⟩ K f w := by
  refine R1_bin hx hy (fun _ => by simp [eqGuard, go_sem]) (fun _ => ?_) h
  simp only [binOp, Op.intCmp, ne_eq, not_true_eq_false, if_false]; rw [show ((a : Int) == b) = decide (a = b) from by rw [Bool.eq_iff_iff]; simp; omega]; rfl
theorem R1_neq_i64 {a b : Nat} (hx : ev n f x = .int .i64 ((a : Nat) : Int)) (hy : ev n f y = .int .i64 ((b : Nat) : Int)) (h : K (upd f d (.bool (decide (¬ a = b)))) w) : R1 P n S k ⟨some d, .binOp .neq t x y t2, ty, pos, aft, g⟩ K f w := by
  refine R1_bin hx hy (fun _ => by simp [eqGuard, go_sem]) (fun _ => ?_) h
  simp only [binOp, Op.intCmp, ne_eq, not_true_eq_false, if_false]; rw [show ((a : Int) != b) = decide (¬ a = b) from by rw [Bool.eq_iff_iff]; simp; omega]; rfl
theorem R1_lss_u64 {a b : Nat} (hx : ev n f x = .int .u64 ((a : Nat) : Int)) (hy : ev n f y = .int .u64 ((b : Nat) : Int)) (h : K (upd f d (.bool (decide (a < b)))) w) : R1 P n S k ⟨some d, .binOp .lss t x y t2, ty, pos, aft, g⟩ K f w := by
  refine R1_bin hx hy (fun _ => by simp [eqGuard, go_sem]) (fun _ => ?_) h
  simp only [binOp, Op.intCmp, ne_eq, not_true_eq_false, if_false]; rw [show (decide ((a : Int) < b)) = decide (a < b) from by rw [Bool.eq_iff_iff]; simp]; rfl
theorem R1_leq_u64 {a b : Nat} (hx : ev n f x = .int .u64 ((a : Nat) : Int)) (hy : ev n f y = .int .u64 ((b : Nat) : Int)) (h : K (upd f d (.bool (decide (a ≤ b)))) w) : R1 P n S k ⟨some d, .binOp .leq t x y t2, ty, pos, aft, g⟩ K f w := by
  refine R1_bin hx hy (fun _ => by simp [eqGuard, go_sem]) (fun _ => ?_) h
  simp only [binOp, Op.intCmp, ne_eq, not_true_eq_false, if_false]; rw [show (decide ((a : Int) ≤ b)) = decide (a ≤ b) from by rw [Bool.eq_iff_iff]; simp]; rfl
theorem R1_gtr_u64 {a b : Nat} (hx : ev n f x = .int .u64 ((a : Nat) : Int)) (hy : ev n f y = .int .u64 ((b : Nat) : Int)) (h : K (upd f d (.bool (decide (b < a)))) w) : R1 P n S k ⟨some d, .binOp .gtr t x y t2, ty, pos, aft, g⟩ K f w := by
  refine R1_bin hx hy (fun _ => by simp [eqGuard, go_sem]) (fun _ => ?_) h
  simp only [binOp, Op.intCmp, ne_eq, not_true_eq_false, if_false]; rw [show (decide ((a : Int) > b)) = decide (b < a) from by rw [Bool.eq_iff_iff]; simp]; rfl
theorem R1_geq_u64 {a b : Nat} (hx : ev n f x = .int .u64 ((a : Nat) : Int)) (hy : ev n f y = .int .u64 ((b : Nat) : Int)) (h : K (upd f d (.bool (decide (b ≤ a)))) w) : R1 P n S k ⟨some d, .binOp .geq t x y t2, ty, pos, aft, g⟩ K f w := by
  refine R1_bin hx hy (fun _ => by simp [eqGuard, go_sem]) (fun _ => ?_) h
  simp only [binOp, Op.intCmp, ne_eq, not_true_eq_false, if_false]; rw [show (decide ((a : Int) ≥ b)) = decide (b ≤ a) from by rw [Bool.eq_iff_iff]; simp]; rfl
theorem R1_eql_u64 {a b : Nat} (hx : ev n f x = .int .u64 ((a : Nat) : Int)) (hy : ev n f y = .int .u64 ((b : Nat) : Int)) (h : K (upd f d (.bool (decide (a = b)))) w) : R1 P n S k ⟨some d, .binOp .eql t x y t2, ty, pos, aft, g⟩ K f w := by
  refine R1_bin hx hy (fun _ => by simp [eqGuard, go_sem]) (fun _ => ?_) h
  simp only [binOp, Op.intCmp, ne_eq, not_true_eq_false, if_false]; rw [show ((a : Int) == b) = decide (a = b) from by rw [Bool.eq_iff_iff]; simp; omega]; rfl
theorem R1_neq_u64 {a b : Nat} (hx : ev n f x = .int .u64 ((a : Nat) : Int)) (hy : ev n f y = .int .u64 ((b : Nat) : Int)) (h : K (upd f d (.bool (decide (¬ a = b)))) w) : R1 P n S k ⟨some d, .binOp .neq t x y t2, ty, pos, aft, g⟩ K f w := by
  refine R1_bin hx hy (fun _ => by simp [eqGuard, go_sem]) (fun _ => ?_) h
  simp only [binOp, Op.intCmp, ne_eq, not_true_eq_false, if_false]; rw [show ((a : Int) != b) = decide (¬ a = b) from by rw [Bool.eq_iff_iff]; simp; omega]; rfl
theorem R1_lss_u32 {a b : Nat} (hx : ev n f x = .int .u32 ((a : Nat) : Int)) (hy : ev n f y = .int .u32 ((b : Nat) : Int)) (h : K (upd f d (.bool (decide (a < b)))) w) : R1 P n S k ⟨some d, .binOp .lss t x y t2, ty, pos, aft, g⟩ K f w := by
  refine R1_bin hx hy (fun _ => by simp [eqGuard, go_sem]) (fun _ => ?_) h
  simp only [binOp, Op.intCmp, ne_eq, not_true_eq_false, if_false]; rw [show (decide ((a : Int) < b)) = decide (a < b) from by rw [Bool.eq_iff_iff]; simp]; rfl
theorem R1_leq_u32 {a b : Nat} (hx : ev n f x = .int .u32 ((a : Nat) : Int)) (hy : ev n f y = .int .u32 ((b : Nat) : Int)) (h : K (upd f d (.bool (decide (a ≤ b)))) w) : R1 P n S k ⟨some d, .binOp .leq t x y t2, ty, pos, aft, g⟩ K f w := by
  refine R1_bin hx hy (fun _ => by simp [eqGuard, go_sem]) (fun _ => ?_) h
  simp only [binOp, Op.intCmp, ne_eq, not_true_eq_false, if_false]; rw [show (decide ((a : Int) ≤ b)) = decide (a ≤ b) from by rw [Bool.eq_iff_iff]; simp]; rfl
theorem R1_gtr_u32 {a b : Nat} (hx : ev n f x = .int .u32 ((a : Nat) : Int)) (hy : ev n f y = .int .u32 ((b : Nat) : Int)) (h : K (upd f d (.bool (decide (b < a)))) w) : R1 P n S k ⟨some d, .binOp .gtr t x y t2, ty, pos, aft, g⟩ K f w := by
  refine R1_bin hx hy (fun _ => by simp [eqGuard, go_sem]) (fun _ => ?_) h
  simp only [binOp, Op.intCmp, ne_eq, not_true_eq_false, if_false]; rw [show (decide ((a : Int) > b)) = decide (b < a) from by rw [Bool.eq_iff_iff]; simp]; rfl
theorem R1_geq_u32 {a b : Nat} (hx : ev n f x = .int .u32 ((a : Nat) : Int)) (hy : ev n f y = .int .u32 ((b : Nat) : Int)) (h : K (upd f d (.bool (decide (b ≤ a)))) w) : R1 P n S k ⟨some d, .binOp .geq t x y t2, ty, pos, aft, g⟩ K f w := by
  refine R1_bin hx hy (fun _ => by simp [eqGuard, go_sem]) (fun _ => ?_) h
  simp only [binOp, Op.intCmp, ne_eq, not_true_eq_false, if_false]; rw [show (decide ((a : Int) ≥ b)) = decide (b ≤ a) from by rw [Bool.eq_iff_iff]; simp]; rfl
theorem R1_eql_u32 {a b : Nat} (hx : ev n f x = .int .u32 ((a : Nat) : Int)) (hy : ev n f y = .int .u32 ((b : Nat) : Int)) (h : K (upd f d (.bool (decide (a = b)))) w) : R1 P n S k ⟨some d, .binOp .eql t x y t2, ty, pos, aft, g⟩ K f w := by
  refine R1_bin hx hy (fun _ => by simp [eqGuard, go_sem]) (fun _ => ?_) h
  simp only [binOp, Op.intCmp, ne_eq, not_true_eq_false, if_false]; rw [show ((a : Int) == b) = decide (a = b) from by rw [Bool.eq_iff_iff]; simp; omega]; rfl
theorem R1_neq_u32 {a b : Nat} (hx : ev n f x = .int .u32 ((a : Nat) : Int)) (hy : ev n f y = .int .u32 ((b : Nat) : Int)) (h : K (upd f d (.bool (decide (¬ a = b)))) w) : R1 P n S k ⟨some d, .binOp .neq t x y t2, ty, pos, aft, g⟩ K f w := by
  refine R1_bin hx hy (fun _ => by simp [eqGuard, go_sem]) (fun _ => ?_) h
  simp only [binOp, Op.intCmp, ne_eq, not_true_eq_false, if_false]; rw [show ((a : Int) != b) = decide (¬ a = b) from by rw [Bool.eq_iff_iff]; simp; omega]; rfl
theorem R1_lss_u8 {a b : Nat} (hx : ev n f x = .int .u8 ((a : Nat) : Int)) (hy : ev n f y = .int .u8 ((b : Nat) : Int)) (h : K (upd f d (.bool (decide (a < b)))) w) : R1 P n S k ⟨some d, .binOp .lss t x y t2, ty, pos, aft, g⟩ K f w := by
  refine R1_bin hx hy (fun _ => by simp [eqGuard, go_sem]) (fun _ => ?_) h
  simp only [binOp, Op.intCmp, ne_eq, not_true_eq_false, if_false]; rw [show (decide ((a : Int) < b)) = decide (a < b) from by rw [Bool.eq_iff_iff]; simp]; rfl
theorem R1_leq_u8 {a b : Nat} (hx : ev n f x = .int .u8 ((a : Nat) : Int)) (hy : ev n f y = .int .u8 ((b : Nat) : Int)) (h : K (upd f d (.bool (decide (a ≤ b)))) w) : R1 P n S k ⟨some d, .binOp .leq t x y t2, ty, pos, aft, g⟩ K f w := by
  refine R1_bin hx hy (fun _ => by simp [eqGuard, go_sem]) (fun _ => ?_) h
  simp only [binOp, Op.intCmp, ne_eq, not_true_eq_false, if_false]; rw [show (decide ((a : Int) ≤ b)) = decide (a ≤ b) from by rw [Bool.eq_iff_iff]; simp]; rfl
theorem R1_gtr_u8 {a b : Nat} (hx : ev n f x = .int .u8 ((a : Nat) : Int)) (hy : ev n f y = .int .u8 ((b : Nat) : Int)) (h : K (upd f d (.bool (decide (b < a)))) w) : R1 P n S k ⟨some d, .binOp .gtr t x y t2, ty, pos, aft, g⟩ K f w := by
  refine R1_bin hx hy (fun _ => by simp [eqGuard, go_sem]) (fun _ => ?_) h
  simp only [binOp, Op.intCmp, ne_eq, not_true_eq_false, if_false]; rw [show (decide ((a : Int) > b)) = decide (b < a) from by rw [Bool.eq_iff_iff]; simp]; rfl
theorem R1_geq_u8 {a b : Nat} (hx : ev n f x = .int .u8 ((a : Nat) : Int)) (hy : ev n f y = .int .u8 ((b : Nat) : Int)) (h : K (upd f d (.bool (decide (b ≤ a)))) w) : R1 P n S k ⟨some d, .binOp .geq t x y t2, ty, pos, aft, g⟩ K f w := by
  refine R1_bin hx hy (fun _ => by simp [eqGuard, go_sem]) (fun _ => ?_) h
  simp only [binOp, Op.intCmp, ne_eq, not_true_eq_false, if_false]; rw [show (decide ((a : Int) ≥ b)) = decide (b ≤ a) from by rw [Bool.eq_iff_iff]; simp]; rfl
theorem R1_eql_u8 {a b : Nat} (hx : ev n f x = .int .u8 ((a : Nat) : Int)) (hy : ev n f y = .int .u8 ((b : Nat) : Int)) (h : K (upd f d (.bool (decide (a = b)))) w) : R1 P n S k ⟨some d, .binOp .eql t x y t2, ty, pos, aft, g⟩ K f w := by
  refine R1_bin hx hy (fun _ => by simp [eqGuard, go_sem]) (fun _ => ?_) h
  simp only [binOp, Op.intCmp, ne_eq, not_true_eq_false, if_false]; rw [show ((a : Int) == b) = decide (a = b) from by rw [Bool.eq_iff_iff]; simp; omega]; rfl
theorem R1_neq_u8 {a b : Nat} (hx : ev n f x = .int .u8 ((a : Nat) : Int)) (hy : ev n f y = .int .u8 ((b : Nat) : Int)) (h : K (upd f d (.bool (decide (¬ a = b)))) w) : R1 P n S k ⟨some d, .binOp .neq t x y t2, ty, pos, aft, g⟩ K f w := by
  refine R1_bin hx hy (fun _ => by simp [eqGuard, go_sem]) (fun _ => ?_) h
  simp only [binOp, Op.intCmp, ne_eq, not_true_eq_false, if_false]; rw [show ((a : Int) != b) = decide (¬ a = b) from by rw [Bool.eq_iff_iff]; simp; omega]; rfl
theorem R1_or_u64 {a b : Nat} (hx : ev n f x = .int .u64 ((a : Nat) : Int)) (hy : ev n f y = .int .u64 ((b : Nat) : Int)) (ha : a < 18446744073709551616) (hb : b < 18446744073709551616) (h : K (upd f d (.int .u64 ((a ||| b : Nat) : Int))) w) : R1 P n S k ⟨some d, .binOp .or t x y t2, ty, pos, aft, g⟩ K f w := by
  refine R1_bin hx hy (fun _ => by simp [eqGuard, go_sem]) (fun _ => ?_) h
  have e := u64_or_nat a b ha hb
  simp only [binOp, Op.intBits, ne_eq, not_true_eq_false, if_false]
  change Result.ok (Value.int .u64 (bits .or .u64 (a : Int) (b : Int))) _ = _
  rw [e]
theorem R1_and_u64 {a b : Nat} (hx : ev n f x = .int .u64 ((a : Nat) : Int)) (hy : ev n f y = .int .u64 ((b : Nat) : Int)) (ha : a < 18446744073709551616) (hb : b < 18446744073709551616) (h : K (upd f d (.int .u64 ((a &&& b : Nat) : Int))) w) : R1 P n S k ⟨some d, .binOp .and t x y t2, ty, pos, aft, g⟩ K f w := by
  refine R1_bin hx hy (fun _ => by simp [eqGuard, go_sem]) (fun _ => ?_) h
  have e := u64_and_nat a b ha hb
  simp only [binOp, Op.intBits, ne_eq, not_true_eq_false, if_false]
  change Result.ok (Value.int .u64 (bits .and .u64 (a : Int) (b : Int))) _ = _
  rw [e]
theorem R1_or_u32 {a b : Nat} (hx : ev n f x = .int .u32 ((a : Nat) : Int)) (hy : ev n f y = .int .u32 ((b : Nat) : Int)) (ha : a < 4294967296) (hb : b < 4294967296) (h : K (upd f d (.int .u32 ((a ||| b : Nat) : Int))) w) : R1 P n S k ⟨some d, .binOp .or t x y t2, ty, pos, aft, g⟩ K f w := by
  refine R1_bin hx hy (fun _ => by simp [eqGuard, go_sem]) (fun _ => ?_) h
  have e := u32_or_nat a b ha hb
  simp only [binOp, Op.intBits, ne_eq, not_true_eq_false, if_false]
  change Result.ok (Value.int .u32 (bits .or .u32 (a : Int) (b : Int))) _ = _
  rw [e]
theorem R1_and_u32 {a b : Nat} (hx : ev n f x = .int .u32 ((a : Nat) : Int)) (hy : ev n f y = .int .u32 ((b : Nat) : Int)) (ha : a < 4294967296) (hb : b < 4294967296) (h : K (upd f d (.int .u32 ((a &&& b : Nat) : Int))) w) : R1 P n S k ⟨some d, .binOp .and t x y t2, ty, pos, aft, g⟩ K f w := by
  refine R1_bin hx hy (fun _ => by simp [eqGuard, go_sem]) (fun _ => ?_) h
  have e := u32_and_nat a b ha hb
  simp only [binOp, Op.intBits, ne_eq, not_true_eq_false, if_false]
  change Result.ok (Value.int .u32 (bits .and .u32 (a : Int) (b : Int))) _ = _
  rw [e]
theorem R1_shl_u64 {a b : Nat} {kk : IntKind} (hx : ev n f x = .int .u64 ((a : Nat) : Int)) (hy : ev n f y = .int kk ((b : Nat) : Int)) (hb : b < 64) (h : K (upd f d (.int .u64 (((a * 2 ^ b) % 18446744073709551616 : Nat) : Int))) w) : R1 P n S k ⟨some d, .binOp .shl t x y t2, ty, pos, aft, g⟩ K f w := by
  refine R1_bin hx hy (fun _ => by simp [eqGuard, go_sem]) (fun _ => ?_) h
  have e : min b 64 = b := by omega
  have e0 : ((b : Int) < 0) = False := by simp
  simp only [binOp, Op.shift, e0, if_false, Int.toNat_natCast, IntKind.bits, e]
  rw [wrap_u64, show ((a : Int) * 2 ^ b) % 18446744073709551616 = (((a * 2 ^ b) % 18446744073709551616 : Nat) : Int) from by simp]; rfl
theorem R1_shr_u64 {a b : Nat} {kk : IntKind} (hx : ev n f x = .int .u64 ((a : Nat) : Int)) (hy : ev n f y = .int kk ((b : Nat) : Int)) (hb : b < 64) (h : K (upd f d (.int .u64 ((a / 2 ^ b : Nat) : Int))) w) : R1 P n S k ⟨some d, .binOp .shr t x y t2, ty, pos, aft, g⟩ K f w := by
  refine R1_bin hx hy (fun _ => by simp [eqGuard, go_sem]) (fun _ => ?_) h
  have e : min b 64 = b := by omega
  have e0 : ((b : Int) < 0) = False := by simp
  simp only [binOp, Op.shift, e0, if_false, Int.toNat_natCast, IntKind.bits, e]
  rw [show (a : Int).fdiv (2 ^ b) = ((a / 2 ^ b : Nat) : Int) from by rw [Int.fdiv_eq_ediv_of_nonneg _ (Int.le_of_lt (Int.pow_pos (by decide)))]; simp]; rfl
theorem R1_shl_u32 {a b : Nat} {kk : IntKind} (hx : ev n f x = .int .u32 ((a : Nat) : Int)) (hy : ev n f y = .int kk ((b : Nat) : Int)) (hb : b < 32) (h : K (upd f d (.int .u32 (((a * 2 ^ b) % 4294967296 : Nat) : Int))) w) : R1 P n S k ⟨some d, .binOp .shl t x y t2, ty, pos, aft, g⟩ K f w := by
  refine R1_bin hx hy (fun _ => by simp [eqGuard, go_sem]) (fun _ => ?_) h
  have e : min b 32 = b := by omega
  have e0 : ((b : Int) < 0) = False := by simp
  simp only [binOp, Op.shift, e0, if_false, Int.toNat_natCast, IntKind.bits, e]
  rw [wrap_u32, show ((a : Int) * 2 ^ b) % 4294967296 = (((a * 2 ^ b) % 4294967296 : Nat) : Int) from by simp]; rfl
theorem R1_shr_u32 {a b : Nat} {kk : IntKind} (hx : ev n f x = .int .u32 ((a : Nat) : Int)) (hy : ev n f y = .int kk ((b : Nat) : Int)) (hb : b < 32) (h : K (upd f d (.int .u32 ((a / 2 ^ b : Nat) : Int))) w) : R1 P n S k ⟨some d, .binOp .shr t x y t2, ty, pos, aft, g⟩ K f w := by
  refine R1_bin hx hy (fun _ => by simp [eqGuard, go_sem]) (fun _ => ?_) h
  have e : min b 32 = b := by omega
  have e0 : ((b : Int) < 0) = False := by simp
  simp only [binOp, Op.shift, e0, if_false, Int.toNat_natCast, IntKind.bits, e]
  rw [show (a : Int).fdiv (2 ^ b) = ((a / 2 ^ b : Nat) : Int) from by rw [Int.fdiv_eq_ediv_of_nonneg _ (Int.le_of_lt (Int.pow_pos (by decide)))]; simp]; rfl
theorem R1_add_z {a b : Int} (hx : ev n f x = .int .i64 a) (hy : ev n f y = .int .i64 b) (h1 : -9223372036854775808 ≤ a + b) (h2 : a + b < 9223372036854775808) (h : K (upd f d (.int .i64 (a + b))) w) : R1 P n S k ⟨some d, .binOp .add t x y t2, ty, pos, aft, g⟩ K f w := by
  refine R1_bin hx hy (fun _ => by simp [eqGuard, go_sem]) (fun _ => ?_) h
  simp only [binOp, Op.intArith, ne_eq, not_true_eq_false, if_false]; rw [wrap_i64 h1 h2]; rfl
theorem R1_sub_z {a b : Int} (hx : ev n f x = .int .i64 a) (hy : ev n f y = .int .i64 b) (h1 : -9223372036854775808 ≤ a - b) (h2 : a - b < 9223372036854775808) (h : K (upd f d (.int .i64 (a - b))) w) : R1 P n S k ⟨some d, .binOp .sub t x y t2, ty, pos, aft, g⟩ K f w := by
  refine R1_bin hx hy (fun _ => by simp [eqGuard, go_sem]) (fun _ => ?_) h
  simp only [binOp, Op.intArith, ne_eq, not_true_eq_false, if_false]; rw [wrap_i64 h1 h2]; rfl
theorem R1_mul_z {a b : Int} (hx : ev n f x = .int .i64 a) (hy : ev n f y = .int .i64 b) (h1 : -9223372036854775808 ≤ a * b) (h2 : a * b < 9223372036854775808) (h : K (upd f d (.int .i64 (a * b))) w) : R1 P n S k ⟨some d, .binOp .mul t x y t2, ty, pos, aft, g⟩ K f w := by
  refine R1_bin hx hy (fun _ => by simp [eqGuard, go_sem]) (fun _ => ?_) h
  simp only [binOp, Op.intArith, ne_eq, not_true_eq_false, if_false]; rw [wrap_i64 h1 h2]; rfl
theorem R1_lss_z {a b : Int} (hx : ev n f x = .int .i64 a) (hy : ev n f y = .int .i64 b) (h : K (upd f d (.bool (decide (a < b)))) w) : R1 P n S k ⟨some d, .binOp .lss t x y t2, ty, pos, aft, g⟩ K f w := by
  refine R1_bin hx hy (fun _ => by simp [eqGuard, go_sem]) (fun _ => ?_) h
  simp only [binOp, Op.intCmp, ne_eq, not_true_eq_false, if_false]; rfl
theorem R1_leq_z {a b : Int} (hx : ev n f x = .int .i64 a) (hy : ev n f y = .int .i64 b) (h : K (upd f d (.bool (decide (a ≤ b)))) w) : R1 P n S k ⟨some d, .binOp .leq t x y t2, ty, pos, aft, g⟩ K f w := by
  refine R1_bin hx hy (fun _ => by simp [eqGuard, go_sem]) (fun _ => ?_) h
  simp only [binOp, Op.intCmp, ne_eq, not_true_eq_false, if_false]; rfl
theorem R1_gtr_z {a b : Int} (hx : ev n f x = .int .i64 a) (hy : ev n f y = .int .i64 b) (h : K (upd f d (.bool (decide (b < a)))) w) : R1 P n S k ⟨some d, .binOp .gtr t x y t2, ty, pos, aft, g⟩ K f w := by
  refine R1_bin hx hy (fun _ => by simp [eqGuard, go_sem]) (fun _ => ?_) h
  simp only [binOp, Op.intCmp, ne_eq, not_true_eq_false, if_false]; rfl
theorem R1_geq_z {a b : Int} (hx : ev n f x = .int .i64 a) (hy : ev n f y = .int .i64 b) (h : K (upd f d (.bool (decide (b ≤ a)))) w) : R1 P n S k ⟨some d, .binOp .geq t x y t2, ty, pos, aft, g⟩ K f w := by
  refine R1_bin hx hy (fun _ => by simp [eqGuard, go_sem]) (fun _ => ?_) h
  simp only [binOp, Op.intCmp, ne_eq, not_true_eq_false, if_false]; rfl
theorem R1_eql_z {a b : Int} (hx : ev n f x = .int .i64 a) (hy : ev n f y = .int .i64 b) (h : K (upd f d (.bool (decide (a = b)))) w) : R1 P n S k ⟨some d, .binOp .eql t x y t2, ty, pos, aft, g⟩ K f w := by
  refine R1_bin hx hy (fun _ => by simp [eqGuard, go_sem]) (fun _ => ?_) h
  simp only [binOp, Op.intCmp, ne_eq, not_true_eq_false, if_false]; rw [show (a == b) = decide (a = b) from by rw [Bool.eq_iff_iff]; simp]; rfl
theorem R1_neq_z {a b : Int} (hx : ev n f x = .int .i64 a) (hy : ev n f y = .int .i64 b) (h : K (upd f d (.bool (decide (¬ a = b)))) w) : R1 P n S k ⟨some d, .binOp .neq t x y t2, ty, pos, aft, g⟩ K f w := by
  refine R1_bin hx hy (fun _ => by simp [eqGuard, go_sem]) (fun _ => ?_) h
  simp only [binOp, Op.intCmp, ne_eq, not_true_eq_false, if_false]; rw [show (a != b) = decide (¬ a = b) from by rw [Bool.eq_iff_iff]; simp]; rfl
theorem R1_rem_z {a b : Int} (hx : ev n f x = .int .i64 a) (hy : ev n f y = .int .i64 b) (hb : b ≠ 0) (h : K (upd f d (.int .i64 (a.tmod b))) w) : R1 P n S k ⟨some d, .binOp .rem t x y t2, ty, pos, aft, g⟩ K f w := by
  refine R1_bin hx hy (fun _ => by simp [eqGuard, go_sem]) (fun _ => ?_) h
  simp only [binOp, Op.intDiv, ne_eq, not_true_eq_false, if_false, hb]; rfl
theorem R1_add_i64_c {a m : Nat} (hx : ev n f x = .int .i64 ((a : Nat) : Int)) (hb : a + (OfNat.ofNat m) < 9223372036854775808) (h : K (upd f d (.int .i64 ((a + (OfNat.ofNat m) : Nat) : Int))) w) : R1 P n S k ⟨some d, .binOp .add t x (.const (.int .i64 (OfNat.ofNat m))) t2, ty, pos, aft, g⟩ K f w :=
  R1_add_i64 (b := OfNat.ofNat m) hx (by rfl) hb h
theorem R1_sub_i64_c {a m : Nat} (hx : ev n f x = .int .i64 ((a : Nat) : Int)) (ha : a < 9223372036854775808) (hb : (OfNat.ofNat m) ≤ a) (h : K (upd f d (.int .i64 ((a - (OfNat.ofNat m) : Nat) : Int))) w) : R1 P n S k ⟨some d, .binOp .sub t x (.const (.int .i64 (OfNat.ofNat m))) t2, ty, pos, aft, g⟩ K f w :=
  R1_sub_i64 (b := OfNat.ofNat m) hx (by rfl) ha hb h
theorem R1_mul_i64_c {a m : Nat} (hx : ev n f x = .int .i64 ((a : Nat) : Int)) (hb : a * (OfNat.ofNat m) < 9223372036854775808) (h : K (upd f d (.int .i64 ((a * (OfNat.ofNat m) : Nat) : Int))) w) : R1 P n S k ⟨some d, .binOp .mul t x (.const (.int .i64 (OfNat.ofNat m))) t2, ty, pos, aft, g⟩ K f w :=
  R1_mul_i64 (b := OfNat.ofNat m) hx (by rfl) hb h
theorem R1_quo_i64_c {a m : Nat} (hx : ev n f x = .int .i64 ((a : Nat) : Int)) (ha : a < 9223372036854775808) (hb : 0 < (OfNat.ofNat m)) (h : K (upd f d (.int .i64 ((a / (OfNat.ofNat m) : Nat) : Int))) w) : R1 P n S k ⟨some d, .binOp .quo t x (.const (.int .i64 (OfNat.ofNat m))) t2, ty, pos, aft, g⟩ K f w :=
  R1_quo_i64 (b := OfNat.ofNat m) hx (by rfl) ha hb h
theorem R1_rem_i64_c {a m : Nat} (hx : ev n f x = .int .i64 ((a : Nat) : Int)) (hb : 0 < (OfNat.ofNat m)) (h : K (upd f d (.int .i64 ((a % (OfNat.ofNat m) : Nat) : Int))) w) : R1 P n S k ⟨some d, .binOp .rem t x (.const (.int .i64 (OfNat.ofNat m))) t2, ty, pos, aft, g⟩ K f w :=
  R1_rem_i64 (b := OfNat.ofNat m) hx (by rfl) hb h
theorem R1_add_u64_c {a m : Nat} (hx : ev n f x = .int .u64 ((a : Nat) : Int)) (hb : a + (OfNat.ofNat m) < 18446744073709551616) (h : K (upd f d (.int .u64 ((a + (OfNat.ofNat m) : Nat) : Int))) w) : R1 P n S k ⟨some d, .binOp .add t x (.const (.int .u64 (OfNat.ofNat m))) t2, ty, pos, aft, g⟩ K f w :=
  R1_add_u64 (b := OfNat.ofNat m) hx (by rfl) hb h
theorem R1_sub_u64_c {a m : Nat} (hx : ev n f x = .int .u64 ((a : Nat) : Int)) (ha : a < 18446744073709551616) (hb : (OfNat.ofNat m) ≤ a) (h : K (upd f d (.int .u64 ((a - (OfNat.ofNat m) : Nat) : Int))) w) : R1 P n S k ⟨some d, .binOp .sub t x (.const (.int .u64 (OfNat.ofNat m))) t2, ty, pos, aft, g⟩ K f w :=
  R1_sub_u64 (b := OfNat.ofNat m) hx (by rfl) ha hb h
theorem R1_mul_u64_c {a m : Nat} (hx : ev n f x = .int .u64 ((a : Nat) : Int)) (hb : a * (OfNat.ofNat m) < 18446744073709551616) (h : K (upd f d (.int .u64 ((a * (OfNat.ofNat m) : Nat) : Int))) w) : R1 P n S k ⟨some d, .binOp .mul t x (.const (.int .u64 (OfNat.ofNat m))) t2, ty, pos, aft, g⟩ K f w :=
  R1_mul_u64 (b := OfNat.ofNat m) hx (by rfl) hb h
theorem R1_quo_u64_c {a m : Nat} (hx : ev n f x = .int .u64 ((a : Nat) : Int)) (ha : a < 18446744073709551616) (hb : 0 < (OfNat.ofNat m)) (h : K (upd f d (.int .u64 ((a / (OfNat.ofNat m) : Nat) : Int))) w) : R1 P n S k ⟨some d, .binOp .quo t x (.const (.int .u64 (OfNat.ofNat m))) t2, ty, pos, aft, g⟩ K f w :=
  R1_quo_u64 (b := OfNat.ofNat m) hx (by rfl) ha hb h
theorem R1_rem_u64_c {a m : Nat} (hx : ev n f x = .int .u64 ((a : Nat) : Int)) (hb : 0 < (OfNat.ofNat m)) (h : K (upd f d (.int .u64 ((a % (OfNat.ofNat m) : Nat) : Int))) w) : R1 P n S k ⟨some d, .binOp .rem t x (.const (.int .u64 (OfNat.ofNat m))) t2, ty, pos, aft, g⟩ K f w :=
  R1_rem_u64 (b := OfNat.ofNat m) hx (by rfl) hb h
theorem R1_add_u32_c {a m : Nat} (hx : ev n f x = .int .u32 ((a : Nat) : Int)) (hb : a + (OfNat.ofNat m) < 4294967296) (h : K (upd f d (.int .u32 ((a + (OfNat.ofNat m) : Nat) : Int))) w) : R1 P n S k ⟨some d, .binOp .add t x (.const (.int .u32 (OfNat.ofNat m))) t2, ty, pos, aft, g⟩ K f w :=
  R1_add_u32 (b := OfNat.ofNat m) hx (by rfl) hb h
theorem R1_sub_u32_c {a m : Nat} (hx : ev n f x = .int .u32 ((a : Nat) : Int)) (ha : a < 4294967296) (hb : (OfNat.ofNat m) ≤ a) (h : K (upd f d (.int .u32 ((a - (OfNat.ofNat m) : Nat) : Int))) w) : R1 P n S k ⟨some d, .binOp .sub t x (.const (.int .u32 (OfNat.ofNat m))) t2, ty, pos, aft, g⟩ K f w :=
  R1_sub_u32 (b := OfNat.ofNat m) hx (by rfl) ha hb h
theorem R1_mul_u32_c {a m : Nat} (hx : ev n f x = .int .u32 ((a : Nat) : Int)) (hb : a * (OfNat.ofNat m) < 4294967296) (h : K (upd f d (.int .u32 ((a * (OfNat.ofNat m) : Nat) : Int))) w) : R1 P n S k ⟨some d, .binOp .mul t x (.const (.int .u32 (OfNat.ofNat m))) t2, ty, pos, aft, g⟩ K f w :=
  R1_mul_u32 (b := OfNat.ofNat m) hx (by rfl) hb h
theorem R1_quo_u32_c {a m : Nat} (hx : ev n f x = .int .u32 ((a : Nat) : Int)) (ha : a < 4294967296) (hb : 0 < (OfNat.ofNat m)) (h : K (upd f d (.int .u32 ((a / (OfNat.ofNat m) : Nat) : Int))) w) : R1 P n S k ⟨some d, .binOp .quo t x (.const (.int .u32 (OfNat.ofNat m))) t2, ty, pos, aft, g⟩ K f w :=
  R1_quo_u32 (b := OfNat.ofNat m) hx (by rfl) ha hb h
theorem R1_rem_u32_c {a m : Nat} (hx : ev n f x = .int .u32 ((a : Nat) : Int)) (hb : 0 < (OfNat.ofNat m)) (h : K (upd f d (.int .u32 ((a % (OfNat.ofNat m) : Nat) : Int))) w) : R1 P n S k ⟨some d, .binOp .rem t x (.const (.int .u32 (OfNat.ofNat m))) t2, ty, pos, aft, g⟩ K f w :=
  R1_rem_u32 (b := OfNat.ofNat m) hx (by rfl) hb h
theorem R1_addm_u64_c {a m : Nat} (hx : ev n f x = .int .u64 ((a : Nat) : Int)) (h : K (upd f d (.int .u64 (((a + (OfNat.ofNat m)) % 18446744073709551616 : Nat) : Int))) w) : R1 P n S k ⟨some d, .binOp .add t x (.const (.int .u64 (OfNat.ofNat m))) t2, ty, pos, aft, g⟩ K f w :=
  R1_addm_u64 (b := OfNat.ofNat m) hx (by rfl) h
theorem R1_subm_u64_c {a m : Nat} (hx : ev n f x = .int .u64 ((a : Nat) : Int)) (hb : (OfNat.ofNat m) ≤ 18446744073709551616) (h : K (upd f d (.int .u64 (((a + (18446744073709551616 - (OfNat.ofNat m))) % 18446744073709551616 : Nat) : Int))) w) : R1 P n S k ⟨some d, .binOp .sub t x (.const (.int .u64 (OfNat.ofNat m))) t2, ty, pos, aft, g⟩ K f w :=
  R1_subm_u64 (b := OfNat.ofNat m) hx (by rfl) hb h
theorem R1_mulm_u64_c {a m : Nat} (hx : ev n f x = .int .u64 ((a : Nat) : Int)) (h : K (upd f d (.int .u64 (((a * (OfNat.ofNat m)) % 18446744073709551616 : Nat) : Int))) w) : R1 P n S k ⟨some d, .binOp .mul t x (.const (.int .u64 (OfNat.ofNat m))) t2, ty, pos, aft, g⟩ K f w :=
  R1_mulm_u64 (b := OfNat.ofNat m) hx (by rfl) h
theorem R1_addm_u32_c {a m : Nat} (hx : ev n f x = .int .u32 ((a : Nat) : Int)) (h : K (upd f d (.int .u32 (((a + (OfNat.ofNat m)) % 4294967296 : Nat) : Int))) w) : R1 P n S k ⟨some d, .binOp .add t x (.const (.int .u32 (OfNat.ofNat m))) t2, ty, pos, aft, g⟩ K f w :=
  R1_addm_u32 (b := OfNat.ofNat m) hx (by rfl) h
theorem R1_subm_u32_c {a m : Nat} (hx : ev n f x = .int .u32 ((a : Nat) : Int)) (hb : (OfNat.ofNat m) ≤ 4294967296) (h : K (upd f d (.int .u32 (((a + (4294967296 - (OfNat.ofNat m))) % 4294967296 : Nat) : Int))) w) : R1 P n S k ⟨some d, .binOp .sub t x (.const (.int .u32 (OfNat.ofNat m))) t2, ty, pos, aft, g⟩ K f w :=
  R1_subm_u32 (b := OfNat.ofNat m) hx (by rfl) hb h
theorem R1_mulm_u32_c {a m : Nat} (hx : ev n f x = .int .u32 ((a : Nat) : Int)) (h : K (upd f d (.int .u32 (((a * (OfNat.ofNat m)) % 4294967296 : Nat) : Int))) w) : R1 P n S k ⟨some d, .binOp .mul t x (.const (.int .u32 (OfNat.ofNat m))) t2, ty, pos, aft, g⟩ K f w :=
  R1_mulm_u32 (b := OfNat.ofNat m) hx (by rfl) h
theorem R1_lss_i64_c {a m : Nat} (hx : ev n f x = .int .i64 ((a : Nat) : Int)) (h : K (upd f d (.bool (decide (a < (OfNat.ofNat m))))) w) : R1 P n S k ⟨some d, .binOp .lss t x (.const (.int .i64 (OfNat.ofNat m))) t2, ty, pos, aft, g⟩ K f w :=
  R1_lss_i64 (b := OfNat.ofNat m) hx (by rfl) h
theorem R1_leq_i64_c {a m : Nat} (hx : ev n f x = .int .i64 ((a : Nat) : Int)) (h : K (upd f d (.bool (decide (a ≤ (OfNat.ofNat m))))) w) : R1 P n S k ⟨some d, .binOp .leq t x (.const (.int .i64 (OfNat.ofNat m))) t2, ty, pos, aft, g⟩ K f w :=
  R1_leq_i64 (b := OfNat.ofNat m) hx (by rfl) h
theorem R1_gtr_i64_c {a m : Nat} (hx : ev n f x = .int .i64 ((a : Nat) : Int)) (h : K (upd f d (.bool (decide ((OfNat.ofNat m) < a)))) w) : R1 P n S k ⟨some d, .binOp .gtr t x (.const (.int .i64 (OfNat.ofNat m))) t2, ty, pos, aft, g⟩ K f w :=
  R1_gtr_i64 (b := OfNat.ofNat m) hx (by rfl) h
theorem R1_geq_i64_c {a m : Nat} (hx : ev n f x = .int .i64 ((a : Nat) : Int)) (h : K (upd f d (.bool (decide ((OfNat.ofNat m) ≤ a)))) w) : R1 P n S k ⟨some d, .binOp .geq t x (.const (.int .i64 (OfNat.ofNat m))) t2, ty, pos, aft, g⟩ K f w :=
  R1_geq_i64 (b := OfNat.ofNat m) hx (by rfl) h
theorem R1_eql_i64_c {a m : Nat} (hx : ev n f x = .int .i64 ((a : Nat) : Int)) (h : K (upd f d (.bool (decide (a = (OfNat.ofNat m))))) w) : R1 P n S k ⟨some d, .binOp .eql t x (.const (.int .i64 (OfNat.ofNat m))) t2, ty, pos, aft, g⟩ K f w :=
  R1_eql_i64 (b := OfNat.ofNat m) hx (by rfl) h
theorem R1_neq_i64_c {a m : Nat} (hx : ev n f x = .int .i64 ((a : Nat) : Int)) (h : K (upd f d (.bool (decide (¬ a = (OfNat.ofNat m))))) w) : R1 P n S k ⟨some d, .binOp .neq t x (.const (.int .i64 (OfNat.ofNat m))) t2, ty, pos, aft, g⟩ K f w :=
  R1_neq_i64 (b := OfNat.ofNat m) hx (by rfl) h
theorem R1_lss_u64_c {a m : Nat} (hx : ev n f x = .int .u64 ((a : Nat) : Int)) (h : K (upd f d (.bool (decide (a < (OfNat.ofNat m))))) w) : R1 P n S k ⟨some d, .binOp .lss t x (.const (.int .u64 (OfNat.ofNat m))) t2, ty, pos, aft, g⟩ K f w :=
  R1_lss_u64 (b := OfNat.ofNat m) hx (by rfl) h
theorem R1_leq_u64_c {a m : Nat} (hx : ev n f x = .int .u64 ((a : Nat) : Int)) (h : K (upd f d (.bool (decide (a ≤ (OfNat.ofNat m))))) w) : R1 P n S k ⟨some d, .binOp .leq t x (.const (.int .u64 (OfNat.ofNat m))) t2, ty, pos, aft, g⟩ K f w :=
  R1_leq_u64 (b := OfNat.ofNat m) hx (by rfl) h
theorem R1_gtr_u64_c {a m : Nat} (hx : ev n f x = .int .u64 ((a : Nat) : Int)) (h : K (upd f d (.bool (decide ((OfNat.ofNat m) < a)))) w) : R1 P n S k ⟨some d, .binOp .gtr t x (.const (.int .u64 (OfNat.ofNat m))) t2, ty, pos, aft, g⟩ K f w :=
  R1_gtr_u64 (b := OfNat.ofNat m) hx (by rfl) h
theorem R1_geq_u64_c {a m : Nat} (hx : ev n f x = .int .u64 ((a : Nat) : Int)) (h : K (upd f d (.bool (decide ((OfNat.ofNat m) ≤ a)))) w) : R1 P n S k ⟨some d, .binOp .geq t x (.const (.int .u64 (OfNat.ofNat m))) t2, ty, pos, aft, g⟩ K f w :=
  R1_geq_u64 (b := OfNat.ofNat m) hx (by rfl) h
theorem R1_eql_u64_c {a m : Nat} (hx : ev n f x = .int .u64 ((a : Nat) : Int)) (h : K (upd f d (.bool (decide (a = (OfNat.ofNat m))))) w) : R1 P n S k ⟨some d, .binOp .eql t x (.const (.int .u64 (OfNat.ofNat m))) t2, ty, pos, aft, g⟩ K f w :=
  R1_eql_u64 (b := OfNat.ofNat m) hx (by rfl) h
theorem R1_neq_u64_c {a m : Nat} (hx : ev n f x = .int .u64 ((a : Nat) : Int)) (h : K (upd f d (.bool (decide (¬ a = (OfNat.ofNat m))))) w) : R1 P n S k ⟨some d, .binOp .neq t x (.const (.int .u64 (OfNat.ofNat m))) t2, ty, pos, aft, g⟩ K f w :=
  R1_neq_u64 (b := OfNat.ofNat m) hx (by rfl) h
theorem R1_lss_u32_c {a m : Nat} (hx : ev n f x = .int .u32 ((a : Nat) : Int)) (h : K (upd f d (.bool (decide (a < (OfNat.ofNat m))))) w) : R1 P n S k ⟨some d, .binOp .lss t x (.const (.int .u32 (OfNat.ofNat m))) t2, ty, pos, aft, g⟩ K f w :=
  R1_lss_u32 (b := OfNat.ofNat m) hx (by rfl) h
theorem R1_leq_u32_c {a m : Nat} (hx : ev n f x = .int .u32 ((a : Nat) : Int)) (h : K (upd f d (.bool (decide (a ≤ (OfNat.ofNat m))))) w) : R1 P n S k ⟨some d, .binOp .leq t x (.const (.int .u32 (OfNat.ofNat m))) t2, ty, pos, aft, g⟩ K f w :=
  R1_leq_u32 (b := OfNat.ofNat m) hx (by rfl) h
theorem R1_gtr_u32_c {a m : Nat} (hx : ev n f x = .int .u32 ((a : Nat) : Int)) (h : K (upd f d (.bool (decide ((OfNat.ofNat m) < a)))) w) : R1 P n S k ⟨some d, .binOp .gtr t x (.const (.int .u32 (OfNat.ofNat m))) t2, ty, pos, aft, g⟩ K f w :=
  R1_gtr_u32 (b := OfNat.ofNat m) hx (by rfl) h
theorem R1_geq_u32_c {a m : Nat} (hx : ev n f x = .int .u32 ((a : Nat) : Int)) (h : K (upd f d (.bool (decide ((OfNat.ofNat m) ≤ a)))) w) : R1 P n S k ⟨some d, .binOp .geq t x (.const (.int .u32 (OfNat.ofNat m))) t2, ty, pos, aft, g⟩ K f w :=
  R1_geq_u32 (b := OfNat.ofNat m) hx (by rfl) h
theorem R1_eql_u32_c {a m : Nat} (hx : ev n f x = .int .u32 ((a : Nat) : Int)) (h : K (upd f d (.bool (decide (a = (OfNat.ofNat m))))) w) : R1 P n S k ⟨some d, .binOp .eql t x (.const (.int .u32 (OfNat.ofNat m))) t2, ty, pos, aft, g⟩ K f w :=
  R1_eql_u32 (b := OfNat.ofNat m) hx (by rfl) h
theorem R1_neq_u32_c {a m : Nat} (hx : ev n f x = .int .u32 ((a : Nat) : Int)) (h : K (upd f d (.bool (decide (¬ a = (OfNat.ofNat m))))) w) : R1 P n S k ⟨some d, .binOp .neq t x (.const (.int .u32 (OfNat.ofNat m))) t2, ty, pos, aft, g⟩ K f w :=
  R1_neq_u32 (b := OfNat.ofNat m) hx (by rfl) h
theorem R1_lss_u8_c {a m : Nat} (hx : ev n f x = .int .u8 ((a : Nat) : Int)) (h : K (upd f d (.bool (decide (a < (OfNat.ofNat m))))) w) : R1 P n S k ⟨some d, .binOp .lss t x (.const (.int .u8 (OfNat.ofNat m))) t2, ty, pos, aft, g⟩ K f w :=
  R1_lss_u8 (b := OfNat.ofNat m) hx (by rfl) h
theorem R1_leq_u8_c {a m : Nat} (hx : ev n f x = .int .u8 ((a : Nat) : Int)) (h : K (upd f d (.bool (decide (a ≤ (OfNat.ofNat m))))) w) : R1 P n S k ⟨some d, .binOp .leq t x (.const (.int .u8 (OfNat.ofNat m))) t2, ty, pos, aft, g⟩ K f w :=
  R1_leq_u8 (b := OfNat.ofNat m) hx (by rfl) h
theorem R1_gtr_u8_c {a m : Nat} (hx : ev n f x = .int .u8 ((a : Nat) : Int)) (h : K (upd f d (.bool (decide ((OfNat.ofNat m) < a)))) w) : R1 P n S k ⟨some d, .binOp .gtr t x (.const (.int .u8 (OfNat.ofNat m))) t2, ty, pos, aft, g⟩ K f w :=
  R1_gtr_u8 (b := OfNat.ofNat m) hx (by rfl) h
theorem R1_geq_u8_c {a m : Nat} (hx : ev n f x = .int .u8 ((a : Nat) : Int)) (h : K (upd f d (.bool (decide ((OfNat.ofNat m) ≤ a)))) w) : R1 P n S k ⟨some d, .binOp .geq t x (.const (.int .u8 (OfNat.ofNat m))) t2, ty, pos, aft, g⟩ K f w :=
  R1_geq_u8 (b := OfNat.ofNat m) hx (by rfl) h
theorem R1_eql_u8_c {a m : Nat} (hx : ev n f x = .int .u8 ((a : Nat) : Int)) (h : K (upd f d (.bool (decide (a = (OfNat.ofNat m))))) w) : R1 P n S k ⟨some d, .binOp .eql t x (.const (.int .u8 (OfNat.ofNat m))) t2, ty, pos, aft, g⟩ K f w :=
  R1_eql_u8 (b := OfNat.ofNat m) hx (by rfl) h
theorem R1_neq_u8_c {a m : Nat} (hx : ev n f x = .int .u8 ((a : Nat) : Int)) (h : K (upd f d (.bool (decide (¬ a = (OfNat.ofNat m))))) w) : R1 P n S k ⟨some d, .binOp .neq t x (.const (.int .u8 (OfNat.ofNat m))) t2, ty, pos, aft, g⟩ K f w :=
  R1_neq_u8 (b := OfNat.ofNat m) hx (by rfl) h
theorem R1_or_u64_c {a m : Nat} (hx : ev n f x = .int .u64 ((a : Nat) : Int)) (ha : a < 18446744073709551616) (hb : (OfNat.ofNat m) < 18446744073709551616) (h : K (upd f d (.int .u64 ((a ||| (OfNat.ofNat m) : Nat) : Int))) w) : R1 P n S k ⟨some d, .binOp .or t x (.const (.int .u64 (OfNat.ofNat m))) t2, ty, pos, aft, g⟩ K f w :=
  R1_or_u64 (b := OfNat.ofNat m) hx (by rfl) ha hb h
theorem R1_and_u64_c {a m : Nat} (hx : ev n f x = .int .u64 ((a : Nat) : Int)) (ha : a < 18446744073709551616) (hb : (OfNat.ofNat m) < 18446744073709551616) (h : K (upd f d (.int .u64 ((a &&& (OfNat.ofNat m) : Nat) : Int))) w) : R1 P n S k ⟨some d, .binOp .and t x (.const (.int .u64 (OfNat.ofNat m))) t2, ty, pos, aft, g⟩ K f w :=
  R1_and_u64 (b := OfNat.ofNat m) hx (by rfl) ha hb h
theorem R1_or_u32_c {a m : Nat} (hx : ev n f x = .int .u32 ((a : Nat) : Int)) (ha : a < 4294967296) (hb : (OfNat.ofNat m) < 4294967296) (h : K (upd f d (.int .u32 ((a ||| (OfNat.ofNat m) : Nat) : Int))) w) : R1 P n S k ⟨some d, .binOp .or t x (.const (.int .u32 (OfNat.ofNat m))) t2, ty, pos, aft, g⟩ K f w :=
  R1_or_u32 (b := OfNat.ofNat m) hx (by rfl) ha hb h
theorem R1_and_u32_c {a m : Nat} (hx : ev n f x = .int .u32 ((a : Nat) : Int)) (ha : a < 4294967296) (hb : (OfNat.ofNat m) < 4294967296) (h : K (upd f d (.int .u32 ((a &&& (OfNat.ofNat m) : Nat) : Int))) w) : R1 P n S k ⟨some d, .binOp .and t x (.const (.int .u32 (OfNat.ofNat m))) t2, ty, pos, aft, g⟩ K f w :=
  R1_and_u32 (b := OfNat.ofNat m) hx (by rfl) ha hb h
theorem R1_shl_u64_c {a m : Nat} {kk : IntKind} (hx : ev n f x = .int .u64 ((a : Nat) : Int)) (hb : (OfNat.ofNat m) < 64) (h : K (upd f d (.int .u64 (((a * 2 ^ (OfNat.ofNat m)) % 18446744073709551616 : Nat) : Int))) w) : R1 P n S k ⟨some d, .binOp .shl t x (.const (.int kk (OfNat.ofNat m))) t2, ty, pos, aft, g⟩ K f w :=
  R1_shl_u64 (b := OfNat.ofNat m) hx (by rfl) hb h
theorem R1_shr_u64_c {a m : Nat} {kk : IntKind} (hx : ev n f x = .int .u64 ((a : Nat) : Int)) (hb : (OfNat.ofNat m) < 64) (h : K (upd f d (.int .u64 ((a / 2 ^ (OfNat.ofNat m) : Nat) : Int))) w) : R1 P n S k ⟨some d, .binOp .shr t x (.const (.int kk (OfNat.ofNat m))) t2, ty, pos, aft, g⟩ K f w :=
  R1_shr_u64 (b := OfNat.ofNat m) hx (by rfl) hb h
theorem R1_shl_u32_c {a m : Nat} {kk : IntKind} (hx : ev n f x = .int .u32 ((a : Nat) : Int)) (hb : (OfNat.ofNat m) < 32) (h : K (upd f d (.int .u32 (((a * 2 ^ (OfNat.ofNat m)) % 4294967296 : Nat) : Int))) w) : R1 P n S k ⟨some d, .binOp .shl t x (.const (.int kk (OfNat.ofNat m))) t2, ty, pos, aft, g⟩ K f w :=
  R1_shl_u32 (b := OfNat.ofNat m) hx (by rfl) hb h
theorem R1_shr_u32_c {a m : Nat} {kk : IntKind} (hx : ev n f x = .int .u32 ((a : Nat) : Int)) (hb : (OfNat.ofNat m) < 32) (h : K (upd f d (.int .u32 ((a / 2 ^ (OfNat.ofNat m) : Nat) : Int))) w) : R1 P n S k ⟨some d, .binOp .shr t x (.const (.int kk (OfNat.ofNat m))) t2, ty, pos, aft, g⟩ K f w :=
  R1_shr_u32 (b := OfNat.ofNat m) hx (by rfl) hb h
theorem R1_add_i64_l {b m : Nat} (hy : ev n f y = .int .i64 ((b : Nat) : Int)) (hb : (OfNat.ofNat m) + b < 9223372036854775808) (h : K (upd f d (.int .i64 (((OfNat.ofNat m) + b : Nat) : Int))) w) : R1 P n S k ⟨some d, .binOp .add t (.const (.int .i64 (OfNat.ofNat m))) y t2, ty, pos, aft, g⟩ K f w :=
  R1_add_i64 (a := OfNat.ofNat m) (by rfl) hy hb h
theorem R1_sub_i64_l {b m : Nat} (hy : ev n f y = .int .i64 ((b : Nat) : Int)) (ha : (OfNat.ofNat m) < 9223372036854775808) (hb : b ≤ (OfNat.ofNat m)) (h : K (upd f d (.int .i64 (((OfNat.ofNat m) - b : Nat) : Int))) w) : R1 P n S k ⟨some d, .binOp .sub t (.const (.int .i64 (OfNat.ofNat m))) y t2, ty, pos, aft, g⟩ K f w :=
  R1_sub_i64 (a := OfNat.ofNat m) (by rfl) hy ha hb h
theorem R1_mul_i64_l {b m : Nat} (hy : ev n f y = .int .i64 ((b : Nat) : Int)) (hb : (OfNat.ofNat m) * b < 9223372036854775808) (h : K (upd f d (.int .i64 (((OfNat.ofNat m) * b : Nat) : Int))) w) : R1 P n S k ⟨some d, .binOp .mul t (.const (.int .i64 (OfNat.ofNat m))) y t2, ty, pos, aft, g⟩ K f w :=
  R1_mul_i64 (a := OfNat.ofNat m) (by rfl) hy hb h
theorem R1_add_u64_l {b m : Nat} (hy : ev n f y = .int .u64 ((b : Nat) : Int)) (hb : (OfNat.ofNat m) + b < 18446744073709551616) (h : K (upd f d (.int .u64 (((OfNat.ofNat m) + b : Nat) : Int))) w) : R1 P n S k ⟨some d, .binOp .add t (.const (.int .u64 (OfNat.ofNat m))) y t2, ty, pos, aft, g⟩ K f w :=
  R1_add_u64 (a := OfNat.ofNat m) (by rfl) hy hb h
theorem R1_sub_u64_l {b m : Nat} (hy : ev n f y = .int .u64 ((b : Nat) : Int)) (ha : (OfNat.ofNat m) < 18446744073709551616) (hb : b ≤ (OfNat.ofNat m)) (h : K (upd f d (.int .u64 (((OfNat.ofNat m) - b : Nat) : Int))) w) : R1 P n S k ⟨some d, .binOp .sub t (.const (.int .u64 (OfNat.ofNat m))) y t2, ty, pos, aft, g⟩ K f w :=
  R1_sub_u64 (a := OfNat.ofNat m) (by rfl) hy ha hb h
theorem R1_mul_u64_l {b m : Nat} (hy : ev n f y = .int .u64 ((b : Nat) : Int)) (hb : (OfNat.ofNat m) * b < 18446744073709551616) (h : K (upd f d (.int .u64 (((OfNat.ofNat m) * b : Nat) : Int))) w) : R1 P n S k ⟨some d, .binOp .mul t (.const (.int .u64 (OfNat.ofNat m))) y t2, ty, pos, aft, g⟩ K f w :=
  R1_mul_u64 (a := OfNat.ofNat m) (by rfl) hy hb h
theorem R1_add_u32_l {b m : Nat} (hy : ev n f y = .int .u32 ((b : Nat) : Int)) (hb : (OfNat.ofNat m) + b < 4294967296) (h : K (upd f d (.int .u32 (((OfNat.ofNat m) + b : Nat) : Int))) w) : R1 P n S k ⟨some d, .binOp .add t (.const (.int .u32 (OfNat.ofNat m))) y t2, ty, pos, aft, g⟩ K f w :=
  R1_add_u32 (a := OfNat.ofNat m) (by rfl) hy hb h
theorem R1_sub_u32_l {b m : Nat} (hy : ev n f y = .int .u32 ((b : Nat) : Int)) (ha : (OfNat.ofNat m) < 4294967296) (hb : b ≤ (OfNat.ofNat m)) (h : K (upd f d (.int .u32 (((OfNat.ofNat m) - b : Nat) : Int))) w) : R1 P n S k ⟨some d, .binOp .sub t (.const (.int .u32 (OfNat.ofNat m))) y t2, ty, pos, aft, g⟩ K f w :=
  R1_sub_u32 (a := OfNat.ofNat m) (by rfl) hy ha hb h
theorem R1_mul_u32_l {b m : Nat} (hy : ev n f y = .int .u32 ((b : Nat) : Int)) (hb : (OfNat.ofNat m) * b < 4294967296) (h : K (upd f d (.int .u32 (((OfNat.ofNat m) * b : Nat) : Int))) w) : R1 P n S k ⟨some d, .binOp .mul t (.const (.int .u32 (OfNat.ofNat m))) y t2, ty, pos, aft, g⟩ K f w :=
  R1_mul_u32 (a := OfNat.ofNat m) (by rfl) hy hb h
theorem R1_mulm_u64_l {b m : Nat} (hy : ev n f y = .int .u64 ((b : Nat) : Int)) (h : K (upd f d (.int .u64 ((((OfNat.ofNat m) * b) % 18446744073709551616 : Nat) : Int))) w) : R1 P n S k ⟨some d, .binOp .mul t (.const (.int .u64 (OfNat.ofNat m))) y t2, ty, pos, aft, g⟩ K f w :=
  R1_mulm_u64 (a := OfNat.ofNat m) (by rfl) hy h
theorem R1_mulm_u32_l {b m : Nat} (hy : ev n f y = .int .u32 ((b : Nat) : Int)) (h : K (upd f d (.int .u32 ((((OfNat.ofNat m) * b) % 4294967296 : Nat) : Int))) w) : R1 P n S k ⟨some d, .binOp .mul t (.const (.int .u32 (OfNat.ofNat m))) y t2, ty, pos, aft, g⟩ K f w :=
  R1_mulm_u32 (a := OfNat.ofNat m) (by rfl) hy h
theorem R1_shl_u64_l {b m : Nat} {kk : IntKind} (hy : ev n f y = .int kk ((b : Nat) : Int)) (hb : b < 64) (h : K (upd f d (.int .u64 ((((OfNat.ofNat m) * 2 ^ b) % 18446744073709551616 : Nat) : Int))) w) : R1 P n S k ⟨some d, .binOp .shl t (.const (.int .u64 (OfNat.ofNat m))) y t2, ty, pos, aft, g⟩ K f w :=
  R1_shl_u64 (a := OfNat.ofNat m) (by rfl) hy hb h
theorem R1_shl_u32_l {b m : Nat} {kk : IntKind} (hy : ev n f y = .int kk ((b : Nat) : Int)) (hb : b < 32) (h : K (upd f d (.int .u32 ((((OfNat.ofNat m) * 2 ^ b) % 4294967296 : Nat) : Int))) w) : R1 P n S k ⟨some d, .binOp .shl t (.const (.int .u32 (OfNat.ofNat m))) y t2, ty, pos, aft, g⟩ K f w :=
  R1_shl_u32 (a := OfNat.ofNat m) (by rfl) hy hb h
end
end Go.Eng
