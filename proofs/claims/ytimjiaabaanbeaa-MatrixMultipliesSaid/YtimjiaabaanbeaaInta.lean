/- The program's integers: values, and the contracts of build, Normalize, Small, Sign, Neg, addSigned, Add, Sub, Mul. -/
import Derived.Test.YtimjiaabaanbeaaNatg
namespace Go.Proofs.Ytimjiaabaanbeaa
open Go Go.Eng Go.Num Go.Proofs

def sg (neg : Bool) (m : Nat) : Int := if neg then -(m : Int) else (m : Int)
/-- the two cells of an Int that denotes z, with at most N limbs -/
def IV (w : World) (N : Nat) (x y : Value) (z : Int) : Prop := ∃ neg A l c, x = .bool neg ∧ y = .slice A l.length c ∧ l.length ≤ c ∧ c < 9223372036854775808 ∧ Mag w A l ∧ l.length ≤ N ∧ z = sg neg (val l)
/-- .. canonical -/
def CV (w : World) (x y : Value) (z : Int) : Prop := ∃ neg A l c, x = .bool neg ∧ y = .slice A l.length c ∧ l.length ≤ c ∧ c < 9223372036854775808 ∧ Mag w A l ∧ Trimd l ∧ (l = [] → neg = false) ∧ z = sg neg (val l)
/-- what a function that returns an Int leaves -/
def RI (w : World) (z : Int) (v : Value) (w' : World) : Prop := Ext w w' ∧ ∃ x y, v = .agg #[x, y] ∧ CV w' x y z

theorem IV.ext {w w' : World} {N : Nat} {x y : Value} {z : Int} (h : IV w N x y z) (hE : Ext w w') : IV w' N x y z := by
  obtain ⟨neg, A, l, c, h1, h2, h3, h4, h5, h6, h7⟩ := h
  exact ⟨neg, A, l, c, h1, h2, h3, h4, h5.ext hE, h6, h7⟩
theorem CV.ext {w w' : World} {x y : Value} {z : Int} (h : CV w x y z) (hE : Ext w w') : CV w' x y z := by
  obtain ⟨neg, A, l, c, h1, h2, h3, h4, h5, h6, h7⟩ := h
  exact ⟨neg, A, l, c, h1, h2, h3, h4, h5.ext hE, h6, h7⟩
theorem sg_abs (neg : Bool) (m : Nat) : (sg neg m).natAbs = m := by unfold sg; split <;> simp
theorem CV.iv {w : World} {N : Nat} {x y : Value} {z : Int} (h : CV w x y z) (hz : z.natAbs < B ^ N) : IV w N x y z := by
  obtain ⟨neg, A, l, c, h1, h2, h3, h4, h5, h6, h7, h8⟩ := h
  refine ⟨neg, A, l, c, h1, h2, h3, h4, h5, ?_, h8⟩
  rw [h8, sg_abs] at hz
  rcases Nat.lt_or_ge N l.length with h | h
  · exfalso
    have hne : l ≠ [] := by rintro rfl; simp at h
    have a := val_top hne h6
    have b : B ^ N ≤ B ^ (l.length - 1) := Nat.pow_le_pow_right (by decide) (by omega)
    omega
  · exact h
theorem IV.abs {w : World} {N : Nat} {x y : Value} {z : Int} (h : IV w N x y z) : z.natAbs < B ^ N := by
  obtain ⟨neg, A, l, c, h1, h2, h3, h4, h5, h6, h7⟩ := h
  rw [h7, sg_abs]
  exact Nat.lt_of_lt_of_le (val_lt l h5.lim) (Nat.pow_le_pow_right (by decide) h6)

/-- no cell of the row holds a number: no limbs lie there -/
def NoInt (cs : Array Value) : Prop := ∀ (i : Nat) (k : IntKind) (z : Int), cs[i]? ≠ some (.int k z)
theorem cell_blk {w : World} {g T : Nat} {cs : Array Value} {p : Addr} {v : Value} (hb : Blk w g T cs) (hp : p.block = g) (h : w.cell? p = some v) : ∃ i : Nat, cs[i]? = some v := by
  obtain ⟨b, o, sp⟩ := p
  obtain rfl : b = g := hp
  unfold Blk at hb
  simp only [World.cell?, hb] at h
  split at h
  · cases h
  · exact ⟨o, h⟩
theorem Mag.keep {w w' : World} {g T : Nat} {cs : Array Value} {A : Option Addr} {l : List Nat} (h : Mag w A l) (hb : Blk w g T cs) (hn : NoInt cs) (hC : Ch (fun b => b = g) w w') : Mag w' A l :=
  ⟨h.lim, fun j hj => by
    obtain ⟨ad, e, hc⟩ := h.cell j hj
    refine ⟨ad, e, ?_⟩
    rw [← hc]
    refine cell_ch hC (World.block_lt_of_cell? w _ hc) (fun hg => ?_)
    obtain ⟨i, hi⟩ := cell_blk hb hg hc
    exact hn _ _ _ hi⟩
theorem IV.keep {w w' : World} {N g T : Nat} {cs : Array Value} {x y : Value} {z : Int} (h : IV w N x y z) (hb : Blk w g T cs) (hn : NoInt cs) (hC : Ch (fun b => b = g) w w') : IV w' N x y z := by
  obtain ⟨neg, A, l, c, h1, h2, h3, h4, h5, h6, h7⟩ := h
  exact ⟨neg, A, l, c, h1, h2, h3, h4, h5.keep hb hn hC, h6, h7⟩
theorem CV.keep {w w' : World} {g T : Nat} {cs : Array Value} {x y : Value} {z : Int} (h : CV w x y z) (hb : Blk w g T cs) (hn : NoInt cs) (hC : Ch (fun b => b = g) w w') : CV w' x y z := by
  obtain ⟨neg, A, l, c, h1, h2, h3, h4, h5, h6, h7⟩ := h
  exact ⟨neg, A, l, c, h1, h2, h3, h4, h5.keep hb hn hC, h6, h7⟩
theorem noInt2 {b : Bool} {A : Option Addr} {m c : Nat} : NoInt #[.bool b, .slice A m c] := by
  intro i k z
  match i with
  | 0 => simp
  | 1 => simp
  | i + 2 => simp
theorem CV.noInt {w : World} {x y : Value} {z : Int} (h : CV w x y z) : NoInt #[x, y] := by
  obtain ⟨neg, A, l, c, rfl, rfl, _⟩ := h; exact noInt2
theorem blk0 {w : World} {g T : Nat} {x y : Value} (h : Blk w g T #[x, y]) : w.cell? ⟨g, 0 + 0, none⟩ = some x := by rw [h.cell]; rfl
theorem blk1 {w : World} {g T : Nat} {x y : Value} (h : Blk w g T #[x, y]) : w.cell? ⟨g, 0 + 1, none⟩ = some y := by rw [h.cell]; rfl
theorem CV.one0 {w : World} {x y : Value} {z : Int} (h : CV w x y z) : x.oneCell' = true := by obtain ⟨neg, A, l, c, rfl, _⟩ := h; rfl
theorem CV.one1 {w : World} {x y : Value} {z : Int} (h : CV w x y z) : y.oneCell' = true := by obtain ⟨neg, A, l, c, _, rfl, _⟩ := h; rfl

set_option maxHeartbeats 8000000 in
theorem build_ok (neg : Bool) (v : Value) (m : Nat) (w : World) (h : NatV w v m) :
    Meets Try.prog 83 #[.bool neg, v] w (RI w (sg neg m)) := by
  obtain ⟨A, l, c, rfl, hc, hc2, hM, ht, rfl⟩ := h
  refine fn_W (n := 12) Try.func83 rfl rfl (by kernel_rfl) (by simp) ?_
  refine gg ?_
  refine R1_alloc (.inl rfl) z_Int ?_
  intro w1 hB hE hs
  refine gg ?_
  by_cases h0 : l.length = 0
  · have hl := List.eq_nil_of_length_eq_zero h0
    refine W_seq ?_
    refine gg ?_
    refine R1_bld0 b0_Int ?_
    refine gg ?_
    refine R1_store2 agg_Int (.inl rfl) rfl rfl rfl rfl hB (by decide) ?_
    intro w2 hB2 hC2 hs2
    refine gg ?_
    refine retC rfl agg_Int rfl hB2 ⟨hC2.ext_of hE (fun b hb => by omega), _, _, rfl, false, none, [], 0, rfl, rfl, Nat.le_refl _, by omega, Mag.nil _ _, Trimd.nil, fun _ => rfl, ?_⟩
    subst hl; simp [sg, val]
  · refine W_seq ?_
    refine gg ?_
    refine R1_bld2 (v0 := .bool _) (v1 := .slice _ _ _) b2_Int rfl rfl rfl rfl ?_
    refine gg ?_
    refine R1_store2 agg_Int (.inl rfl) rfl rfl rfl rfl hB (by decide) ?_
    intro w2 hB2 hC2 hs2
    refine gg ?_
    have hE2 := hC2.ext_of hE (fun b hb => by omega)
    exact retC rfl agg_Int rfl hB2 ⟨hE2, _, _, rfl, neg, A, l, c, rfl, rfl, hc, hc2, hM.ext hE2, ht, fun h => absurd (by rw [h]; rfl) h0, rfl⟩
end Go.Proofs.Ytimjiaabaanbeaa
