/- Joined: Fre. -/
import Derived.Test.YtimjiaabaanbeaaQm
/- matrix.build and matrix.Transpose once more: the limbs of the result are new. The law MatrixTransposes. -/
namespace Go.Proofs.Ytimjiaabaanbeaa
open Go Go.Eng Go.Num Go.Proofs

/-- a magnitude of the call's own: its block was made behind base -/
def FV (w : World) (base : Nat) (y : Value) : Prop := ∃ A n c, y = .slice A n c ∧ n ≤ 9223372036854775807 ∧ (n = 0 ∨ ∃ g cs, A = some ⟨g, 0, none⟩ ∧ base ≤ g ∧ Blk w g 54 cs ∧ n ≤ cs.size)
theorem FV.ext {w w' : World} {base : Nat} {y : Value} (h : FV w base y) (hE : Ext w w') : FV w' base y := by
  obtain ⟨A, n, c, e, hn, h⟩ := h
  refine ⟨A, n, c, e, hn, h.imp id ?_⟩
  rintro ⟨g, cs, e, h1, h2, h3⟩
  exact ⟨g, cs, e, h1, h2.ext hE, h3⟩
theorem FV.mono {w : World} {base base' : Nat} {y : Value} (h : FV w base y) (hb : base' ≤ base) : FV w base' y := by
  obtain ⟨A, n, c, e, hn, h⟩ := h
  refine ⟨A, n, c, e, hn, h.imp id ?_⟩
  rintro ⟨g, cs, e, h1, h2, h3⟩
  exact ⟨g, cs, e, by omega, h2, h3⟩
theorem FV.keepT {w w' : World} {base G T : Nat} {cs : Array Value} {y : Value} (h : FV w base y) (hb : Blk w G T cs) (hC : Ch (fun b => b = G) w w') (hT : 54 ≠ T) : FV w' base y := by
  obtain ⟨A, n, c, e, hn, h⟩ := h
  refine ⟨A, n, c, e, hn, h.imp id ?_⟩
  rintro ⟨g, cs', e, h1, h2, h3⟩
  exact ⟨g, cs', e, h1, h2.ch hC (blk_ty h2 hb hT), h3⟩
theorem FV.one {w : World} {base : Nat} {y : Value} (h : FV w base y) : y.oneCell' = true := by obtain ⟨A, n, c, rfl, _⟩ := h; rfl
theorem FV.nil {w : World} {base : Nat} : FV w base (.slice none 0 0) := ⟨none, 0, 0, rfl, by decide, .inl rfl⟩
/-- what a function that returns an Int with new limbs leaves -/
def RIF (w : World) (v : Value) (w' : World) : Prop := Ext w w' ∧ ∃ (b : Bool) (y : Value), v = .agg #[.bool b, y] ∧ FV w' w.heap.size y
/-- a row of such Ints -/
def FRow (w : World) (base g c : Nat) : Prop := ∃ h : Nat → Value, Blk w g 35 (arr (c * 2) h) ∧ ∀ j, j < c → (∃ b, h (j * 2) = .bool b) ∧ FV w base (h (j * 2 + 1))
theorem frow_made {w : World} {g c : Nat} (base : Nat) (h : Blk w g 35 (madeCells (Value.agg #[.bool false, .slice none 0 0]).cells (c * 2))) : FRow w base g c := by
  rw [arr_made] at h
  refine ⟨_, h, fun j hj => ?_⟩
  have e0 : (j * 2) % (Value.agg #[.bool false, .slice none 0 0]).cells.size = 0 := by simp [Value.cells]
  have e1 : (j * 2 + 1) % (Value.agg #[.bool false, .slice none 0 0]).cells.size = 1 := by simp [Value.cells]
  simp only [e0, e1]
  exact ⟨⟨false, rfl⟩, FV.nil⟩
theorem FRow.ext {w w' : World} {base g c : Nat} (h : FRow w base g c) (hE : Ext w w') : FRow w' base g c := by
  obtain ⟨h, hb, hc⟩ := h
  exact ⟨h, hb.ext hE, fun j hj => ⟨(hc j hj).1, (hc j hj).2.ext hE⟩⟩
theorem FRow.keepT {w w' : World} {base g c G T : Nat} {cs : Array Value} (h : FRow w base g c) (hb : Blk w G T cs) (hC : Ch (fun b => b = G) w w') (hne : g ≠ G) (hT : 54 ≠ T) : FRow w' base g c := by
  obtain ⟨h, hb', hc⟩ := h
  exact ⟨h, hb'.ch hC hne, fun j hj => ⟨(hc j hj).1, (hc j hj).2.keepT hb hC hT⟩⟩
theorem FRow.set {w w' : World} {base g c j : Nat} {h : Nat → Value} {b : Bool} {y : Value} (hb : Blk w g 35 (arr (c * 2) h)) (hc : ∀ j, j < c → (∃ b, h (j * 2) = .bool b) ∧ FV w base (h (j * 2 + 1)))
    (hv : FV w base y) (hC : Ch (fun b => b = g) w w') (hb' : Blk w' g 35 (((arr (c * 2) h).setIfInBounds (0 + j * 2) (.bool b)).setIfInBounds (0 + j * 2 + 1) y)) : FRow w' base g c := by
  refine ⟨_, by rw [arr_set, arr_set] at hb'; exact hb', fun k hk => ?_⟩
  by_cases hkj : k = j
  · subst hkj
    rw [Nat.zero_add, upd_ne _ _ (show k * 2 ≠ k * 2 + 1 by omega), upd_self, upd_self]
    exact ⟨⟨b, rfl⟩, hv.keepT hb hC (by decide)⟩
  · rw [Nat.zero_add, upd_ne _ _ (by omega), upd_ne _ _ (by omega), upd_ne _ _ (by omega), upd_ne _ _ (by omega)]
    exact ⟨(hc k hk).1, (hc k hk).2.keepT hb hC (by decide)⟩
structure FMat (w : World) (base gO : Nat) (gs : Nat → Nat) (r c : Nat) : Prop where
  outer : Blk w gO 53 (arr r fun i => .slice (some ⟨gs i, 0, none⟩) c c)
  row : ∀ i, i < r → FRow w base (gs i) c
  ne : ∀ i, i < r → gs i ≠ gO
  inj : ∀ i j, i < r → j < r → gs i = gs j → i = j
/-- what a function that returns such a matrix leaves -/
def RMF (w : World) (r c : Nat) (v : Value) (w' : World) : Prop :=
  Ext w w' ∧ ∃ gO gs, v = .slice (some ⟨gO, 0, none⟩) r r ∧ w.heap.size ≤ gO ∧ (∀ i, i < r → w.heap.size ≤ gs i) ∧ FMat w' w.heap.size gO gs r c

set_option maxHeartbeats 8000000 in
theorem mbuildF_ok (r c g : Nat) (cap : List Value) (w : World) (hr : r < 1073741824) (hc : c < 1073741824)
    (hf : ∀ i j, i < r → j < c → ∀ w', Ext w w' → Meets Try.prog g (.int .i64 ((i : Nat) : Int) :: .int .i64 ((j : Nat) : Int) :: cap).toArray w' (RIF w')) :
    Meets Try.prog 50 #[.int .i64 ((r : Nat) : Int), .int .i64 ((c : Nat) : Int), .func (.func g) #[] cap.toArray] w (RMF w r c) := by
  refine fn_W (n := 43) Try.func50 rfl rfl (by kernel_rfl) (by simp) ?_
  refine gg ?_
  refine R1_make sl_sInt (.inl rfl) rfl rfl (Nat.le_refl _) (by omega) (by omega) ?_
  intro w1 hB hE hsz
  rw [arr_made, Nat.mul_one] at hB
  refine gg ?_
  refine W_seqM (fun f w' => ∃ gs, f 7 = .slice (some ⟨w.heap.size, 0, none⟩) r r ∧ Ext w w' ∧ (∀ i, i < r → w.heap.size < gs i) ∧ FMat w' w.heap.size w.heap.size gs r c) ?_ ?_
  · refine gg ?_
    refine W_loop (fun m f w' => ∃ i gs h, m = r - i ∧ i ≤ r ∧ f 1 = .int .i64 ((c : Nat) : Int) ∧ f 2 = .func (.func g) #[] cap.toArray ∧ f 7 = .slice (some ⟨w.heap.size, 0, none⟩) r r ∧ f 13 = .int .i64 ((r : Nat) : Int) ∧ f 14 = .int .i64 ((i : Nat) : Int) ∧
      Ext w w' ∧ Blk w' w.heap.size 53 (arr r h) ∧ (∀ k, k < r → ∃ A m c, h k = .slice A m c) ∧ (∀ k, k < i → h k = .slice (some ⟨gs k, 0, none⟩) c c ∧ FRow w' w.heap.size (gs k) c ∧ w.heap.size < gs k) ∧ (∀ k k', k < i → k' < i → gs k = gs k' → k = k'))
      r ⟨0, fun _ => 0, _, rfl, Nat.zero_le _, rfl, rfl, rfl, rfl, rfl, hE, hB, fun k _ => ⟨none, 0, 0, by simp [Value.cells, Nat.mod_one]⟩, fun k hk => absurd hk (by omega), fun k k' hk => absurd hk (by omega)⟩ ?_
    clear hB hE hsz w1
    rintro m f w1 ⟨i, gs, h, rfl, hi, hf1, hf2, hf7, hf13, hf14, hE, hB, hsl, hrow, hinj⟩
    rw [ui hf1, ui hf2, ui hf7, ui hf13, ui hf14]
    clear hf1 hf2 hf7 hf13 hf14
    by_cases hlt : i < r
    · refine gg ?_
      refine R1_make sl_Int (.inl rfl) rfl rfl (Nat.le_refl _) (by omega) (by omega) ?_
      intro w2 hB2 hE2 hs2
      have hO := frow_made w.heap.size hB2
      refine gg ?_
      refine R1_storeS (one_of rfl) (.inl rfl) rfl rfl (hB.ext hE2) (by rw [arr_size]; omega) ?_
      intro w3 hB3 hC3 hs3
      have hg : w.heap.size ≠ w1.heap.size := by have := hB.lt; omega
      have hO3 := hO.keepT (hB.ext hE2) hC3 hg.symm (by decide)
      rw [arr_set, Nat.zero_add, Nat.mul_one] at hB3
      have hE3 : Ext w w3 := hC3.ext_of (hE.trans hE2) (fun b hb => by omega)
      have hlt3 : w1.heap.size < w3.heap.size := by omega
      have hx : w3.cell? ⟨w.heap.size, 0 + i * 1, none⟩ = some (.slice (some ⟨w1.heap.size, 0, none⟩) c c) := by
        rw [hB3.cell, arr_at (by omega), Nat.zero_add, Nat.mul_one, upd_self]
      have hrow3 : ∀ k, k < i → h k = .slice (some ⟨gs k, 0, none⟩) c c ∧ FRow w3 w.heap.size (gs k) c ∧ w.heap.size < gs k ∧ gs k < w1.heap.size := fun k hk => by
        obtain ⟨e, ho, hl⟩ := hrow k hk
        refine ⟨e, (ho.ext hE2).keepT (hB.ext hE2) hC3 (by omega) (by decide), hl, ?_⟩
        obtain ⟨_, hb, _⟩ := ho; exact hb.lt
      clear hrow hC3 hO hB2 hB hE2
      refine gg ?_
      refine W_loop (fun m f w' => ∃ j, m = c - j ∧ j ≤ c ∧ f 1 = .int .i64 ((c : Nat) : Int) ∧ f 2 = .func (.func g) #[] cap.toArray ∧ f 7 = .slice (some ⟨w.heap.size, 0, none⟩) r r ∧ f 8 = .int .i64 ((i : Nat) : Int) ∧ f 13 = .int .i64 ((r : Nat) : Int) ∧ f 14 = .int .i64 ((i : Nat) : Int) ∧
        f 26 = .int .i64 ((c : Nat) : Int) ∧ f 27 = .int .i64 ((j : Nat) : Int) ∧ Ext w w' ∧ Blk w' w.heap.size 53 (arr r (upd h i (.slice (some ⟨w1.heap.size, 0, none⟩) c c))) ∧ (∀ k, k < i → FRow w' w.heap.size (gs k) c) ∧ FRow w' w.heap.size w1.heap.size c)
        c ⟨0, rfl, Nat.zero_le _, rfl, rfl, rfl, rfl, rfl, rfl, rfl, rfl, hE3, hB3, fun k hk => (hrow3 k hk).2.1, hO3⟩ ?_
      have hrow4 : ∀ k, k < i → h k = .slice (some ⟨gs k, 0, none⟩) c c ∧ w.heap.size < gs k ∧ gs k < w1.heap.size := fun k hk => ⟨(hrow3 k hk).1, (hrow3 k hk).2.2⟩
      have hw1 := hE.size
      have hsl2 : ∀ k, k < r → ∃ A m cc, upd h i (.slice (some ⟨w1.heap.size, 0, none⟩) c c) k = .slice A m cc := fun k hk => by
        by_cases hki : k = i
        · subst hki; exact ⟨_, _, _, upd_self _ _ _⟩
        · rw [upd_ne _ _ hki]; exact hsl k hk
      clear hrow3 hO3 hB3 hE3 hx hs3 hlt3 w3 hs2 w2 f
      rintro m f w3 ⟨j, rfl, hj, hf1, hf2, hf7, hf8, hf13, hf14, hf26, hf27, hE3, hB3, hR3, hO3⟩
      rw [ui hf1, ui hf2, ui hf7, ui hf8, ui hf13, ui hf14, ui hf26, ui hf27]
      clear hf1 hf2 hf7 hf8 hf13 hf14 hf26 hf27
      by_cases hjc : j < c
      · refine gg ?_
        refine W_regD [(0, 3), (1, 3), (2, 3), (3, 0), (4, 3), (5, 3), (6, 3), (7, 3), (8, 1), (9, 3), (10, 2)] mixed (by kernel_rfl) (fun w4 hE4 _ => ?_)
        have hx : w4.cell? ⟨w.heap.size, 0 + i * 1, none⟩ = some (.slice (some ⟨w1.heap.size, 0, none⟩) c c) := by
          rw [(hB3.ext hE4).cell, arr_at (by omega), Nat.zero_add, Nat.mul_one, upd_self]
        refine gg ?_
        refine R1_callv2 (.inr rfl) rfl rfl rfl (hf i j hlt hjc w4 (hE3.trans hE4)) ?_
        rintro _ w5 ⟨hE5, x, y, rfl, hcv⟩
        replace hcv := hcv.mono ((hE3.trans hE4).size)
        refine ⟨fun _ => hE5, ?_⟩
        obtain ⟨hh, hBr, hcr⟩ := hO3.ext (hE4.trans hE5)
        refine gg ?_
        refine R1_store2 agg_Int (.inl rfl) rfl rfl rfl hcv.one hBr (by rw [arr_size]; omega) ?_
        intro w6 hB6 hC6 hs6
        have hO6 := FRow.set hBr hcr hcv hC6 hB6
        have hE6 : Ext w w6 := hC6.ext_of ((hE3.trans hE4).trans hE5) (fun b hb => by omega)
        have hg : w.heap.size ≠ w1.heap.size := by have := hB3.lt; omega
        refine gg ?_
        refine ⟨_, ?_, j + 1, rfl, by omega, rfl, rfl, rfl, rfl, rfl, rfl, rfl, rfl, hE6, (hB3.ext (hE4.trans hE5)).ch hC6 hg, fun k hk => ((hR3 k hk).ext (hE4.trans hE5)).keepT hBr hC6 (by have := (hrow4 k hk).2.2; omega) (by decide), hO6⟩
        omega
      · refine gg ?_
        have : j = c := by omega
        subst this
        refine ⟨_, ?_, i + 1, fun k => if k = i then w1.heap.size else gs k, _, rfl, by omega, rfl, rfl, rfl, rfl, rfl, hE3, hB3, hsl2, fun k hk => ?_, fun k k' hk hk' e => ?_⟩
        · omega
        · by_cases hki : k = i
          · subst hki
            rw [upd_self]
            simp only [if_true]
            exact ⟨trivial, hO3, by omega⟩
          · rw [upd_ne _ _ hki]
            simp only [if_neg hki]
            exact ⟨(hrow4 k (by omega)).1, hR3 k (by omega), (hrow4 k (by omega)).2.1⟩
        · simp only at e
          split at e <;> split at e
          · omega
          · have := (hrow4 k' (by omega)).2.2; omega
          · have := (hrow4 k (by omega)).2.2; omega
          · exact hinj k k' (by omega) (by omega) e
    · refine gg ?_
      have : i = r := by omega
      subst this
      refine ⟨gs, rfl, hE, fun k hk => (hrow k hk).2.2, ⟨?_, fun k hk => (hrow k hk).2.1, fun k hk => by have := (hrow k hk).2.2; omega, hinj⟩⟩
      rw [arr_congr (fun k hk => (hrow k hk).1)] at hB
      exact hB
  · rintro f w2 ⟨gs, hf7, hE2, hlt, hO⟩
    rw [ui hf7]
    refine gg ?_
    exact ret1 (v := .slice _ _ _) rfl rfl ⟨hE2, _, gs, rfl, Nat.le_refl _, fun i hi => Nat.le_of_lt (hlt i hi), hO⟩

set_option maxHeartbeats 8000000 in
theorem buildF_ok (neg : Bool) (A : Option Addr) (n c base : Nat) (w : World) (h : FV w base (.slice A n c)) :
    Meets Try.prog 83 #[.bool neg, .slice A n c] w fun v w' => Ext w w' ∧ ∃ (b : Bool) (y : Value), v = .agg #[.bool b, y] ∧ FV w' base y := by
  refine fn_W (n := 12) Try.func83 rfl rfl (by kernel_rfl) (by simp) ?_
  refine gg ?_
  refine R1_alloc (.inl rfl) z_Int ?_
  intro w1 hB hE hs
  refine gg ?_
  by_cases h0 : n = 0
  · refine W_seq ?_
    refine gg ?_
    refine R1_bld0 b0_Int ?_
    refine gg ?_
    refine R1_store2 agg_Int (.inl rfl) rfl rfl rfl rfl hB (by decide) ?_
    intro w2 hB2 hC2 hs2
    refine gg ?_
    exact retC rfl agg_Int rfl hB2 ⟨hC2.ext_of hE (fun b hb => by omega), _, _, rfl, FV.nil⟩
  · refine W_seq ?_
    refine gg ?_
    refine R1_bld2 (v0 := .bool _) (v1 := .slice _ _ _) b2_Int rfl rfl rfl rfl ?_
    refine gg ?_
    refine R1_store2 agg_Int (.inl rfl) rfl rfl rfl rfl hB (by decide) ?_
    intro w2 hB2 hC2 hs2
    refine gg ?_
    exact retC rfl agg_Int rfl hB2 ⟨hC2.ext_of hE (fun b hb => by omega), _, _, rfl, h.ext (hC2.ext_of hE (fun b hb => by omega))⟩

set_option maxHeartbeats 8000000 in
theorem normalizeF_ok (x y : Value) (z : Int) (N : Nat) (w : World) (h : IV w N x y z) (hN : N < 1099511627776) :
    Meets Try.prog 74 #[.agg #[x, y]] w (RIF w) := by
  obtain ⟨neg, A, l, c, rfl, rfl, hc, hc2, hM, hl, rfl⟩ := h
  refine fn_W (n := 10) Try.func74 rfl rfl (by kernel_rfl) (by simp) ?_
  refine gg ?_
  refine R1_box (v := .agg _) (.inl rfl) rfl ?_
  intro w1 hB1 hE1 hs1
  refine gg ?_
  refine R1_alloc (.inl rfl) z_Int ?_
  intro w2 hB2 hE2 hs2
  refine gg ?_
  refine W_seqD [(0, 3), (1, 0), (2, 3), (3, 0), (4, 1), (5, 1), (6, 1), (7, 2)] mixed (by kernel_rfl) (fun w3 hE3 _ => ?_)
  have hB13 := hB1.ext (hE2.trans hE3)
  have hB23 := hB2.ext hE3
  have f0 := blk0 hB13
  have f1 := blk1 hB13
  have hE := (hE1.trans hE2).trans hE3
  refine gg ?_
  refine R1_call1 (trim_ok _ _ _ _ w3 (hM.ext hE) rfl hc hc2) ?_
  rintro _ _ ⟨rfl, m, hm, rfl, htr, htv⟩
  refine ⟨Ext.refl _, ?_⟩
  refine gg ?_
  refine R1_call1 (clone_ok _ _ _ (l.take m) w3 ((hM.ext hE).take m) (List.length_take_of_le hm) (by omega) (fun e => by have := hM.none_len e; omega)) ?_
  rintro v w4 ⟨hE4, hv⟩
  refine ⟨hE4, ?_⟩
  have hfv : ∃ A n c, v = .slice A n c ∧ FV w4 w.heap.size (.slice A n c) := by
    rcases hv with ⟨rfl, _⟩ | ⟨g, c', rfl, hg, hq1, hq2, sp, hB⟩
    · exact ⟨_, _, _, rfl, FV.nil⟩
    · refine ⟨_, _, _, rfl, _, _, _, rfl, by omega, .inr ⟨g, _, rfl, by have := hE.size; omega, hB, ?_⟩⟩
      rw [Array.size_append]
      have : (cells (l.take m)).size = m := by simp [cells]; omega
      omega
  obtain ⟨A', n', c', rfl, hfv⟩ := hfv
  refine gg ?_
  refine R1_call1 (buildF_ok neg A' n' c' w.heap.size w4 hfv) ?_
  rintro _ w5 ⟨hE5, b, y', rfl, hcv⟩
  refine ⟨hE5, ?_⟩
  refine gg ?_
  refine R1_store2 agg_Int (.inl rfl) rfl rfl rfl hcv.one (hB23.ext (hE4.trans hE5)) (by decide) ?_
  intro w6 hB6 hC6 hs6
  refine gg ?_
  have hE6 : Ext w w6 := hC6.ext_of ((hE.trans hE4).trans hE5) (fun b hb => by have := hE1.size; omega)
  exact retC rfl agg_Int rfl hB6 ⟨hE6, b, y', rfl, hcv.keepT (hB23.ext (hE4.trans hE5)) hC6 (by decide)⟩

set_option maxHeartbeats 8000000 in
theorem transpose1F_ok (i j gA r c N : Nat) (va : Value) (X : Nat → Nat → Int) (w : World) (hA : Blk w gA 22 #[va])
    (ha : MatE (EI N) w va r (fun _ => c) X) (hi : i < c) (hj : j < r) (hN : N < 1099511627776) :
    Meets Try.prog 73 #[.int .i64 ((i : Nat) : Int), .int .i64 ((j : Nat) : Int), .pointer (some ⟨gA, 0, none⟩)] w (RIF w) := by
  refine fn_W (n := 14) Try.func73 rfl rfl (by kernel_rfl) (by simp) ?_
  refine gg ?_
  refine R1_alloc (.inl rfl) z_Int ?_
  intro w1 hB1 hE1 hs1
  have f0 := blkS (hA.ext hE1)
  obtain ⟨ada, capa, ua, rfl, hua, hra⟩ := (ha.ext hE1).at hj
  obtain ⟨ada', capa', xa, ya, rfl, hxa, hya, hva⟩ := hra.at hi
  refine gg ?_
  refine R1_call2 (normalizeF_ok _ _ _ N w1 hva hN) ?_
  rintro _ w2 ⟨hE2, b, y, rfl, hc1⟩
  refine gg ?_
  refine R1_store2 agg_Int (.inl rfl) rfl rfl rfl hc1.one (hB1.ext hE2) (by decide) ?_
  intro w6 hB6 hC6 hs6
  refine gg ?_
  exact retC rfl agg_Int rfl hB6 ⟨hC6.ext_of (hE1.trans hE2) (fun b hb => by omega), b, y, rfl, (hc1.keepT (hB1.ext hE2) hC6 (by decide)).mono hE1.size⟩

set_option maxHeartbeats 8000000 in
theorem transposeF_ok (va : Value) (r c N : Nat) (X : Nat → Nat → Int) (w : World) (ha : MatE (EI N) w va r (fun _ => c) X) (hN : N < 1099511627776) (h1 : 1 ≤ r) (h2 : r ≤ 16) (h3 : 1 ≤ c) (h4 : c ≤ 16) :
    Meets Try.prog 35 #[va] w fun v w' => Ext w w' ∧ ∃ gO gs, v = .tuple #[.slice (some ⟨gO, 0, none⟩) c c, .bool true] ∧ w.heap.size ≤ gO ∧ (∀ i, i < c → w.heap.size ≤ gs i) ∧ FMat w' w.heap.size gO gs c r := by
  obtain ⟨Aa, capa, hva, _⟩ := id ha
  refine fn_W (n := 19) Try.func35 rfl rfl (by kernel_rfl) (by simp) ?_
  refine gg ?_
  refine R1_box (v := va) (.inl rfl) rfl ?_
  intro w1 hB1 hE1 hs1
  have hA1 : Blk w1 w.heap.size 22 #[va] := by rw [hva] at hB1 ⊢; exact hB1
  have f1 := blkS hA1
  refine gg ?_
  refine R1_call2 (shape_ok _ va r (fun _ => c) X w1 (ha.ext hE1)) ?_
  rintro _ _ ⟨rfl, rfl⟩
  rw [shapeV_t (okM_const h1 h2 h3 h4)]
  refine gg ?_
  refine W_seq ?_
  refine gg ?_
  refine R1_func0 ?_
  refine gg ?_
  refine R1_call2 (mbuildF_ok c r _ _ w1 (by omega) (by omega) (fun i j hi hj w' hE' => transpose1F_ok i j w.heap.size r c N va X w' (hA1.ext hE') (ha.ext (hE1.trans hE')) hi hj hN)) ?_
  rintro v w5 ⟨hE5, gO, gs, rfl, hgO, hgs, hF⟩
  have h1s := hE1.size
  refine gg ?_
  refine ret2 (v := .slice _ _ _) (v' := .bool _) rfl rfl rfl ⟨hE1.trans hE5, gO, gs, rfl, by omega, fun i hi => by have := hgs i hi; omega, hF.outer, fun i hi => ?_, hF.ne, hF.inj⟩
  obtain ⟨h, hb, hc⟩ := hF.row i hi
  exact ⟨h, hb, fun j hj => ⟨(hc j hj).1, (hc j hj).2.mono h1s⟩⟩
end Go.Proofs.Ytimjiaabaanbeaa
