/- Joined: Min. -/
import Derived.Test.YtcjhcefnedonlaaQr
/- Minors. -/
namespace Go.Proofs.Ytcjhcefnedonlaa
open Go Go.Eng Go.Num Go.Proofs

theorem want_undef {n : Nat} {ops : Array Oper} {f : Fr} {o : Oper} {j : Nat} {b : Bool} {t : Tmp} (h : o.guard = some (j, b)) (hj : (ops[j]?).bind (·.dst) = some t) (ht : ev n f (.tmp t) = undef) : want n ops f o = false := by
  by_cases hlt : t < n
  · have hn : Nat.blt t n = true := by simpa [Nat.blt_eq] using hlt
    have hv : f t = undef := by simpa [ev, hn] using ht
    simp [want, Region.wanted, h, yielded, hj, act, hlt, hv, undef]
  · simp [want, Region.wanted, h, yielded, hj, act, hlt]
/-- the operation hangs on one that was not wanted -/
theorem Rl_noU {P : Program} {n : Nat} {ops : Array Oper} {K : Fr → World → Prop} {f : Fr} {w : World} {o : Oper} {rest : List Oper} {j : Nat} {b : Bool} {t : Tmp} (h : o.guard = some (j, b)) (hj : (ops[j]?).bind (·.dst) = some t) (ht : ev n f (.tmp t) = undef)
    (hr : Rl P n ops K rest (updO f o.dst undef) w) : Rl P n ops K (o :: rest) f w := by
  unfold Rl; rw [want_undef h hj ht]; simpa using hr

/-- what a function that returns an Int, canonical or not, leaves -/
def RE (w : World) (N : Nat) (z : Int) (v : Value) (w' : World) : Prop := Ext w w' ∧ ∃ x y, v = .agg #[x, y] ∧ IV w' N x y z
/-- a new matrix, its entries canonical or not -/
def RW (w : World) (r c N : Nat) (M : Nat → Nat → Int) (v : Value) (w' : World) : Prop :=
  Ext w w' ∧ ∃ gO gs, v = .slice (some ⟨gO, 0, none⟩) r r ∧ w.heap.size ≤ gO ∧ (∀ i, i < r → w.heap.size ≤ gs i) ∧ WMat w' gO gs r c false (fun _ _ => N) M
theorem WMat.read {w : World} {gO r c N : Nat} {gs : Nat → Nat} {cn : Bool} {M : Nat → Nat → Int} (h : WMat w gO gs r c cn (fun _ _ => N) M) (hr : r < 9223372036854775808) (hc : c < 9223372036854775808) : MatE (EI N) w (.slice (some ⟨gO, 0, none⟩) r r) r (fun _ => c) M :=
  ⟨_, _, rfl, Nat.le_refl _, hr, fun i hi => ⟨_, _, rfl, by rw [add_lit]; exact h.at hi, _, _, rfl, Nat.le_refl _, hc, fun j hj => by
    obtain ⟨x, y, e1, e2, hv⟩ := (h.row i hi).at hj
    exact ⟨_, x, y, rfl, by rw [add_lit]; exact e1, by rw [add_lit]; exact e2, hv.1⟩⟩⟩

set_option maxHeartbeats 8000000 in
theorem mbuildE_ok (r c g N : Nat) (cap : List Value) (M : Nat → Nat → Int) (w : World) (hr : r < 1073741824) (hc : c < 1073741824)
    (hf : ∀ i j, i < r → j < c → ∀ w', Ext w w' → Meets Try.prog g (.int .i64 ((i : Nat) : Int) :: .int .i64 ((j : Nat) : Int) :: cap).toArray w' (RE w' N (M i j))) :
    Meets Try.prog 100 #[.int .i64 ((r : Nat) : Int), .int .i64 ((c : Nat) : Int), .func (.func g) #[] cap.toArray] w (RW w r c N M) := by
  refine fn_W (n := 43) Try.func100 rfl rfl (by kernel_rfl) (by simp) ?_
  refine gg ?_
  refine R1_make sl_sInt (.inl rfl) rfl rfl (Nat.le_refl _) (by omega) (by omega) ?_
  intro w1 hB hE hsz
  rw [arr_made, Nat.mul_one] at hB
  refine gg ?_
  refine W_seqM (fun f w' => ∃ gs, f 7 = .slice (some ⟨w.heap.size, 0, none⟩) r r ∧ Ext w w' ∧ (∀ i, i < r → w.heap.size < gs i) ∧ WMat w' w.heap.size gs r c false (fun _ _ => N) M) ?_ ?_
  · refine gg ?_
    refine W_loop (fun m f w' => ∃ i gs h, m = r - i ∧ i ≤ r ∧ f 1 = .int .i64 ((c : Nat) : Int) ∧ f 2 = .func (.func g) #[] cap.toArray ∧ f 7 = .slice (some ⟨w.heap.size, 0, none⟩) r r ∧ f 13 = .int .i64 ((r : Nat) : Int) ∧ f 14 = .int .i64 ((i : Nat) : Int) ∧
      Ext w w' ∧ Blk w' w.heap.size 30 (arr r h) ∧ (∀ k, k < r → ∃ A m c, h k = .slice A m c) ∧ (∀ k, k < i → h k = .slice (some ⟨gs k, 0, none⟩) c c ∧ RowB w' (gs k) c false (fun _ => N) (M k) ∧ w.heap.size < gs k) ∧ (∀ k k', k < i → k' < i → gs k = gs k' → k = k'))
      r ⟨0, fun _ => 0, _, rfl, Nat.zero_le _, rfl, rfl, rfl, rfl, rfl, hE, hB, fun k _ => ⟨none, 0, 0, by simp [Value.cells, Nat.mod_one]⟩, fun k hk => absurd hk (by omega), fun k k' hk => absurd hk (by omega)⟩ ?_
    clear hB hE hsz w1
    rintro m f w1 ⟨i, gs, h, rfl, hi, hf1, hf2, hf7, hf13, hf14, hE, hB, hsl, hrow, hinj⟩
    rw [ui hf1, ui hf2, ui hf7, ui hf13, ui hf14]
    clear hf1 hf2 hf7 hf13 hf14
    by_cases hlt : i < r
    · refine gg ?_
      refine R1_make sl_Int (.inl rfl) rfl rfl (Nat.le_refl _) (by omega) (by omega) ?_
      intro w2 hB2 hE2 hs2
      have hO := rowB_made false N hB2
      refine gg ?_
      refine R1_storeS (one_of rfl) (.inl rfl) rfl rfl (hB.ext hE2) (by rw [arr_size]; omega) ?_
      intro w3 hB3 hC3 hs3
      have hg : w.heap.size ≠ w1.heap.size := by have := hB.lt; omega
      have hO3 := hO.kp (kp_ch (hB.ext hE2) (noInt_rows hsl).noU hC3) hC3 hg.symm
      rw [arr_set, Nat.zero_add, Nat.mul_one] at hB3
      have hE3 : Ext w w3 := hC3.ext_of (hE.trans hE2) (fun b hb => by omega)
      have hlt3 : w1.heap.size < w3.heap.size := by omega
      have hx : w3.cell? ⟨w.heap.size, 0 + i * 1, none⟩ = some (.slice (some ⟨w1.heap.size, 0, none⟩) c c) := by
        rw [hB3.cell, arr_at (by omega), Nat.zero_add, Nat.mul_one, upd_self]
      have hrow3 : ∀ k, k < i → h k = .slice (some ⟨gs k, 0, none⟩) c c ∧ RowB w3 (gs k) c false (fun _ => N) (M k) ∧ w.heap.size < gs k ∧ gs k < w1.heap.size := fun k hk => by
        obtain ⟨e, ho, hl⟩ := hrow k hk
        refine ⟨e, (ho.ext hE2).kp (kp_ch (hB.ext hE2) (noInt_rows hsl).noU hC3) hC3 (by omega), hl, ?_⟩
        exact ho.lt
      clear hrow hC3 hO hB2 hB hE2
      refine gg ?_
      refine W_loop (fun m f w' => ∃ j Z, m = c - j ∧ j ≤ c ∧ f 1 = .int .i64 ((c : Nat) : Int) ∧ f 2 = .func (.func g) #[] cap.toArray ∧ f 7 = .slice (some ⟨w.heap.size, 0, none⟩) r r ∧ f 8 = .int .i64 ((i : Nat) : Int) ∧ f 13 = .int .i64 ((r : Nat) : Int) ∧ f 14 = .int .i64 ((i : Nat) : Int) ∧
        f 26 = .int .i64 ((c : Nat) : Int) ∧ f 27 = .int .i64 ((j : Nat) : Int) ∧ Ext w w' ∧ Blk w' w.heap.size 30 (arr r (upd h i (.slice (some ⟨w1.heap.size, 0, none⟩) c c))) ∧ (∀ k, k < i → RowB w' (gs k) c false (fun _ => N) (M k)) ∧ RowB w' w1.heap.size c false (fun _ => N) Z ∧ ∀ q, q < j → Z q = M i q)
        c ⟨0, fun _ => 0, rfl, Nat.zero_le _, rfl, rfl, rfl, rfl, rfl, rfl, rfl, rfl, hE3, hB3, fun k hk => (hrow3 k hk).2.1, hO3, fun q hq => absurd hq (by omega)⟩ ?_
      have hrow4 : ∀ k, k < i → h k = .slice (some ⟨gs k, 0, none⟩) c c ∧ w.heap.size < gs k ∧ gs k < w1.heap.size := fun k hk => ⟨(hrow3 k hk).1, (hrow3 k hk).2.2⟩
      have hw1 := hE.size
      have hsl2 : ∀ k, k < r → ∃ A m cc, upd h i (.slice (some ⟨w1.heap.size, 0, none⟩) c c) k = .slice A m cc := fun k hk => by
        by_cases hki : k = i
        · subst hki; exact ⟨_, _, _, upd_self _ _ _⟩
        · rw [upd_ne _ _ hki]; exact hsl k hk
      clear hrow3 hO3 hB3 hE3 hx hs3 hlt3 w3 hs2 w2 f
      rintro m f w3 ⟨j, Z, rfl, hj, hf1, hf2, hf7, hf8, hf13, hf14, hf26, hf27, hE3, hB3, hR3, hO3, hZ⟩
      rw [ui hf1, ui hf2, ui hf7, ui hf8, ui hf13, ui hf14, ui hf26, ui hf27]
      clear hf1 hf2 hf7 hf8 hf13 hf14 hf26 hf27
      by_cases hjc : j < c
      · refine gg ?_
        refine W_regD [(0, 3), (1, 3), (2, 3), (3, 0), (4, 3), (5, 3), (6, 3), (7, 3), (8, 1), (9, 3), (10, 2)] mixed (by kernel_rfl) (fun w4 hE4 _ => ?_)
        have hx : w4.cell? ⟨w.heap.size, 0 + i * 1, none⟩ = some (.slice (some ⟨w1.heap.size, 0, none⟩) c c) := by
          rw [(hB3.ext hE4).cell, arr_at (by omega), Nat.zero_add, Nat.mul_one, upd_self]
        refine gg ?_
        refine R1_callv2 (.inr rfl) rfl rfl rfl (hf i j hlt hjc w4 (hE3.trans hE4)) ?_
        rintro _ w5 ⟨hE5, x, y, rfl, hcv⟩
        refine ⟨fun _ => hE5, ?_⟩
        refine gg ?_
        refine R1_storeE (.inl rfl) rfl rfl (hO3.ext (hE4.trans hE5)) hjc (N := N) (z := M i j) ⟨hcv, fun e => by cases e⟩ ?_
        intro w6 hO6' hC6 hk6 hs6
        have hO6 : RowB w6 w1.heap.size c false (fun _ => N) (setZ Z j (M i j)) := hO6'.congr fun q _ => ⟨by simp only [setN]; split <;> exact Nat.le_refl _, rfl⟩
        have hE6 : Ext w w6 := hC6.ext_of ((hE3.trans hE4).trans hE5) (fun b hb => by omega)
        have hg : w.heap.size ≠ w1.heap.size := by have := hB3.lt; omega
        refine gg ?_
        refine ⟨_, ?_, j + 1, _, rfl, by omega, rfl, rfl, rfl, rfl, rfl, rfl, rfl, rfl, hE6, (hB3.ext (hE4.trans hE5)).ch hC6 hg, fun k hk => ((hR3 k hk).ext (hE4.trans hE5)).kp hk6 hC6 (by have := (hrow4 k hk).2.2; omega), hO6, fun q hq => ?_⟩
        · omega
        · unfold setZ
          split
          · rename_i e; rw [e]
          · exact hZ q (by omega)
      · refine gg ?_
        have : j = c := by omega
        subst this
        refine ⟨_, ?_, i + 1, fun k => if k = i then w1.heap.size else gs k, _, rfl, by omega, rfl, rfl, rfl, rfl, rfl, hE3, hB3, hsl2, fun k hk => ?_, fun k k' hk hk' e => ?_⟩
        · omega
        · by_cases hki : k = i
          · subst hki
            rw [upd_self]
            simp only [if_true]
            exact ⟨trivial, hO3.congr (fun q hq => ⟨Nat.le_refl _, hZ q hq⟩), by omega⟩
          · rw [upd_ne _ _ hki]
            simp only [if_neg hki]
            exact ⟨(hrow4 k (by omega)).1, hR3 k (by omega), (hrow4 k (by omega)).2.1⟩
        · simp only at e
          split at e <;> split at e
          · omega
          · have := (hrow4 k' (by omega)).2.2; omega
          · have := (hrow4 k (by omega)).2.2; omega
          · exact hinj k k' (by omega) (by omega) e
    · refine gg ?_
      have : i = r := by omega
      subst this
      refine ⟨gs, rfl, hE, fun k hk => (hrow k hk).2.2, ⟨?_, fun k hk => (hrow k hk).2.1, fun k hk => by have := (hrow k hk).2.2; omega, hinj⟩⟩
      rw [arr_congr (fun k hk => (hrow k hk).1)] at hB
      exact hB
  · rintro f w2 ⟨gs, hf7, hE2, hlt, hO⟩
    rw [ui hf7]
    refine gg ?_
    exact ret1 (v := .slice _ _ _) rfl rfl ⟨hE2, _, gs, rfl, Nat.le_refl _, fun i hi => Nat.le_of_lt (hlt i hi), hO⟩

/-- strictly ascending, from 0 to n - 1 -/
def asc (c : Nat) (g : Nat → Int) (n : Nat) : Prop := ∀ k, k < c → 0 ≤ g k ∧ g k < n ∧ (0 < k → g (k - 1) < g k)
theorem asc_ge {c n : Nat} {g : Nat → Int} (h : asc c g n) : ∀ k, k < c → (k : Int) ≤ g k := by
  intro k
  induction k with
  | zero => intro hk; have := (h 0 hk).1; omega
  | succ k ih => intro hk; have h1 := ih (by omega); have h2 := (h (k + 1) hk).2.2 (by omega); rw [Nat.add_sub_cancel] at h2; omega
theorem asc_le {c n : Nat} {g : Nat → Int} (h : asc c g n) : c ≤ n := by
  rcases Nat.eq_zero_or_pos c with rfl | hc
  · omega
  · have h1 := asc_ge h (c - 1) (by omega)
    have h2 := (h (c - 1) (by omega)).2.1
    omega
theorem asc_snoc {k n : Nat} {g : Nat → Int} (h : asc k g n) (h1 : 0 ≤ g k) (h2 : g k < n) (h3 : 0 < k → g (k - 1) < g k) : asc (k + 1) g n := fun q hq => by
  by_cases e : q = k
  · subst e; exact ⟨h1, h2, h3⟩
  · exact h q (by omega)

set_option maxHeartbeats 8000000 in
theorem selects_ok (v : Value) (c n : Nat) (g : Nat → Int) (w : World) (h : IntsE w v c g) :
    Meets Try.prog 98 #[v, .int .i64 ((n : Nat) : Int)] w fun u w' => w = w' ∧ ∃ b, u = .bool b ∧ (b = true ↔ asc c g n ∧ 0 < c) := by
  obtain ⟨A, cap, rfl, hc, hcap, hent⟩ := h
  refine fn_W (n := 38) Try.func98 rfl rfl (by kernel_rfl) (by simp) ?_
  have no : ¬ asc c g n → ∀ b, b = false → (b = true ↔ asc c g n ∧ 0 < c) := fun hn b hb => by subst hb; exact ⟨fun h => (by cases h), fun h => absurd h.1 hn⟩
  refine gg ?_
  refine W_seqM (fun f w' => w = w' ∧ f 0 = .slice A c cap ∧ asc c g n) ?_ ?_
  · refine gg ?_
    refine W_loop (fun m f w' => w = w' ∧ ∃ k, m = c - k ∧ k ≤ c ∧ f 0 = .slice A c cap ∧ f 1 = .int .i64 ((n : Nat) : Int) ∧ f 7 = .slice A c cap ∧ f 8 = .int .i64 ((c : Nat) : Int) ∧ f 9 = .int .i64 ((k : Nat) : Int) ∧ asc k g n) c ⟨rfl, 0, rfl, Nat.zero_le _, rfl, rfl, rfl, rfl, rfl, fun q hq => absurd hq (by omega)⟩ ?_
    rintro m f w' ⟨rfl, k, rfl, hk, hf0, hf1, hf7, hf8, hf9, hasc⟩
    rw [ui hf0, ui hf1, ui hf7, ui hf8, ui hf9]
    clear hf0 hf1 hf7 hf8 hf9
    by_cases hlt : k < c
    · obtain ⟨ad, rfl, hx⟩ := hent k hlt
      by_cases h1 : g k < 0
      · refine gg ?_
        iterate 7 refine Rl_noU rfl rfl rfl ?_
        refine gg ?_
        exact ret1 (v := .bool _) rfl rfl ⟨rfl, false, rfl, no (fun ha => by have := ha k hlt; omega) _ rfl⟩
      by_cases h2 : (n : Int) ≤ g k
      · refine gg ?_
        iterate 7 refine Rl_noU rfl rfl rfl ?_
        refine gg ?_
        exact ret1 (v := .bool _) rfl rfl ⟨rfl, false, rfl, no (fun ha => by have := ha k hlt; omega) _ rfl⟩
      by_cases h0 : 0 < k
      · obtain ⟨ad', e, hx'⟩ := hent (k - 1) (by omega)
        obtain rfl : ad = ad' := Option.some.inj e
        by_cases h3 : g k ≤ g (k - 1)
        · refine gg ?_
          exact ret1 (v := .bool _) rfl rfl ⟨rfl, false, rfl, no (fun ha => by have := (ha k hlt).2.2 h0; omega) _ rfl⟩
        · refine gg ?_
          refine ⟨_, ?_, rfl, k + 1, rfl, by omega, rfl, rfl, rfl, rfl, rfl, asc_snoc hasc (by omega) (by omega) (fun _ => by omega)⟩
          omega
      · refine gg ?_
        refine ⟨_, ?_, rfl, k + 1, rfl, by omega, rfl, rfl, rfl, rfl, rfl, asc_snoc hasc (by omega) (by omega) (fun h => absurd h h0)⟩
        omega
    · refine gg ?_
      obtain rfl : k = c := by omega
      exact ⟨rfl, rfl, hasc⟩
  rintro f w' ⟨rfl, hf0, hasc⟩
  rw [ui hf0]
  clear hf0
  refine gg ?_
  exact ret1 (v := .bool _) rfl rfl ⟨rfl, _, rfl, ⟨fun h => ⟨hasc, of_decide_eq_true h⟩, fun h => decide_eq_true h.2⟩⟩

/-- may the minor be taken? -/
def okMin (r : Nat) (len : Nat → Nat) (c1 c2 : Nat) (g1 g2 : Nat → Int) : Prop := okM r len = true ∧ c1 = c2 ∧ 0 < c1 ∧ asc c1 g1 r ∧ asc c2 g2 (len 0)
def minM (M : Nat → Nat → Int) (g1 g2 : Nat → Int) : Nat → Nat → Int := fun i j => M (g1 i).toNat (g2 j).toNat
/-- what Minor leaves -/
def RMin (w : World) (p : Prop) (z : Int) (v : Value) (w' : World) : Prop := Ext w w' ∧ ∃ b x y, v = .tuple #[.agg #[x, y], .bool b] ∧ (b = true ↔ p) ∧ CV w' x y (if b then z else 0)

set_option maxHeartbeats 8000000 in
theorem minor1_ok (i j gA gR gC r c c1 c2 N : Nat) (va vr vc : Value) (X : Nat → Nat → Int) (g1 g2 : Nat → Int) (w : World) (hA : Blk w gA 25 #[va]) (hR : Blk w gR 71 #[vr]) (hC : Blk w gC 71 #[vc])
    (ha : MatE (EI N) w va r (fun _ => c) X) (hr : IntsE w vr c1 g1) (hc : IntsE w vc c2 g2) (h1 : asc c1 g1 r) (h2 : asc c2 g2 c) (hi : i < c1) (hj : j < c2) :
    Meets Try.prog 101 #[.int .i64 ((i : Nat) : Int), .int .i64 ((j : Nat) : Int), .pointer (some ⟨gA, 0, none⟩), .pointer (some ⟨gR, 0, none⟩), .pointer (some ⟨gC, 0, none⟩)] w (RE w N (minM X g1 g2 i j)) := by
  refine fn_W (n := 21) Try.func101 rfl rfl (by kernel_rfl) (by simp) ?_
  refine gg ?_
  refine R1_alloc (.inl rfl) z_Int ?_
  intro w1 hB1 hE1 hs1
  have hR1 : Bx w1 w.heap.size 1 false 0 := Bx.zero false hB1
  refine gg ?_
  refine W_seqD [(0, 0), (1, 0), (2, 3), (3, 3), (4, 0), (5, 3), (6, 0), (7, 0), (8, 3), (9, 3), (10, 0), (11, 3), (12, 0), (13, 2)] mixed (by kernel_rfl) (fun w2 hE2 _ => ?_)
  have hE02 := hE1.trans hE2
  have f0 := blkS (hA.ext hE02)
  have f1 := blkS (hR.ext hE02)
  have f2 := blkS (hC.ext hE02)
  obtain ⟨n1, hn1⟩ : ∃ n : Nat, g1 i = ((n : Nat) : Int) := ⟨(g1 i).toNat, by have := (h1 i hi).1; omega⟩
  obtain ⟨n2, hn2⟩ : ∃ n : Nat, g2 j = ((n : Nat) : Int) := ⟨(g2 j).toNat, by have := (h2 j hj).1; omega⟩
  have hl1 : n1 < r := by have := (h1 i hi).2.1; omega
  have hl2 : n2 < c := by have := (h2 j hj).2.1; omega
  obtain ⟨Ar, cr, rfl, hr1, hr2, hr3⟩ := hr.ext hE02
  obtain ⟨ar, rfl, hxr⟩ := hr3 i hi
  obtain ⟨Ac, cc, rfl, hc1, hc2, hc3⟩ := hc.ext hE02
  obtain ⟨ac, rfl, hxc⟩ := hc3 j hj
  rw [hn1] at hxr
  rw [hn2] at hxc
  obtain ⟨ada, capa, ua, rfl, hua, hra⟩ := (ha.ext hE02).at hl1
  obtain ⟨ada', capa', xa, ya, rfl, hxa, hya, hva⟩ := hra.at hl2
  have hm : minM X g1 g2 i j = X n1 n2 := by unfold minM; rw [hn1, hn2, Int.toNat_natCast, Int.toNat_natCast]
  rw [hm]
  refine gg ?_
  refine R1_storeBx (.inl rfl) rfl rfl (hR1.ext hE2) (N' := N) (z' := X n1 n2) ⟨hva, fun e => by cases e⟩ ?_
  intro w6 hR6 hC6 hk6 hs6
  refine gg ?_
  obtain ⟨x, y, hB, hv⟩ := hR6
  exact retC rfl agg_Int rfl hB ⟨hC6.ext_of hE02 (fun b hb => by omega), x, y, rfl, hv.1⟩

theorem detB_congr' {n : Nat} {M M' : Nat → Nat → Int} (h : ∀ i j, i < n → j < n → M i j = M' i j) : detB n M = detB n M' := detB_congr h
set_option maxHeartbeats 16000000 in
theorem minor_ok (va vr vc : Value) (r N c1 c2 : Nat) (len : Nat → Nat) (X : Nat → Nat → Int) (g1 g2 : Nat → Int) (w : World) (ha : MatE (EI N) w va r len X) (hr : IntsE w vr c1 g1) (hc : IntsE w vc c2 g2) (hN1 : 1 ≤ N) (hN : N < 1048576) :
    Meets Try.prog 80 #[va, vr, vc] w (RMin w (okMin r len c1 c2 g1 g2) (detB c1 (minM X g1 g2))) := by
  obtain ⟨Aa, capa, hva, _⟩ := id ha
  obtain ⟨Ar, capr, hvr, _⟩ := id hr
  obtain ⟨Ac, capc, hvc, _⟩ := id hc
  refine fn_W (n := 46) Try.func80 rfl rfl (by kernel_rfl) (by simp) ?_
  refine gg ?_
  refine R1_box (v := va) (.inl rfl) rfl ?_
  intro w1 hB1 hE1 hs1
  have hA1 : Blk w1 w.heap.size 25 #[va] := by rw [hva] at hB1 ⊢; exact hB1
  refine gg ?_
  refine R1_box (v := vr) (.inl rfl) rfl ?_
  intro w2 hB2 hE2 hs2
  have hR2 : Blk w2 w1.heap.size 71 #[vr] := by rw [hvr] at hB2 ⊢; exact hB2
  refine gg ?_
  refine R1_box (v := vc) (.inl rfl) rfl ?_
  intro w3 hB3 hE3 hs3
  have hC3 : Blk w3 w2.heap.size 71 #[vc] := by rw [hvc] at hB3 ⊢; exact hB3
  refine gg ?_
  refine R1_alloc (.inl rfl) z_Int ?_
  intro w4 hB4 hE4 hs4
  have hO4 : Bx w4 w3.heap.size 1 true 0 := Bx.zero true hB4
  have hE04 := hE1.trans (hE2.trans (hE3.trans hE4))
  have hA4 := hA1.ext (hE2.trans (hE3.trans hE4))
  have hR4 := hR2.ext (hE3.trans hE4)
  have hC4 := hC3.ext hE4
  obtain ⟨gA, hgA⟩ : ∃ g, g = w.heap.size := ⟨_, rfl⟩
  obtain ⟨gR, hgR⟩ : ∃ g, g = w1.heap.size := ⟨_, rfl⟩
  obtain ⟨gC, hgC⟩ : ∃ g, g = w2.heap.size := ⟨_, rfl⟩
  obtain ⟨gO, hgO⟩ : ∃ g, g = w3.heap.size := ⟨_, rfl⟩
  rw [← hgA] at hA4 ⊢
  rw [← hgR] at hR4 ⊢
  rw [← hgC] at hC4 ⊢
  rw [← hgO] at hO4 ⊢
  have hgo : w.heap.size ≤ gO := by omega
  clear hB1 hB2 hB3 hB4 hA1 hR2 hC3 hE1 hE2 hE3 hE4 hs1 hs2 hs3 hs4 hgA hgR hgC hgO
  have f0 := blkS hA4
  have f1 := blkS hR4
  have f2 := blkS hC4
  refine gg ?_
  refine R1_call2 (shape_ok _ va r len X w4 (ha.ext hE04)) ?_
  rintro _ _ ⟨rfl, rfl⟩
  obtain ⟨s1, d1, ok1, e1, h1⟩ := shapeV_cases r len
  rw [e1]
  have bad : ¬ okMin r len c1 c2 g1 g2 → ∀ w5, Bx w5 gO 1 true 0 → Ext w w5 → ∃ x y, Blk w5 gO 35 #[x, y] ∧ RMin w (okMin r len c1 c2 g1 g2) (detB c1 (minM X g1 g2)) (.tuple #[.agg #[x, y], .bool false]) w5 := fun hn w5 hb hE => by
    obtain ⟨x, y, hB, hv⟩ := hb
    exact ⟨x, y, hB, hE, false, x, y, rfl, ⟨fun h => (by cases h), fun h => absurd h hn⟩, hv.2 rfl⟩
  rcases h1 with ⟨hok, rfl, rfl, rfl⟩ | ⟨hok, rfl, rfl, rfl⟩
  rotate_left
  · refine gg ?_
    refine W_seq ?_
    refine gg ?_
    refine R1_bld0 b0_Int ?_
    refine gg ?_
    refine R1_storeBx (N' := 1) (.inl rfl) rfl rfl hO4 ((CV.zero w4).ev true (Bd.zero 1)) ?_
    intro w5 hO5 hC5 hk5 hs5
    obtain ⟨x, y, hB, hp⟩ := bad (fun h => by have := h.1; rw [hok] at this; cases this) w5 hO5 (hC5.ext_of hE04 (fun b hb => by omega))
    refine gg ?_
    exact retCB rfl agg_Int rfl hB rfl hp
  subst hvr hvc
  by_cases hcc : c1 = c2
  rotate_left
  · refine gg ?_
    refine W_seq ?_
    refine gg ?_
    refine R1_bld0 b0_Int ?_
    refine gg ?_
    refine R1_storeBx (N' := 1) (.inl rfl) rfl rfl hO4 ((CV.zero w4).ev true (Bd.zero 1)) ?_
    intro w5 hO5 hC5 hk5 hs5
    obtain ⟨x, y, hB, hp⟩ := bad (fun h => hcc h.2.1) w5 hO5 (hC5.ext_of hE04 (fun b hb => by omega))
    refine gg ?_
    exact retCB rfl agg_Int rfl hB rfl hp
  refine gg ?_
  refine W_seq ?_
  refine gg ?_
  refine R1_call2 (selects_ok _ c1 s1 g1 w4 (hr.ext hE04)) ?_
  rintro _ _ ⟨rfl, b1, rfl, hb1⟩
  cases b1 with
  | false =>
    refine gg ?_
    refine R1_bld0 b0_Int ?_
    refine gg ?_
    refine R1_storeBx (N' := 1) (.inl rfl) rfl rfl hO4 ((CV.zero w4).ev true (Bd.zero 1)) ?_
    intro w5 hO5 hC5 hk5 hs5
    obtain ⟨x, y, hB, hp⟩ := bad (fun h => by have := hb1.2 ⟨h.2.2.2.1, h.2.2.1⟩; cases this) w5 hO5 (hC5.ext_of hE04 (fun b hb => by omega))
    refine gg ?_
    exact retCB rfl agg_Int rfl hB rfl hp
  | true =>
    refine gg ?_
    refine R1_call2 (selects_ok _ c2 (len 0) g2 w4 (hc.ext hE04)) ?_
    rintro _ _ ⟨rfl, b2, rfl, hb2⟩
    cases b2 with
    | false =>
      refine gg ?_
      refine R1_bld0 b0_Int ?_
      refine gg ?_
      refine R1_storeBx (N' := 1) (.inl rfl) rfl rfl hO4 ((CV.zero w4).ev true (Bd.zero 1)) ?_
      intro w5 hO5 hC5 hk5 hs5
      obtain ⟨x, y, hB, hp⟩ := bad (fun h => by have := hb2.2 ⟨h.2.2.2.2, by have := h.2.2.1; omega⟩; cases this) w5 hO5 (hC5.ext_of hE04 (fun b hb => by omega))
      refine gg ?_
      exact retCB rfl agg_Int rfl hB rfl hp
    | true =>
      obtain ⟨ha1, hpos⟩ := hb1.1 rfl
      obtain ⟨ha2, _⟩ := hb2.1 rfl
      obtain ⟨⟨hr1, hr2, hl1, hl2⟩, hlen⟩ := okM_iff.1 hok
      have hle1 := asc_le ha1
      have hM := ha.sq hlen
      have hokm : okMin s1 len c1 c2 g1 g2 := ⟨hok, hcc, hpos, ha1, ha2⟩
      subst hcc
      have hbM : ∀ i j, i < c1 → j < c1 → Bd N (minM X g1 g2 i j) := fun i j hi hj => by
        have q1 := ha1 i hi
        have q2 := ha2 j hj
        exact hM.bd (by omega) (by omega)
      have hbd := detB_bd hN1 hbM
      refine gg ?_
      refine R1_func0 ?_
      refine gg ?_
      refine R1_call2 (mbuildE_ok c1 c1 _ N _ (minM X g1 g2) w4 (by omega) (by omega) (fun i j hi hj w' hE' => minor1_ok i j gA gR gC s1 (len 0) c1 c1 N va _ _ X g1 g2 w' (hA4.ext hE') (hR4.ext hE') (hC4.ext hE') (hM.ext (hE04.trans hE')) (hr.ext (hE04.trans hE')) (hc.ext (hE04.trans hE')) ha1 ha2 hi hj)) ?_
      rintro _ w5 ⟨hE5, gQ, gsQ, rfl, _, _, hW⟩
      refine gg ?_
      refine R1_call2 (determinant_ok _ c1 N _ w5 (hW.read (by omega) (by omega)) (by omega) (by omega) hN1 hN) ?_
      rintro _ w6 ⟨hE6, dx, dy, rfl, hcd⟩
      refine gg ?_
      refine R1_storeBx (.inl rfl) rfl rfl (hO4.ext (hE5.trans hE6)) (hcd.ev true hbd) ?_
      intro w7 hO7 hC7 hk7 hs7
      obtain ⟨x, y, hB, hv⟩ := hO7
      refine gg ?_
      exact retCB rfl agg_Int rfl hB rfl ⟨hC7.ext_of (hE04.trans (hE5.trans hE6)) (fun b hb => by omega), true, x, y, rfl, ⟨fun _ => hokm, fun _ => rfl⟩, hv.2 rfl⟩
end Go.Proofs.Ytcjhcefnedonlaa
