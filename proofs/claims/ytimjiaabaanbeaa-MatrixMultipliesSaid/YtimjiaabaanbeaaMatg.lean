/- The reference's Identity, SameList, Same, FromInts, Of. -/
import Derived.Test.YtimjiaabaanbeaaMatf
namespace Go.Proofs.Ytimjiaabaanbeaa
open Go Go.Eng Go.Num Go.Proofs

set_option maxHeartbeats 8000000 in
theorem ridentity_ok (z : Int) (w : World) (h1 : -9223372036854775808 ≤ z) (h2 : z < 9223372036854775808) :
    Meets Try.prog 29 #[.int .i64 z] w (RMB w (idOk z) z.toNat z.toNat (scal 1)) := by
  refine fn_W (n := 29) Try.func29 rfl rfl (by kernel_rfl) (by simp) ?_
  refine gg ?_
  refine W_seq ?_
  by_cases hz : z < 1
  · refine gg ?_
    refine ret2 (v := .slice _ _ _) (v' := .bool _) rfl rfl rfl ?_
    unfold RMB idOk
    rw [if_neg (by simp; omega)]
    exact ⟨Ext.refl _, rfl⟩
  by_cases hz' : 16 < z
  · refine gg ?_
    refine ret2 (v := .slice _ _ _) (v' := .bool _) rfl rfl rfl ?_
    unfold RMB idOk
    rw [if_neg (by simp; omega)]
    exact ⟨Ext.refl _, rfl⟩
  obtain ⟨r, rfl⟩ : ∃ m : Nat, z = m := ⟨z.toNat, by omega⟩
  refine gg ?_
  refine R1_call2 (zero_ok r r w (by omega) (by omega)) ?_
  rintro _ w1 ⟨hE, gO, gs, rfl, hg, hgs, hO⟩
  refine gg ?_
  refine W_seq ?_
  refine gg ?_
  refine W_loop (fun m f w' => ∃ i, m = r - i ∧ i ≤ r ∧ f 4 = .slice (some ⟨gO, 0, none⟩) r r ∧ f 16 = .int .i64 ((r : Nat) : Int) ∧ f 17 = .int .i64 ((i : Nat) : Int) ∧
      Ext w w' ∧ WMat w' gO gs r r true (fun _ _ => 1) (fun a b => if a = b ∧ a < i then 1 else 0))
      r ⟨0, rfl, Nat.zero_le _, rfl, rfl, rfl, hE, (hO.wm true (N := 1) (fun _ _ _ _ => Bd.zero 1)).congr (fun i j _ _ => ⟨Nat.le_refl _, by simp⟩)⟩ ?_
  clear hO hE w1
  rintro m f w1 ⟨i, rfl, hi, hf4, hf16, hf17, hE, hW⟩
  rw [ui hf4, ui hf16, ui hf17]
  clear hf4 hf16 hf17
  by_cases hlt : i < r
  · refine gg ?_
    refine W_regD [(0, 3), (1, 3), (2, 3), (3, 0), (4, 3), (5, 1), (6, 3), (7, 2)] mixed (by kernel_rfl) (fun w2 hE2 _ => ?_)
    have hW2 := hW.ext hE2
    have hx := hW2.at hlt
    refine gg ?_
    refine R1_call1 (rsmall_ok 1 w2 (by omega) (by omega)) ?_
    rintro _ w3 ⟨hE3, x, y, rfl, hcv⟩
    refine ⟨hE3, ?_⟩
    refine gg ?_
    refine R1_storeE (.inl rfl) rfl rfl ((hW2.ext hE3).row i hlt) hlt (hcv.ev true (N := 1) (show (1 : Int).natAbs < B ^ 1 by decide)) ?_
    intro w4 hR4 hC4 hk4 hs4
    have hW4 := (hW2.ext hE3).put hlt hR4 hC4 hk4
    refine gg ?_
    have hgi := hgs i hlt
    refine ⟨_, ?_, i + 1, rfl, by omega, rfl, rfl, rfl, hC4.ext_of (hE.trans (hE2.trans hE3)) (fun b hb => by omega), hW4.congr (fun a b ha hb => ⟨?_, ?_⟩)⟩
    · omega
    · unfold set2; split <;> exact Nat.le_refl _
    · simp only [set2]
      by_cases e : a = i ∧ b = i
      · rw [if_pos e, if_pos (by omega)]
      · rw [if_neg e]
        by_cases e2 : a = b ∧ a < i
        · rw [if_pos e2, if_pos (by omega)]
        · rw [if_neg e2, if_neg (by omega)]
  · refine gg ?_
    have : i = r := by omega
    subst this
    refine ret2 (v := .slice _ _ _) (v' := .bool _) rfl rfl rfl ?_
    unfold RMB idOk
    rw [if_pos (by simp; omega)]
    refine ⟨_, rfl, hE, gO, gs, rfl, hg, hgs, (hW.congr (bn' := fun _ _ => 1) (M' := scal 1) (fun a b ha hb => ⟨Nat.le_refl _, ?_⟩)).o⟩
    unfold scal
    by_cases e : a = b
    · rw [if_pos ⟨e, ha⟩, if_pos e]
    · rw [if_neg (fun h => e h.1), if_neg e]

def sameL (c1 c2 : Nat) (g1 g2 : Nat → Int) : Prop := c1 = c2 ∧ ∀ j, j < c1 → g1 j = g2 j

set_option maxHeartbeats 8000000 in
theorem rsameList_ok (v1 v2 : Value) (c1 c2 N : Nat) (g1 g2 : Nat → Int) (w : World) (h1 : RowE (EC N) w v1 c1 g1) (h2 : RowE (EC N) w v2 c2 g2) (hN : N < 1099511627776) :
    Meets Try.prog 47 #[v1, v2] w fun v w' => Ext w w' ∧ ∃ b, v = .bool b ∧ (b = true ↔ sameL c1 c2 g1 g2) := by
  obtain ⟨A1, p1, rfl, hp1, hq1, hr1⟩ := h1
  obtain ⟨A2, p2, rfl, hp2, hq2, hr2⟩ := h2
  refine fn_W (n := 27) Try.func47 rfl rfl (by kernel_rfl) (by simp) ?_
  refine gg ?_
  refine W_seq ?_
  by_cases hc : ¬ c1 = c2
  · refine gg ?_
    exact ret1 (v := .bool _) rfl rfl ⟨Ext.refl _, _, rfl, by simp [sameL, hc]⟩
  have hc := Classical.not_not.1 hc
  subst hc
  refine gg ?_
  refine W_seq ?_
  refine gg ?_
  refine W_loop (fun m f w' => ∃ i, m = c1 - i ∧ i ≤ c1 ∧ f 0 = .slice A1 c1 p1 ∧ f 1 = .slice A2 c1 p2 ∧ f 12 = .int .i64 ((c1 : Nat) : Int) ∧ f 13 = .int .i64 ((i : Nat) : Int) ∧ Ext w w' ∧ ∀ j, j < i → g1 j = g2 j)
    c1 ⟨0, rfl, Nat.zero_le _, rfl, rfl, rfl, rfl, Ext.refl _, fun j hj => absurd hj (by omega)⟩ ?_
  rintro m f w1 ⟨i, rfl, hi, hf0, hf1, hf12, hf13, hE, hk⟩
  rw [ui hf0, ui hf1, ui hf12, ui hf13]
  clear hf0 hf1 hf12 hf13
  by_cases hlt : i < c1
  · obtain ⟨ad1, x1, y1, e1, hx1, hy1, hv1⟩ := hr1 i hlt
    obtain ⟨ad2, x2, y2, e2, hx2, hy2, hv2⟩ := hr2 i hlt
    subst e1 e2
    refine gg ?_
    refine W_seqD [(0, 3), (1, 3), (2, 3), (3, 0), (4, 3), (5, 3), (6, 3), (7, 0), (8, 1), (9, 3)] mixed (by kernel_rfl) (fun w2 hE2 _ => ?_)
    have hE' := hE.trans hE2
    have a1 := cell_ext hE' hx1
    have a2 := cell_ext hE' hy1
    have a3 := cell_ext hE' hx2
    have a4 := cell_ext hE' hy2
    refine gg ?_
    refine R1_call1 (rsame_ok _ _ _ _ _ _ N N w2 (hv1.1.ext hE') (hv2.1.ext hE') hN hN hv1.2 hv2.2) ?_
    rintro _ w3 ⟨hE3, rfl⟩
    refine ⟨hE3, ?_⟩
    by_cases hs : g1 i = g2 i
    · have e0 : decide (g1 i = g2 i) = true := decide_eq_true hs
      rw [e0]
      refine gg ?_
      refine ⟨_, ?_, i + 1, rfl, by omega, rfl, rfl, rfl, rfl, hE'.trans hE3, fun j hj => ?_⟩
      · omega
      · by_cases e : j = i
        · rw [e]; exact hs
        · exact hk j (by omega)
    · have e0 : decide (g1 i = g2 i) = false := decide_eq_false hs
      rw [e0]
      refine gg ?_
      exact ret1 (v := .bool _) rfl rfl ⟨hE'.trans hE3, _, rfl, by simp only [Bool.false_eq_true, false_iff]; exact fun h => hs (h.2 i hlt)⟩
  · refine gg ?_
    exact ret1 (v := .bool _) rfl rfl ⟨hE, _, rfl, by simp only [true_iff]; exact ⟨rfl, fun j hj => hk j (by omega)⟩⟩

def sameM (r1 r2 : Nat) (len1 len2 : Nat → Nat) (M1 M2 : Nat → Nat → Int) : Prop := r1 = r2 ∧ ∀ i, i < r1 → sameL (len1 i) (len2 i) (M1 i) (M2 i)

set_option maxHeartbeats 8000000 in
theorem rsameM_ok (v1 v2 : Value) (r1 r2 N : Nat) (len1 len2 : Nat → Nat) (M1 M2 : Nat → Nat → Int) (w : World) (h1 : MatE (EC N) w v1 r1 len1 M1) (h2 : MatE (EC N) w v2 r2 len2 M2) (hN : N < 1099511627776) :
    Meets Try.prog 20 #[v1, v2] w fun v w' => Ext w w' ∧ ∃ b, v = .bool b ∧ (b = true ↔ sameM r1 r2 len1 len2 M1 M2) := by
  obtain ⟨A1, p1, rfl, hp1, hq1, hr1⟩ := h1
  obtain ⟨A2, p2, rfl, hp2, hq2, hr2⟩ := h2
  refine fn_W (n := 27) Try.func20 rfl rfl (by kernel_rfl) (by simp) ?_
  refine gg ?_
  refine W_seq ?_
  by_cases hc : ¬ r1 = r2
  · refine gg ?_
    exact ret1 (v := .bool _) rfl rfl ⟨Ext.refl _, _, rfl, by simp [sameM, hc]⟩
  have hc := Classical.not_not.1 hc
  subst hc
  refine gg ?_
  refine W_seq ?_
  refine gg ?_
  refine W_loop (fun m f w' => ∃ i, m = r1 - i ∧ i ≤ r1 ∧ f 0 = .slice A1 r1 p1 ∧ f 1 = .slice A2 r1 p2 ∧ f 12 = .int .i64 ((r1 : Nat) : Int) ∧ f 13 = .int .i64 ((i : Nat) : Int) ∧ Ext w w' ∧ ∀ j, j < i → sameL (len1 j) (len2 j) (M1 j) (M2 j))
    r1 ⟨0, rfl, Nat.zero_le _, rfl, rfl, rfl, rfl, Ext.refl _, fun j hj => absurd hj (by omega)⟩ ?_
  rintro m f w1 ⟨i, rfl, hi, hf0, hf1, hf12, hf13, hE, hk⟩
  rw [ui hf0, ui hf1, ui hf12, ui hf13]
  clear hf0 hf1 hf12 hf13
  by_cases hlt : i < r1
  · obtain ⟨ad1, u1, e1, hx1, hv1⟩ := hr1 i hlt
    obtain ⟨ad2, u2, e2, hx2, hv2⟩ := hr2 i hlt
    subst e1 e2
    refine gg ?_
    refine W_seqD [(0, 3), (1, 3), (2, 3), (3, 0), (4, 3), (5, 3), (6, 3), (7, 0), (8, 1), (9, 3)] mixed (by kernel_rfl) (fun w2 hE2 _ => ?_)
    have hE' := hE.trans hE2
    have a1 := cell_ext hE' hx1
    have a3 := cell_ext hE' hx2
    refine gg ?_
    refine R1_call1 (rsameList_ok _ _ _ _ N _ _ w2 (hv1.extC hE') (hv2.extC hE') hN) ?_
    rintro _ w3 ⟨hE3, b, rfl, hb⟩
    refine ⟨hE3, ?_⟩
    cases b
    · refine gg ?_
      exact ret1 (v := .bool _) rfl rfl ⟨hE'.trans hE3, _, rfl, by simp only [Bool.false_eq_true, false_iff] at hb ⊢; exact fun h => hb (h.2 i hlt)⟩
    · refine gg ?_
      refine ⟨_, ?_, i + 1, rfl, by omega, rfl, rfl, rfl, rfl, hE'.trans hE3, fun j hj => ?_⟩
      · omega
      · by_cases e : j = i
        · rw [e]; exact hb.1 rfl
        · exact hk j (by omega)
  · refine gg ?_
    exact ret1 (v := .bool _) rfl rfl ⟨hE, _, rfl, by simp only [true_iff]; exact ⟨rfl, fun j hj => hk j (by omega)⟩⟩

/-- rows of int64, read -/
def RowZ (w : World) (v : Value) (c : Nat) (g : Nat → Int) : Prop :=
  ∃ A cap, v = .slice A c cap ∧ c ≤ cap ∧ cap < 9223372036854775808 ∧ ∀ j, j < c → ∃ ad, A = some ad ∧ w.cell? (ad.add (j * 1)) = some (.int .i64 (g j)) ∧ -9223372036854775808 ≤ g j ∧ g j < 9223372036854775808
def MatZ (w : World) (v : Value) (r : Nat) (len : Nat → Nat) (M : Nat → Nat → Int) : Prop :=
  ∃ A cap, v = .slice A r cap ∧ r ≤ cap ∧ cap < 9223372036854775808 ∧ ∀ i, i < r → ∃ ad u, A = some ad ∧ w.cell? (ad.add (i * 1)) = some u ∧ RowZ w u (len i) (M i)
theorem RowZ.ext {w w' : World} {c : Nat} {v : Value} {g : Nat → Int} (h : RowZ w v c g) (hE : Ext w w') : RowZ w' v c g := by
  obtain ⟨A, cap, rfl, h1, h2, h3⟩ := h
  refine ⟨A, cap, rfl, h1, h2, fun j hj => ?_⟩
  obtain ⟨ad, e, hx, hi⟩ := h3 j hj
  exact ⟨ad, e, cell_ext hE hx, hi⟩
theorem MatZ.ext {w w' : World} {r : Nat} {len : Nat → Nat} {v : Value} {M : Nat → Nat → Int} (h : MatZ w v r len M) (hE : Ext w w') : MatZ w' v r len M := by
  obtain ⟨A, cap, rfl, h1, h2, h3⟩ := h
  refine ⟨A, cap, rfl, h1, h2, fun j hj => ?_⟩
  obtain ⟨ad, u, e, hu, hr⟩ := h3 j hj
  exact ⟨ad, u, e, cell_ext hE hu, hr.ext hE⟩

theorem bd_i64 {z : Int} (h1 : -9223372036854775808 ≤ z) (h2 : z < 9223372036854775808) : Bd 2 z := by
  unfold Bd
  have : B ^ 2 = 18446744073709551616 := by decide
  omega

set_option maxHeartbeats 8000000 in
theorem rfromInts_ok (v : Value) (r : Nat) (len : Nat → Nat) (M : Nat → Nat → Int) (w : World) (h : MatZ w v r len M) :
    Meets Try.prog 64 #[v] w (RMB w (okM r len) r (len 0) M) := by
  obtain ⟨A, cap, rfl, hrc, hcap, hrow⟩ := h
  refine fn_W (n := 78) Try.func64 rfl rfl (by kernel_rfl) (by simp) ?_
  refine gg ?_
  refine W_seq ?_
  have bad : ∀ w', ¬ okM r len = true → Ext w w' → RMB w (okM r len) r (len 0) M (.tuple #[.slice none 0 0, .bool false]) w' := fun w' hb hE => by unfold RMB; rw [if_neg hb]; exact ⟨hE, rfl⟩
  by_cases h1 : r < 1
  · refine gg ?_
    exact ret2 (v := .slice _ _ _) (v' := .bool _) rfl rfl rfl (bad _ (fun e => by have := okM_iff.1 e; omega) (Ext.refl _))
  by_cases h2 : 16 < r
  · refine gg ?_
    exact ret2 (v := .slice _ _ _) (v' := .bool _) rfl rfl rfl (bad _ (fun e => by have := okM_iff.1 e; omega) (Ext.refl _))
  obtain ⟨ad, u, rfl, hu, hR0⟩ := hrow 0 (by omega)
  obtain ⟨A0, cap0, rfl, hr0⟩ := id hR0
  have hx0 : w.cell? (ad.add (((0 : Nat) : Nat) * 1)) = some (.slice A0 (len 0) cap0) := hu
  refine gg ?_
  refine W_seqM (fun f w' => w = w' ∧ f 0 = .slice (some ad) r cap ∧ okM r len = true) ?_ ?_
  · refine gg ?_
    refine W_loop (fun m f w' => w = w' ∧ ∃ i, m = r - i ∧ i ≤ r ∧ f 0 = .slice (some ad) r cap ∧ f 17 = .slice (some ad) r cap ∧ f 18 = .int .i64 ((r : Nat) : Int) ∧ f 19 = .int .i64 ((i : Nat) : Int) ∧ ∀ k, k < i → len k = len 0 ∧ 1 ≤ len 0 ∧ len 0 ≤ 16)
      r ⟨rfl, 0, rfl, Nat.zero_le _, rfl, rfl, rfl, rfl, fun k hk => absurd hk (by omega)⟩ ?_
    rintro m f w' ⟨rfl, i, rfl, hi, hf0, hf15, hf16, hf17, hk⟩
    rw [ui hf0, ui hf15, ui hf16, ui hf17]
    clear hf0 hf15 hf16 hf17
    by_cases hlt : i < r
    · obtain ⟨ad', u, e, hx, Ai, capi, rfl, hri⟩ := hrow i hlt
      obtain rfl : ad = ad' := Option.some.inj e
      by_cases ha : len i < 1
      · refine gg ?_
        exact ret2 (v := .slice _ _ _) (v' := .bool _) rfl rfl rfl (bad _ (fun e => by have a := okM_iff.1 e; have b := a.2 i hlt; omega) (Ext.refl _))
      by_cases hb : 16 < len i
      · refine gg ?_
        exact ret2 (v := .slice _ _ _) (v' := .bool _) rfl rfl rfl (bad _ (fun e => by have a := okM_iff.1 e; have b := a.2 i hlt; omega) (Ext.refl _))
      by_cases hne : len i = len 0
      · refine gg ?_
        refine ⟨_, ?_, rfl, i + 1, rfl, by omega, rfl, rfl, rfl, rfl, fun k hk' => ?_⟩
        · omega
        · rcases Nat.lt_succ_iff_lt_or_eq.1 hk' with h | h
          · exact hk k h
          · rw [h]; omega
      · refine gg ?_
        exact ret2 (v := .slice _ _ _) (v' := .bool _) rfl rfl rfl (bad _ (fun e => hne ((okM_iff.1 e).2 i hlt)) (Ext.refl _))
    · refine gg ?_
      have := hk 0 (by omega)
      exact ⟨rfl, rfl, okM_iff.2 ⟨⟨by omega, by omega, by omega, by omega⟩, fun k hk' => (hk k (by omega)).1⟩⟩
  · rintro f w' ⟨rfl, hf0, hok⟩
    rw [ui hf0]
    clear hf0
    obtain ⟨⟨_, _, hl0, hl1⟩, hlen⟩ := okM_iff.1 hok
    refine gg ?_
    refine R1_call2 (zero_ok r (len 0) w (by omega) (by omega)) ?_
    rintro _ w1 ⟨hE, gO, gs, rfl, hg, hgs, hO⟩
    refine gg ?_
    refine W_seq ?_
    refine gg ?_
    refine W_loop (fun m f w' => ∃ i, m = r - i ∧ i ≤ r ∧ f 0 = .slice (some ad) r cap ∧ f 6 = .slice (some ⟨gO, 0, none⟩) r r ∧ f 49 = .int .i64 ((r : Nat) : Int) ∧ f 50 = .int .i64 ((i : Nat) : Int) ∧
      Ext w w' ∧ WMat w' gO gs r (len 0) true (fun _ _ => 2) (fun a b => if a < i then M a b else 0))
      r ⟨0, rfl, Nat.zero_le _, rfl, rfl, rfl, rfl, hE, (hO.wm true (N := 2) (fun _ _ _ _ => Bd.zero 2)).congr (fun i j _ _ => ⟨Nat.le_refl _, by simp⟩)⟩ ?_
    clear hO hE w1
    rintro m f w1 ⟨i, rfl, hi, hf0, hf6, hf49, hf50, hE, hW⟩
    rw [ui hf0, ui hf6, ui hf49, ui hf50]
    clear hf0 hf6 hf49 hf50
    by_cases hlt : i < r
    · obtain ⟨ad', u, e, hx, Ai, capi, rfl, hci, hdi, hri⟩ := hrow i hlt
      obtain rfl : ad = ad' := Option.some.inj e
      rw [hlen i hlt] at hx hci hri
      have hx1 := cell_ext hE hx
      refine gg ?_
      refine W_loop (fun m f w' => ∃ j, m = len 0 - j ∧ j ≤ len 0 ∧ f 0 = .slice (some ad) r cap ∧ f 6 = .slice (some ⟨gO, 0, none⟩) r r ∧ f 7 = .int .i64 ((i : Nat) : Int) ∧ f 49 = .int .i64 ((r : Nat) : Int) ∧ f 50 = .int .i64 ((i : Nat) : Int) ∧
        f 57 = .int .i64 ((len 0 : Nat) : Int) ∧ f 58 = .int .i64 ((j : Nat) : Int) ∧ Ext w w' ∧ WMat w' gO gs r (len 0) true (fun _ _ => 2) (fun a b => if a < i ∨ a = i ∧ b < j then M a b else 0))
        (len 0) ⟨0, rfl, Nat.zero_le _, rfl, rfl, rfl, rfl, rfl, rfl, rfl, hE, hW.congr (fun a b _ _ => ⟨Nat.le_refl _, by by_cases e : a < i <;> simp [e]⟩)⟩ ?_
      clear hW hE hx1 w1
      rintro m f w1 ⟨j, rfl, hj, hf0, hf6, hf7, hf49, hf50, hf57, hf58, hE, hW⟩
      rw [ui hf0, ui hf6, ui hf7, ui hf49, ui hf50, ui hf57, ui hf58]
      clear hf0 hf6 hf7 hf49 hf50 hf57 hf58
      by_cases hjc : j < len 0
      · obtain ⟨ad2, rfl, hz, hz1, hz2⟩ := hri j hjc
        refine gg ?_
        refine W_regD [(0, 3), (1, 3), (2, 3), (3, 0), (4, 3), (5, 3), (6, 3), (7, 3), (8, 0), (9, 3), (10, 3), (11, 0), (12, 1), (13, 3), (14, 2)] mixed (by kernel_rfl) (fun w2 hE2 _ => ?_)
        have hW2 := hW.ext hE2
        have hx2 := hW2.at hlt
        have hx3 := cell_ext (hE.trans hE2) hx
        have hx4 := cell_ext (hE.trans hE2) hz
        refine gg ?_
        refine R1_call1 (rsmall_ok (M i j) w2 hz1 hz2) ?_
        rintro _ w3 ⟨hE3, x, y, rfl, hcv⟩
        refine ⟨hE3, ?_⟩
        refine gg ?_
        refine R1_storeE (.inl rfl) rfl rfl ((hW2.ext hE3).row i hlt) hjc (hcv.ev true (N := 2) (bd_i64 hz1 hz2)) ?_
        intro w4 hR4 hC4 hk4 hs4
        have hW4 := (hW2.ext hE3).put hlt hR4 hC4 hk4
        refine gg ?_
        have hgi := hgs i hlt
        refine ⟨_, ?_, j + 1, rfl, by omega, rfl, rfl, rfl, rfl, rfl, rfl, rfl, hC4.ext_of (hE.trans (hE2.trans hE3)) (fun b hb => by omega), hW4.congr (fun a b ha hb => ⟨?_, ?_⟩)⟩
        · omega
        · unfold set2; split <;> exact Nat.le_refl _
        · simp only [set2]
          by_cases e : a = i ∧ b = j
          · obtain ⟨rfl, rfl⟩ := e
            rw [if_pos ⟨rfl, rfl⟩, if_pos (by omega)]
          · rw [if_neg e]
            by_cases e2 : a < i ∨ a = i ∧ b < j
            · rw [if_pos e2, if_pos (by omega)]
            · rw [if_neg e2, if_neg (by omega)]
      · refine gg ?_
        refine ⟨_, ?_, i + 1, rfl, by omega, rfl, rfl, rfl, rfl, hE, hW.congr (fun a b ha hb => ⟨Nat.le_refl _, ?_⟩)⟩
        · omega
        · by_cases e2 : a < i + 1
          · rw [if_pos e2, if_pos (by omega)]
          · rw [if_neg e2, if_neg (by omega)]
    · refine gg ?_
      have : i = r := by omega
      subst this
      refine ret2 (v := .slice _ _ _) (v' := .bool _) rfl rfl rfl ?_
      unfold RMB
      rw [if_pos hok]
      exact ⟨_, rfl, hE, gO, gs, rfl, hg, hgs, (hW.congr (bn' := fun _ _ => 2) (M' := M) (fun a b ha hb => ⟨Nat.le_refl _, by rw [if_pos ha]⟩)).o⟩

/-- what a function that returns a matrix, or nil, leaves -/
def RMN (w : World) (ok : Bool) (r c : Nat) (M : Nat → Nat → Int) (v : Value) (w' : World) : Prop :=
  if ok then RM w r c M v w' else Ext w w' ∧ v = .slice none 0 0

theorem RMN.get {w : World} {ok : Bool} {r c : Nat} {M : Nat → Nat → Int} {v : Value} {w' : World} (h : RMN w ok r c M v w') (hok : ok = true) : RM w r c M v w' := by unfold RMN at h; rwa [if_pos hok] at h
theorem RMB.get {w : World} {ok : Bool} {r c : Nat} {M : Nat → Nat → Int} {v : Value} {w' : World} (h : RMB w ok r c M v w') (hok : ok = true) : ∃ u, v = .tuple #[u, .bool true] ∧ RM w r c M u w' := by unfold RMB at h; rwa [if_pos hok] at h
theorem RMB.no {w : World} {ok : Bool} {r c : Nat} {M : Nat → Nat → Int} {v : Value} {w' : World} (h : RMB w ok r c M v w') (hok : ok = false) : Ext w w' ∧ v = .tuple #[.slice none 0 0, .bool false] := by unfold RMB at h; rwa [if_neg (by rw [hok]; decide)] at h

set_option maxHeartbeats 8000000 in
theorem rof_ok (v : Value) (r : Nat) (len : Nat → Nat) (M : Nat → Nat → Int) (w : World) (h : MatZ w v r len M) :
    Meets Try.prog 26 #[v] w (RMN w (okM r len) r (len 0) M) := by
  refine fn_W (n := 11) Try.func26 rfl rfl (by kernel_rfl) (by simp) ?_
  refine gg ?_
  refine R1_call2 (rfromInts_ok v r len M w h) ?_
  intro v' w' hv
  unfold RMB at hv
  by_cases hok : okM r len = true
  · rw [if_pos hok] at hv
    obtain ⟨u, rfl, hE, gO, gs, rfl, hrest⟩ := hv
    refine gg ?_
    refine ret1 (v := .slice _ _ _) rfl rfl ?_
    unfold RMN
    rw [if_pos hok]
    exact ⟨hE, gO, gs, rfl, hrest⟩
  · rw [if_neg hok] at hv
    obtain ⟨hE, rfl⟩ := hv
    refine gg ?_
    refine ret1 (v := .slice _ _ _) rfl rfl ?_
    unfold RMN
    rw [if_neg hok]
    exact ⟨hE, rfl⟩
end Go.Proofs.Ytimjiaabaanbeaa
