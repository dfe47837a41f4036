/- Joined: Rfc, Rfd. -/
import Derived.Test.YtpldkdjflkckpaaQz
/- quadformref04: Stage. -/
namespace Go.Proofs.Ytpldkdjflkckpaa
open Go Go.Eng Go.Num Go.Proofs

/-- stage k -/
def stR (M : Nat → Nat → Int) (k : Nat) : Nat → Nat → Int := fun i j => Go.Det.bm k M (k + i) (k + j)
theorem first_bm (k i j : Nat) (M : Nat → Nat → Int) : detB (k + 1) (fun r c => M (firstF k (k + i) r) (firstF k (k + j) c)) = stR M k i j := by
  rw [detB_det]; rfl
theorem stR_bd {n N k i j : Nat} {M : Nat → Nat → Int} (hN : 1 ≤ N) (hk : k < n) (hn : n ≤ 16) (hi : i < n - k) (hj : j < n - k) (h : ∀ i j, i < n → j < n → Bd N (M i j)) : Bd (Nb N 16) (stR M k i j) := by
  rw [← first_bm]
  refine (detB_bd hN fun r c hr hc => ?_).mono (Nb_le16 N _ (by omega))
  refine h _ _ ?_ ?_
  · unfold firstF; split <;> omega
  · unfold firstF; split <;> omega
/-- what Stage leaves -/
def RStg (w : World) (m N : Nat) (X : Nat → Nat → Int) (v : Value) (w' : World) : Prop :=
  Ext w w' ∧ ∃ gO gs, v = .slice (some ⟨gO, 0, none⟩) m m ∧ w.heap.size ≤ gO ∧ (∀ i, i < m → w.heap.size ≤ gs i) ∧ WMat w' gO gs m m true (fun _ _ => N) X

set_option maxHeartbeats 16000000 in
theorem rstage_ok (va : Value) (n N k : Nat) (M : Nat → Nat → Int) (w : World) (hM : MatE (EI N) w va n (fun _ => n) M) (hk : k < n) (hn : n ≤ 16) (hN1 : 1 ≤ N) (hN : N < 1048576) :
    Meets Try.prog 96 #[va, .int .i64 ((k : Nat) : Int)] w (RStg w (n - k) (Nb N 16) (stR M k)) := by
  have hbM : ∀ i j, i < n → j < n → Bd N (M i j) := fun i j hi hj => hM.bd hi hj
  obtain ⟨Aa, capa, hva, _⟩ := id hM
  subst hva
  refine fn_W (n := 51) Try.func96 rfl rfl (by kernel_rfl) (by simp) ?_
  obtain ⟨m, hm⟩ : ∃ m, m = n - k := ⟨_, rfl⟩
  refine gg ?_
  refine R1_call2 (zero_ok (n - k) (n - k) w (by omega) (by omega)) ?_
  rintro _ w1 ⟨hE1, gO, gs, rfl, hgO, hgs, hO⟩
  have hW := hO.wm true (N := Nb N 16) (fun i j _ _ => Bd.zero _)
  rw [← hm] at hW hgs ⊢
  clear hO
  refine gg ?_
  refine W_seqM (fun f w' => f 6 = .slice (some ⟨gO, 0, none⟩) m m ∧ Ext w w' ∧ WMat w' gO gs m m true (fun _ _ => Nb N 16) (stR M k)) ?_ ?_
  · refine gg ?_
    refine W_loop (fun q f w' => ∃ i X, q = m - i ∧ i ≤ m ∧ f 0 = .slice Aa n capa ∧ f 1 = .int .i64 ((k : Nat) : Int) ∧ f 6 = .slice (some ⟨gO, 0, none⟩) m m ∧ f 17 = .int .i64 ((m : Nat) : Int) ∧ f 18 = .int .i64 ((i : Nat) : Int) ∧ Ext w w' ∧ WMat w' gO gs m m true (fun _ _ => Nb N 16) X ∧ ∀ a b, a < i → b < m → X a b = stR M k a b)
      m ⟨0, _, rfl, Nat.zero_le _, rfl, rfl, rfl, rfl, rfl, hE1, hW, fun a b ha => absurd ha (by omega)⟩ ?_
    clear hE1 hW
    rintro q f w2 ⟨i, X, rfl, hi, hf0, hf1, hf6, hf17, hf18, hE, hW, hX⟩
    rw [ui hf0, ui hf1, ui hf6, ui hf17, ui hf18]
    clear hf0 hf1 hf6 hf17 hf18
    by_cases hlt : i < m
    rotate_left
    · refine gg ?_
      exact ⟨rfl, hE, hW.congr fun a b ha hb => ⟨Nat.le_refl _, hX a b (by omega) hb⟩⟩
    have k1 := hW.at hlt
    refine gg ?_
    clear k1
    refine W_loop (fun q f w' => ∃ j X, q = m - j ∧ j ≤ m ∧ f 0 = .slice Aa n capa ∧ f 1 = .int .i64 ((k : Nat) : Int) ∧ f 6 = .slice (some ⟨gO, 0, none⟩) m m ∧ f 17 = .int .i64 ((m : Nat) : Int) ∧ f 18 = .int .i64 ((i : Nat) : Int) ∧ f 7 = .int .i64 ((i : Nat) : Int) ∧ f 25 = .int .i64 ((m : Nat) : Int) ∧ f 26 = .int .i64 ((j : Nat) : Int) ∧ Ext w w' ∧ WMat w' gO gs m m true (fun _ _ => Nb N 16) X ∧ ∀ a b, a < i ∨ a = i ∧ b < j → b < m → X a b = stR M k a b)
      m ⟨0, X, rfl, Nat.zero_le _, rfl, rfl, rfl, rfl, rfl, rfl, rfl, rfl, hE, hW, fun a b hab hb => hX a b (by omega) hb⟩ ?_
    clear hE hW hX
    rintro q f w3 ⟨j, X, rfl, hj, hf0, hf1, hf6, hf17, hf18, hf7, hf25, hf26, hE, hW, hX⟩
    rw [ui hf0, ui hf1, ui hf6, ui hf17, ui hf18, ui hf7, ui hf25, ui hf26]
    clear hf0 hf1 hf6 hf17 hf18 hf7 hf25 hf26
    by_cases hjl : j < m
    rotate_left
    · refine gg ?_
      refine ⟨_, ?_, i + 1, X, rfl, by omega, rfl, rfl, rfl, rfl, rfl, hE, hW, fun a b ha hb => hX a b (by omega) hb⟩
      omega
    refine gg ?_
    refine W_regD [(0, 3), (1, 3), (2, 3), (3, 0), (4, 3), (5, 3), (6, 3), (7, 3), (8, 3), (9, 3), (11, 3), (12, 3), (13, 3), (14, 3), (10, 1), (15, 1), (16, 1), (17, 1), (18, 3), (19, 2)] mixed (by kernel_rfl) (fun w4 hE4 _ => ?_)
    have hW4 := hW.ext hE4
    have k1 := hW4.at hlt
    have hE04 := hE.trans hE4
    refine gg ?_
    refine R1_call1 (first_ok k (k + i) w4 (by omega) (by omega)) ?_
    rintro v1 w5 ⟨hE5, hv1⟩
    refine ⟨hE5, ?_⟩
    refine gg ?_
    refine R1_call1 (first_ok k (k + j) w5 (by omega) (by omega)) ?_
    rintro v2 w6 ⟨hE6, hv2⟩
    refine ⟨hE6, ?_⟩
    have hf : ∀ t s, t < m → s < k + 1 → firstF k (k + t) s < n := fun t s ht hs => by unfold firstF; split <;> omega
    refine gg ?_
    refine R1_call1 (rselect_ok _ v1 v2 n n (k + 1) (k + 1) N _ _ M w6 (hM.ext (hE04.trans (hE5.trans hE6))) (hv1.ext hE6) hv2 (hf i · hlt) (hf j · hjl) (by omega) (by omega)) ?_
    rintro v3 w7 ⟨hE7, hS⟩
    refine ⟨hE7, ?_⟩
    refine gg ?_
    refine R1_call1 (rdet_ok v3 (k + 1) N _ w7 hS (by omega) hN1 hN) ?_
    rintro _ w8 ⟨hE8, x, y, rfl, hcv⟩
    refine ⟨hE8, ?_⟩
    rw [first_bm] at hcv
    have hbd := stR_bd hN1 hk hn (show i < n - k by omega) (show j < n - k by omega) hbM
    have hE48 := hE5.trans (hE6.trans (hE7.trans hE8))
    refine gg ?_
    refine R1_storeE (.inl rfl) rfl rfl ((hW4.ext hE48).row i hlt) hjl (hcv.ev true hbd) ?_
    intro w9 hR9 hC9 hk9 hs9
    have hW9 := (hW4.ext hE48).put hlt hR9 hC9 hk9
    have hgi := hgs i hlt
    refine gg ?_
    refine ⟨_, ?_, j + 1, _, rfl, by omega, rfl, rfl, rfl, rfl, rfl, rfl, rfl, rfl, hC9.ext_of (hE04.trans hE48) (fun b hb => by omega), hW9.congr fun a b _ _ => ⟨by simp only [set2]; split <;> exact Nat.le_refl _, rfl⟩, fun a b hab hb => ?_⟩
    · omega
    · simp only [set2]
      by_cases e : a = i ∧ b = j
      · rw [if_pos e, e.1, e.2]
      · rw [if_neg e]; exact hX a b (by omega) hb
  rintro f w2 ⟨hf6, hE2, hW2⟩
  rw [ui hf6]
  refine gg ?_
  exact ret1 (v := .slice _ _ _) rfl rfl ⟨hE2, gO, gs, rfl, hgO, hgs, hW2⟩
end Go.Proofs.Ytpldkdjflkckpaa

/- quadformref04: Stages. -/
namespace Go.Proofs.Ytpldkdjflkckpaa
open Go Go.Eng Go.Num Go.Proofs

/-- a list of stages, as matrices -/
def StR (w : World) (v : Value) (m n N : Nat) (M : Nat → Nat → Int) (gos : Nat → Nat) (gss : Nat → Nat → Nat) : Prop :=
  Gr1 22 (.slice none 0 0) w v m (fun q => .slice (some ⟨gos q, 0, none⟩) (n - q) (n - q)) ∧ ∀ q, q < m → WMat w (gos q) (gss q) (n - q) (n - q) true (fun _ _ => N) (stR M q)
/-- the leading minors but the last are not 0 -/
def okLd (n : Nat) (M : Nat → Nat → Int) : Prop := ∀ q, q + 1 < n → ldM M q ≠ 0
def RStR (w : World) (p : Prop) (n N : Nat) (M : Nat → Nat → Int) (v : Value) (w' : World) : Prop :=
  Ext w w' ∧ ((¬ p ∧ v = .tuple #[.slice none 0 0, .bool false]) ∨ (p ∧ ∃ u gos gss, v = .tuple #[u, .bool true] ∧ StR w' u n n N M gos gss))

set_option maxHeartbeats 16000000 in
theorem rstages_ok (va : Value) (r N : Nat) (len : Nat → Nat) (M : Nat → Nat → Int) (w : World) (ha : MatE (EI N) w va r len M) (hN1 : 1 ≤ N) (hN : N < 1048576) :
    Meets Try.prog 38 #[va] w (RStR w (okS r len = true ∧ okLd r M) r (Nb N 16) M) := by
  refine fn_W (n := 44) Try.func38 rfl rfl (by kernel_rfl) (by simp) ?_
  refine gg ?_
  refine R1_call2 (rleading_ok va r N len M w ha hN1 hN) ?_
  rintro _ w1 ⟨hE1, ⟨hok, rfl⟩ | ⟨hok, u, rfl, hG⟩⟩
  · refine gg ?_
    refine W_seq ?_
    refine gg ?_
    exact ret2 (v := .slice _ _ _) (v' := .bool _) rfl rfl rfl ⟨hE1, .inl ⟨fun h => (by have := h.1; rw [hok] at this; cases this), rfl⟩⟩
  obtain ⟨hr1, hr2, hlen⟩ := okS_iff.1 hok
  have hM := (ha.sq hlen).ext hE1
  obtain ⟨Aa, capa, hva, _⟩ := id hM
  subst hva
  have hRow := hG.rowC
  obtain ⟨Au, cu, hu⟩ := hG.slice
  subst hu
  have hNb := Nb_big hN (Nat.le_refl 16)
  obtain ⟨Ax, cx, ex, hle, _, hent⟩ := hRow
  injection ex with ex1 _ ex3
  subst ex1 ex3
  refine gg ?_
  refine W_seq ?_
  refine gg ?_
  refine W_seqM (fun f w' => f 0 = .slice Aa r capa ∧ Ext w1 w' ∧ okLd r M) ?_ ?_
  · refine gg ?_
    refine R1_sliceH (r := r - 1) sl_Int rfl rfl (by omega) ?_
    refine gg ?_
    refine W_loop (fun m f w' => ∃ k, m = r - 1 - k ∧ k ≤ r - 1 ∧ f 0 = .slice Aa r capa ∧ f 21 = .slice Au (r - 1) cu ∧ f 22 = .int .i64 ((r - 1 : Nat) : Int) ∧ f 23 = .int .i64 ((k : Nat) : Int) ∧ Ext w1 w' ∧ ∀ q, q < k → ldM M q ≠ 0)
      (r - 1) ⟨0, rfl, Nat.zero_le _, rfl, rfl, rfl, rfl, Ext.refl _, fun q h => absurd h (by omega)⟩ ?_
    rintro m f w3 ⟨k, rfl, hk, hf0, hf21, hf22, hf23, hE, hall⟩
    rw [ui hf0, ui hf21, ui hf22, ui hf23]
    clear hf0 hf21 hf22 hf23
    by_cases hlt : k < r - 1
    rotate_left
    · refine gg ?_
      exact ⟨rfl, hE, fun q hq => hall q (by omega)⟩
    obtain ⟨ae, x, y, rfl, hx, hy, hcv, hbd⟩ := hent k (by omega)
    have k1 := cell_ext hE hx
    have k2 := cell_ext hE hy
    refine gg ?_
    have hcv3 := hcv.ext hE
    refine R1_alloc (.inl rfl) z_Int ?_
    intro w4a hBa_ hEa_ hsa_
    have hG0_ : Bx w4a w3.heap.size 1 true 0 := Bx.zero true hBa_
    obtain ⟨g7, hg_⟩ : ∃ g, g = w3.heap.size := ⟨_, rfl⟩
    rw [← hg_] at hG0_ ⊢
    refine gg ?_
    refine R1_storeBx (.inl rfl) rfl rfl hG0_ ((hcv3.ext hEa_).ev true hbd) ?_
    intro w4 hb7 hCb_ hkb_ hsb_
    have hE4 : Ext w3 w4 := hCb_.ext_of hEa_ (fun b hb => by omega)
    have hfr_g7 : w3.heap.size ≤ g7 := by omega
    clear hG0_ hBa_ hEa_ hsa_ hsb_ hCb_ hkb_ hg_
    obtain ⟨x', y', hB7, hv7⟩ := id hb7
    obtain ⟨p1, p2⟩ := blkP hB7
    refine gg ?_
    refine R1_call2 (rsign_ok _ _ _ _ w4 hv7.1 (by omega)) ?_
    rintro _ w5 ⟨hE5, rfl⟩
    have hE25 := hE.trans (hE4.trans hE5)
    by_cases hz : ldM M k = 0
    · have hs : (ldM M k).sign = 0 := by rw [hz]; rfl
      refine gg ?_
      exact ret2 (v := .slice _ _ _) (v' := .bool _) rfl rfl rfl ⟨hE1.trans hE25, .inl ⟨fun h => h.2 k (by omega) hz, rfl⟩⟩
    · have hs : ¬ (ldM M k).sign = 0 := fun e => hz (Int.sign_eq_zero_iff_zero.1 e)
      refine gg ?_
      refine ⟨_, ?_, k + 1, rfl, by omega, rfl, rfl, rfl, rfl, hE25, fun q hq => ?_⟩
      · omega
      · by_cases e : q = k
        · subst e; exact hz
        · exact hall q (by omega)
  rintro f w2 ⟨hf0, hE2, hokl⟩
  rw [ui hf0]
  clear hf0
  have hE02 := hE1.trans hE2
  refine gg ?_
  refine W_seqM (fun f w' => ∃ v gos gss, f 8 = v ∧ Ext w w' ∧ StR w' v r r (Nb N 16) M gos gss) ?_ ?_
  · refine gg ?_
    refine W_loop (fun q f w' => ∃ k v gos gss, q = r - k ∧ k ≤ r ∧ f 0 = .slice Aa r capa ∧ f 8 = v ∧ f 32 = .int .i64 ((r : Nat) : Int) ∧ f 33 = .int .i64 ((k : Nat) : Int) ∧ Ext w w' ∧ StR w' v k r (Nb N 16) M gos gss ∧ ∀ b, some b = v.ownBlock → w.heap.size ≤ b ∧ ∀ q, q < k → gos q ≠ b ∧ ∀ i, i < r - q → gss q i ≠ b)
      r ⟨0, .slice none 0 0, fun _ => 0, fun _ _ => 0, rfl, Nat.zero_le _, rfl, rfl, rfl, rfl, hE02, ⟨Gr1.nil, fun q hq => absurd hq (by omega)⟩, fun b hb => by cases hb⟩ ?_
    rintro q f w3 ⟨k, v, gos, gss, rfl, hk, hf0, hf8, hf32, hf33, hE, ⟨hGl, hSt⟩, hown⟩
    rw [ui hf0, ui hf8, ui hf32, ui hf33]
    clear hf0 hf8 hf32 hf33
    by_cases hlt : k < r
    rotate_left
    · refine gg ?_
      obtain rfl : k = r := by omega
      exact ⟨v, gos, gss, rfl, hE, hGl, hSt⟩
    refine gg ?_
    refine R1_call2 (rstage_ok _ r N k M w3 ((ha.sq hlen).ext hE) hlt hr2 hN1 hN) ?_
    rintro _ w4 ⟨hE4, gO, gs, rfl, hgO, hgs, hW⟩
    refine gg ?_
    refine R1_build1 (v0 := .slice (some ⟨gO, 0, none⟩) (r - k) (r - k)) sl_ssInt rfl (.inl rfl) rfl rfl ?_
    intro w5 hB5 hE5 hs5
    have hc5 := blkS hB5
    refine gg ?_
    refine R1_app1 sl_ssInt rfl (.inl rfl) rfl rfl (hGl.ext (hE4.trans hE5)) hc5 rfl (by omega) (by decide) (fun _ _ _ => by simp) (fun _ => by simp) ?_
    intro v' w6 hG6 hk6 hC6 hv6
    have hE35 := hE4.trans hE5
    have hs35 := hE35.size
    have hs03 := hE.size
    have hs34 := hE4.size
    obtain ⟨gos', e1, e2⟩ : ∃ gos' : Nat → Nat, gO = gos' k ∧ ∀ q, q < k → gos' q = gos q := ⟨fun q => if q = k then gO else gos q, by simp, fun q hq => if_neg (by omega)⟩
    obtain ⟨gss', e3, e4⟩ : ∃ gss' : Nat → Nat → Nat, gs = gss' k ∧ ∀ q, q < k → gss' q = gss q := ⟨fun q => if q = k then gs else gss q, by simp, fun q hq => if_neg (by omega)⟩
    subst e1 e3
    have hvl : ∀ b, some b = v.ownBlock → b < w3.heap.size := fun b hb => hGl.lt hb
    refine gg ?_
    refine ⟨_, ?_, k + 1, v', gos', gss', rfl, by omega, rfl, rfl, rfl, rfl, hC6.ext_of (hE.trans hE35) (fun b hb => (hown b hb).1), ⟨hG6.congr fun q hq => ?_, fun q hq => ?_⟩, fun b hb => ?_⟩
    · omega
    · by_cases e : q = k
      · rw [if_pos e, e]
      · rw [if_neg e, e2 q (by omega)]
    · by_cases e : q = k
      · subst e
        exact (hW.ext hE5).kp hk6 hC6 (fun hb => by have := hvl _ hb; omega) (fun i hi hb => by have := hvl _ hb; have := hgs i hi; omega)
      · rw [e2 q (by omega), e4 q (by omega)]
        exact ((hSt q (by omega)).ext hE35).kp hk6 hC6 (fun hb => ((hown _ hb).2 q (by omega)).1 rfl) (fun i hi hb => ((hown _ hb).2 q (by omega)).2 i hi rfl)
    · have hlt4 := hW.lt
      rcases hv6 with e | e
      · rw [e] at hb
        obtain ⟨h1, h2⟩ := hown b hb
        have hb3 := hvl b hb
        refine ⟨h1, fun q hq => ?_⟩
        by_cases eq : q = k
        · subst eq
          exact ⟨by omega, fun i hi => by have := hgs i hi; omega⟩
        · rw [e2 q (by omega), e4 q (by omega)]; exact h2 q (by omega)
      · rw [e] at hb
        injection hb with hb
        refine ⟨by omega, fun q hq => ?_⟩
        by_cases eq : q = k
        · subst eq
          exact ⟨by omega, fun i hi => by have := (hW.row i hi).lt; omega⟩
        · rw [e2 q (by omega), e4 q (by omega)]
          have := (hSt q (by omega)).lt
          exact ⟨by omega, fun i hi => by have := ((hSt q (by omega)).row i hi).lt; omega⟩
  rintro f w3 ⟨v, gos, gss, hf8, hE3, hS⟩
  rw [ui hf8]
  obtain ⟨A5, c5, rfl, _⟩ := hS.1.slice
  refine gg ?_
  exact ret2 (v := .slice _ _ _) (v' := .bool _) rfl rfl rfl ⟨hE3, .inr ⟨⟨hok, hokl⟩, _, gos, gss, rfl, hS⟩⟩
end Go.Proofs.Ytpldkdjflkckpaa
