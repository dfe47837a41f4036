/- Joined: Lxg. -/
import Derived.Test.YtcjhcefnedonlaaQzc
import Derived.Test.YtcjhcefnedonlaaQmf
/- The law BareissSolution. -/
namespace Go.Proofs.Ytcjhcefnedonlaa
open Go Go.Eng Go.Num Go.Proofs

/-- an entry of a list of Rats, read -/
theorem RatE.at {w : World} {v : Value} {m j : Nat} {a b : Nat → Int} (h : RatE w v m a b) (hj : j < m) :
    ∃ g c x y x' y', v = .slice (some ⟨g, 0, none⟩) m c ∧ w.cell? ⟨g, 0 + j * 4, none⟩ = some x ∧ w.cell? ((⟨g, 0 + j * 4, none⟩ : Addr).add 1) = some y ∧ w.cell? ((⟨g, 0 + j * 4, none⟩ : Addr).add 2) = some x' ∧ w.cell? ((⟨g, 0 + j * 4, none⟩ : Addr).add 3) = some y' ∧ CV w x y (a j) ∧ CV w x' y' (b j) := by
  obtain ⟨A, c, rfl, h⟩ := h
  obtain ⟨g, hh, cs, rfl, hB, hl, h1, h2⟩ := h j hj
  have cA : ∀ t, t < 4 → w.cell? ((⟨g, 0 + j * 4, none⟩ : Addr).add t) = some (hh (j * 4 + t)) := fun t ht => by
    rw [add_lit, hB.cell, arr_at (by omega), Nat.zero_add]
  exact ⟨g, c, _, _, _, _, rfl, cA 0 (by decide), cA 1 (by decide), cA 2 (by decide), cA 3 (by decide), h1, h2⟩
theorem Qv.of {w : World} {N : Nat} {x y x' y' : Value} {n d : Int} (h1 : CV w x y n) (h2 : CV w x' y' d) (b1 : Bd N n) (b2 : Bd N d) (hd : 0 < d) {a b : Int} (e : n * b = a * d) : Qv w N x y x' y' a b := ⟨n, d, h1, h2, b1, b2, hd, e⟩
theorem Nb_val {N j : Nat} (hj : j ≤ 5) (hN : N < 1048576) : Nb N j < 33554432 := by
  have h := Nb_le N j
  have h2 : 2 ^ j ≤ 2 ^ 5 := Nat.pow_le_pow_right (by decide) hj
  have h3 : 2 ^ j * (N + 1) ≤ 2 ^ 5 * 1048576 := Nat.mul_le_mul h2 (by omega)
  have : (2 : Nat) ^ 5 * 1048576 = 33554432 := by decide
  omega
theorem Nb_ge (N : Nat) : ∀ j, N ≤ Nb N j
  | 0 => Nat.le_refl _
  | j + 1 => Nat.le_trans (Nb_ge N j) (Nb_mono N j)

set_option maxHeartbeats 16000000 in
theorem lawSolution {vx vl : Value} {rx cx nx m : Nat} {nsx ns : Nat → Int} {w : World} (hx : GridV w vx rx cx nx nsx) (hl : NumsV w vl m ns) :
    Meets Try.prog 5 #[vx, vl] w (Law w) := by
  obtain ⟨Ax, capx, rfl, hx1, hx2, hx3, hx4⟩ := hx
  obtain ⟨Al, capl, hvl, hl1, hl2⟩ := hl
  refine fn_W (n := 84) Try.func5 rfl rfl (by kernel_rfl) (by simp) ?_
  have hX : Ext w w := Ext.refl w
  refine gg ?_
  refine R1_box (v := .agg _) (.inl rfl) rfl ?_
  intro w_1 hB0_ hE_ hs_
  have hX1 : Blk w_1 w.heap.size 24 #[.int .u8 ((rx : Nat) : Int), .int .u8 ((cx : Nat) : Int), .slice Ax nx capx] := hB0_
  obtain ⟨gX, hg_⟩ : ∃ g, g = w.heap.size := ⟨_, rfl⟩
  rw [← hg_] at hX1 ⊢
  have hfr_gX : w.heap.size ≤ gX := by have := hX.size; omega
  replace hX := hX.trans hE_
  clear hB0_ hs_ hg_ hE_
  have hGx := GridV.agg hx1 hx2 hx3 hx4
  have hm1 := Nat.mod_lt rx (show 0 < 5 by decide)
  obtain ⟨n, hn⟩ : ∃ n, n = 1 + rx % 5 := ⟨_, rfl⟩
  have hn1 : 1 ≤ n := by omega
  have hn5 : n ≤ 5 := by omega
  have hn2 : n ≤ 16 := by omega
  have hnb : n < 9223372036854775808 := by omega
  obtain ⟨X, hXd⟩ : ∃ X, X = gridM n nx nsx := ⟨_, rfl⟩
  have bX : ∀ i j, i < n → j < n → Bd 1 (X i j) := fun i j _ _ => by rw [hXd]; exact gridM_bd hx4 _ i j
  have hNv : Nb 1 16 = 131071 := by decide
  obtain ⟨x0, x1, x2⟩ := blkT hX1
  refine gg ?_
  refine R1_load3F (by decide) agg_Grid rfl x0 x1 x2 ?_
  clear x0 x1 x2
  refine gg ?_
  refine R1_call2 (gridSquare_ok _ rx cx nx 5 nsx w_1 (hGx w_1 hX) (by decide) (by decide)) ?_
  rintro _ w_2 ⟨hE_, ga, gs, rfl, _, _, hO⟩
  replace hX1 := hX1.ext hE_
  replace hX := hX.trans hE_
  clear hE_
  rw [← hn, ← hXd] at hO
  rw [← hn]
  rw [hvl]
  refine gg ?_
  refine R1_call2 (column_ok Al m capl n ns w_2 (hl2.ext hX) (by omega)) ?_
  rintro vc w_3 ⟨hE_, hC, _⟩
  replace hX1 := hX1.ext hE_
  replace hO := hO.ext hE_
  replace hX := hX.trans hE_
  clear hE_
  refine gg ?_
  refine R1_call2 (bsolve_ok _ _ n 1 n (fun _ => n) X (tp m ns) w_3 (hO.rd bX (Nat.le_refl _) hnb hnb) hC.rowE (by decide) (by decide)) ?_
  intro v5 w5 h5
  obtain ⟨u5, e5, rfl, hE5, s5⟩ := h5.v
  clear h5
  replace hO := hO.ext hE5
  replace hC := hC.ext hE5
  replace hX := hX.trans hE5
  have hokS : okS n (fun _ => n) = true := okS_iff.2 ⟨hn1, hn2, fun _ _ => rfl⟩
  obtain ⟨P, hP⟩ : ∃ P, P = augM n X (tp m ns) := ⟨_, rfl⟩
  rw [← hP] at s5
  obtain ⟨D, hD⟩ : ∃ D, D = Go.Det.det n P := ⟨_, rfl⟩
  have hDX : D = detB n X := by rw [hD, hP, aug_det, detB_det]
  obtain ⟨_, bcr, bdt⟩ := sol_bd (N := 1) (by decide) hn2 bX (RowE.bdS hC.rowE)
  rw [← hP] at bcr bdt
  unfold SolV at s5
  rw [← hD] at s5 bdt
  rcases s5 with ⟨hp, _⟩ | ⟨_, hz, rfl, rfl⟩ | ⟨_, hz, rfl, r5⟩
  · exact absurd ⟨hokS, rfl⟩ hp
  · refine gg ?_
    refine W_seq ?_
    refine gg ?_
    refine R1_call2 (rdet_ok _ n 1 X w5 (hO.rd bX (Nat.le_refl _) hnb hnb) hn2 (by decide) (by decide)) ?_
    rintro _ w6 ⟨hE6, a0, a1, rfl, hcd⟩
    rw [← hDX] at hcd
    refine gg ?_
    refine R1_call2 (rsign_ok _ _ _ (Nb 1 16) w6 (hcd.iv bdt) (by omega)) ?_
    rintro _ w7 ⟨hE7, rfl⟩
    have hs : D.sign = 0 := by rw [hz]; rfl
    refine gg ?_
    refine R1_len sl_Rat rfl ?_
    refine gg ?_
    refine R1_call2 (awake4_ok w7) ?_
    rintro _ w8 ⟨hE8, rfl⟩
    refine gg ?_
    exact ret1 (v := .bool _) rfl rfl ⟨hX.trans (hE6.trans (hE7.trans hE8)), rfl⟩
  obtain ⟨Au, cu, hu5, _⟩ := id r5
  rw [hu5]
  refine gg ?_
  refine W_seq ?_
  refine gg ?_
  refine W_seq ?_
  refine gg ?_
  refine R1_len sl_Rat rfl ?_
  refine gg ?_
  rw [← hu5]
  obtain ⟨K, hK⟩ : ∃ K, K = 2 * Nb 1 16 := ⟨_, rfl⟩
  have hsol : ∀ i, i < n → (Go.Det.sm n fun t => X i t * Go.Det.cr n P t n) = tp m ns i * D := fun i hi => by
    have h := Go.Det.cramer n P i n hi
    rw [← hD, show P i n = tp m ns i by rw [hP]; unfold augM; rw [if_pos rfl]] at h
    rw [Int.mul_comm (tp m ns i) D, ← h]
    exact Go.Det.sm_congr fun t ht => by rw [hP]; unfold augM; rw [if_neg (by omega)]
  have hMr : MatE (EI 1) w5 (.slice (some ⟨ga, 0, none⟩) n n) n (fun _ => n) X := hO.rd bX (Nat.le_refl _) hnb hnb
  have hCr := hC.rowE
  refine W_seqM (fun f w' => Ext w5 w') ?_ ?_
  · refine gg ?_
    refine W_loop (fun m f w' => ∃ i, m = n - i ∧ i ≤ n ∧ f 5 = .slice (some ⟨ga, 0, none⟩) n n ∧ f 6 = vc ∧ f 7 = u5 ∧ f 48 = .int .i64 ((n : Nat) : Int) ∧ f 49 = .int .i64 ((i : Nat) : Int) ∧ Ext w5 w') n ⟨0, rfl, Nat.zero_le _, rfl, rfl, rfl, rfl, rfl, Ext.refl _⟩ ?_
    clear hX hX1 hGx hO hC
    rintro m' f w6 ⟨i, rfl, hi, hf5, hf6, hf7, hf48, hf49, hE⟩
    rw [ui hf5, ui hf6, ui hf7, ui hf48, ui hf49]
    clear hf5 hf6 hf7 hf48 hf49
    by_cases hlt : i < n
    rotate_left
    · refine gg ?_
      exact hE
    have hX : Ext w6 w6 := Ext.refl w6
    refine gg ?_
    refine gg ?_
    refine R1_call2 (ratSmall_ok 0 w6 (by decide) (by decide)) ?_
    rintro _ w_4 ⟨hE_, x0, x1, x2, x3, rfl, hz0, hz1⟩
    replace hX := hX.trans hE_
    clear hE_
    refine gg ?_
    refine R1_alloc (.inl rfl) z_Rat ?_
    intro w_5 hB0_ hE_ hs_
    have hS := RB.zero hB0_
    obtain ⟨gS, hg_⟩ : ∃ g, g = w_4.heap.size := ⟨_, rfl⟩
    rw [← hg_] at hS ⊢
    have hfr_gS : w6.heap.size ≤ gS := by have := hX.size; omega
    replace hz0 := hz0.ext hE_
    replace hz1 := hz1.ext hE_
    replace hX := hX.trans hE_
    clear hB0_ hs_ hg_ hE_
    refine gg ?_
    refine R1_storeRB (.inl rfl) rfl rfl hS (hz0) (hz1) ?_
    intro w_6 hS hC_ hk_ hs_
    replace hz0 := hz0.kp hk_
    replace hz1 := hz1.kp hk_
    replace hX := hC_.ext_of hX (fun b hb => by omega)
    clear hC_ hk_ hs_
    refine gg ?_
    refine W_seqM (fun f w' => f 5 = .slice (some ⟨ga, 0, none⟩) n n ∧ f 6 = vc ∧ f 7 = u5 ∧ f 48 = .int .i64 ((n : Nat) : Int) ∧ f 49 = .int .i64 ((i : Nat) : Int) ∧ f 9 = .int .i64 ((i : Nat) : Int) ∧ f 10 = .pointer (some ⟨gS, 0, none⟩) ∧ Ext w6 w' ∧ ∃ p q, RB w' gS p q ∧ Bd (Nb K n) p ∧ Bd (Nb K n) q ∧ 0 < q ∧ p * D = (Go.Det.sm n fun t => X i t * Go.Det.cr n P t n) * q) ?_ ?_
    · rw [hu5]
      refine gg ?_
      refine R1_len sl_Rat rfl ?_
      refine gg ?_
      rw [← hu5]
      refine W_loop (fun m f w' => ∃ j, m = n - j ∧ j ≤ n ∧ f 5 = .slice (some ⟨ga, 0, none⟩) n n ∧ f 6 = vc ∧ f 7 = u5 ∧ f 48 = .int .i64 ((n : Nat) : Int) ∧ f 49 = .int .i64 ((i : Nat) : Int) ∧ f 9 = .int .i64 ((i : Nat) : Int) ∧ f 10 = .pointer (some ⟨gS, 0, none⟩) ∧ f 54 = .int .i64 ((n : Nat) : Int) ∧ f 55 = .int .i64 ((j : Nat) : Int) ∧ Ext w6 w' ∧ ∃ p q, RB w' gS p q ∧ Bd (Nb K j) p ∧ Bd (Nb K j) q ∧ 0 < q ∧ p * D = (Go.Det.sm j fun t => X i t * Go.Det.cr n P t n) * q)
        n ⟨0, rfl, Nat.zero_le _, rfl, rfl, rfl, rfl, rfl, rfl, rfl, rfl, rfl, hX, 0, 1, hS, Bd.zero _, (show Bd 1 1 by unfold Bd; decide).mono (by simp only [Nb]; omega), by decide, by simp [Go.Det.sm]⟩ ?_
      clear hX hS
      rintro m' f w7 ⟨j, rfl, hj, hf5, hf6, hf7, hf48, hf49, hf9, hf10, hf54, hf55, hE7, p, q, hS, bp, bq, hq, he⟩
      rw [ui hf5, ui hf6, ui hf7, ui hf48, ui hf49, ui hf9, ui hf10, ui hf54, ui hf55]
      clear hf5 hf6 hf7 hf48 hf49 hf9 hf10 hf54 hf55
      by_cases hlj : j < n
      rotate_left
      · have : j = n := by omega
        subst this
        refine gg ?_
        exact ⟨rfl, rfl, rfl, rfl, rfl, rfl, rfl, hE7, p, q, hS, bp, bq, hq, he⟩
      have hX : Ext w6 w7 := hE7
      refine gg ?_
      refine W_regD [(0, 0), (1, 3), (2, 3), (3, 3), (4, 0), (5, 3), (6, 3), (7, 0), (9, 3), (10, 3), (11, 3), (12, 0), (8, 1), (13, 1), (14, 1), (15, 2)] mixed (by kernel_rfl) (fun w_7 hE_ _ => ?_)
      replace hS := hS.ext hE_
      replace hX := hX.trans hE_
      clear hE_
      have hE58 := hE.trans hX
      obtain ⟨ad, cap, u, hva, hcu, hru⟩ := (hMr.ext hE58).at hlt
      injection hva with hva1 _ hva2
      injection hva1 with hva1
      subst hva1 hva2
      rw [add_lit] at hcu
      obtain ⟨ad', cap', e0, e1, rfl, hce0, hce1, hev⟩ := hru.at hlj
      obtain ⟨gr, cr', y0, y1, y2, y3, hur, hr0, hr1, hr2, hr3, hrn, hrd⟩ := (r5.ext hE58).at hlj
      rw [hur]
      obtain ⟨s0, s1, s2, s3, hSB, hsn, hsd⟩ := id hS
      obtain ⟨q0, q1, q2, q3⟩ := blkQ hSB
      refine gg ?_
      refine R1_load4E (by decide) agg_Rat rfl q0 q1 q2 q3 ?_
      refine gg ?_
      refine R1_indexB sl_Rat rfl rfl hlj ?_
      refine gg ?_
      refine R1_load4E (by decide) agg_Rat rfl hr0 hr1 hr2 hr3 ?_
      clear q0 q1 q2 q3 hr0 hr1 hr2 hr3 hcu hce0 hce1
      refine gg ?_
      refine R1_call1 (whole_ok _ _ _ 1 w_7 hev (by decide)) ?_
      rintro _ w_8 ⟨hE_, v0, v1, v2, v3, rfl, hv0, hv1⟩
      refine ⟨hE_, ?_⟩
      replace hS := hS.ext hE_
      replace hrn := hrn.ext hE_
      replace hrd := hrd.ext hE_
      replace hsn := hsn.ext hE_
      replace hsd := hsd.ext hE_
      replace hX := hX.trans hE_
      clear hE_
      have hlow := low_bd (bcr j hlj) bdt
      have b1 : Bd (Nb 1 16) 1 := (show Bd 1 1 by unfold Bd; decide).mono (by omega)
      have hx1' : Bd (Nb 1 16) (X i j) := (bX i j hlt hlj).mono (by omega)
      have Q1 := Qv.of hv0 hv1 hx1' b1 (by decide) (a := X i j) (b := 1) rfl
      have Q2 := Qv.of hrn hrd hlow.1 hlow.2 (lowD_pos hz) (a := Go.Det.cr n P j n) (b := D) low_cross
      refine gg ?_
      refine R1_call1 (ratMul_ok _ _ _ _ _ _ _ _ _ _ _ _ (Nb 1 16) w_8 Q1 Q2 (by omega)) ?_
      rintro _ w_9 ⟨hE_, m0, m1, m2, m3, rfl, hm⟩
      refine ⟨hE_, ?_⟩
      replace hS := hS.ext hE_
      replace hsn := hsn.ext hE_
      replace hsd := hsd.ext hE_
      replace Q1 := Q1.ext hE_
      replace Q2 := Q2.ext hE_
      replace hX := hX.trans hE_
      clear hE_
      have hKj := Nb_ge K j
      have hm' := Qv.mono hm (show Nb 1 16 + Nb 1 16 ≤ Nb K j by omega)
      have Q3 := Qv.of hsn hsd bp bq hq he
      have hNj := Nb_val (N := K) (show j ≤ 5 by omega) (by omega)
      refine gg ?_
      refine R1_call1 (ratAdd_ok _ _ _ _ _ _ _ _ _ _ _ _ (Nb K j) w_9 Q3 hm' (by omega)) ?_
      rintro _ w_10 ⟨hE_, m0, m1, m2, m3, rfl, hs⟩
      refine ⟨hE_, ?_⟩
      replace hS := hS.ext hE_
      replace hm' := hm'.ext hE_
      replace Q3 := Q3.ext hE_
      replace hX := hX.trans hE_
      clear hE_
      have hs2 : Qv w_10 (Nb K (j + 1)) m0 m1 m2 m3 (Go.Det.sm (j + 1) fun t => X i t * Go.Det.cr n P t n) D := by
        refine Qv.red (c := D) ?_ hz
        rw [show (Go.Det.sm (j + 1) fun t => X i t * Go.Det.cr n P t n) * D = (Go.Det.sm j fun t => X i t * Go.Det.cr n P t n) * (1 * D) + X i j * Go.Det.cr n P j n * D by simp only [Go.Det.sm]; grind, show D * D = D * (1 * D) by grind]
        exact hs.mono (by simp only [Nb]; omega)
      obtain ⟨p', q', hn', hd', bp', bq', hq', he'⟩ := hs2
      refine gg ?_
      refine R1_storeRB (.inl rfl) rfl rfl hS (hn') (hd') ?_
      intro w_11 hS hC_ hk_ hs_
      replace hX := hC_.ext_of hX (fun b hb => by omega)
      clear hC_ hk_ hs_
      refine gg ?_
      rw [← hur]
      exact ⟨_, by omega, j + 1, rfl, hlj, rfl, rfl, rfl, rfl, rfl, rfl, rfl, rfl, rfl, hX, p', q', hS, bp', bq', hq', he'⟩
    clear hX hS
    rintro f w7 ⟨hf5, hf6, hf7, hf48, hf49, hf9, hf10, hE7, p, q, hS, bp, bq, hq, he⟩
    rw [ui hf5, ui hf6, ui hf7, ui hf48, ui hf49, ui hf9, ui hf10]
    clear hf5 hf6 hf7 hf48 hf49 hf9 hf10
    have hE57 := hE.trans hE7
    have hX : Ext w7 w7 := Ext.refl w7
    refine gg ?_
    refine W_seqD [(0, 0), (1, 3), (2, 3), (3, 3), (4, 0), (5, 1), (6, 1), (7, 3)] mixed (by kernel_rfl) (fun w_12 hE_ _ => ?_)
    replace hX := hX.trans hE_
    clear hE_
    have hE58 := hE57.trans hX
    obtain ⟨adc, cpc, c0, c1, hvc, hcc0, hcc1, hcv⟩ := (hCr.ext hE58).at hlt
    rw [hvc]
    obtain ⟨s0, s1, s2, s3, hSB, hsn, hsd⟩ := hS.ext hX
    obtain ⟨q0, q1, q2, q3⟩ := blkQ hSB
    refine gg ?_
    refine R1_load4E (by decide) agg_Rat rfl q0 q1 q2 q3 ?_
    refine gg ?_
    refine R1_call1 (whole_ok _ _ _ 1 w_12 hcv (by decide)) ?_
    rintro _ w_13 ⟨hE_, v0, v1, v2, v3, rfl, hv0, hv1⟩
    refine ⟨hE_, ?_⟩
    replace hsn := hsn.ext hE_
    replace hsd := hsd.ext hE_
    replace hX := hX.trans hE_
    clear hE_
    clear q0 q1 q2 q3 hcc0 hcc1
    have hNj := Nb_val (N := K) hn5 (by omega)
    have hKj := Nb_ge K n
    have b1 : Bd (Nb K n) 1 := (show Bd 1 1 by unfold Bd; decide).mono (by omega)
    have Q1 := Qv.of hv0 hv1 ((IV.bd hcv).mono (show 1 ≤ Nb K n by omega)) b1 (by decide) (a := tp m ns i) (b := 1) rfl
    have Q3 := Qv.of hsn hsd bp bq hq he
    refine gg ?_
    refine R1_call1 (ratCmp_ok _ _ _ _ _ _ _ _ _ _ _ _ (Nb K n) w_13 Q3 Q1 (by omega) hz (by decide)) ?_
    rintro _ w_14 ⟨hE_, s, rfl, hsg⟩
    refine ⟨hE_, ?_⟩
    replace hsn := hsn.ext hE_
    replace hsd := hsd.ext hE_
    replace hX := hX.trans hE_
    clear hE_
    have hs0 : s = 0 := hsg.2 (by rw [hsol i hlt, Int.mul_one])
    rw [hs0]
    refine gg ?_
    rw [← hvc]
    exact ⟨_, by omega, i + 1, rfl, hlt, rfl, rfl, rfl, rfl, rfl, hE57.trans hX⟩
  rintro f w6 hE6
  refine gg ?_
  refine R1_call2 (awake4_ok w6) ?_
  rintro _ w7 ⟨hE7, rfl⟩
  refine gg ?_
  exact ret1 (v := .bool _) rfl rfl ⟨hX.trans (hE6.trans hE7), rfl⟩
end Go.Proofs.Ytcjhcefnedonlaa
