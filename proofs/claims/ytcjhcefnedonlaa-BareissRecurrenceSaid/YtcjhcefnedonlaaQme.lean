/- Joined: Lxe. -/
import Derived.Test.YtcjhcefnedonlaaQmd
import Derived.Test.YtcjhcefnedonlaaQmc
/- The law BareissRecurrence: plain part. -/
namespace Go.Proofs.Ytcjhcefnedonlaa
open Go Go.Eng Go.Num Go.Proofs
open Go.Det (stg stL)

theorem rec_eq {n k i j : Nat} {X : Nat → Nat → Int} (h : okLd n X) (hk : k + 1 < n) : stL X k * stg X (k + 1) i j = stg X k 0 0 * stg X k (i + 1) (j + 1) - stg X k (i + 1) 0 * stg X k 0 (j + 1) := by
  have hd : ∀ q, 1 ≤ q → q ≤ k → Go.Det.det q X ≠ 0 := fun q h1 h2 => by
    have := h (q - 1) (by omega)
    unfold ldM at this
    rwa [show q - 1 + 1 = q by omega] at this
  have h0 := Go.Det.stg_bm X k hd
  have h1 := (Go.Det.stg_bm X (k + 1) fun q h1 h2 => by
    have := h (q - 1) (by omega)
    unfold ldM at this
    rwa [show q - 1 + 1 = q by omega] at this).1
  have hk0 : Go.Det.det k X ≠ 0 := by
    rcases Nat.eq_zero_or_pos k with rfl | hp
    · exact Int.one_ne_zero
    · exact hd k hp (Nat.le_refl _)
  rw [h0.2, h1, h0.1, h0.1, h0.1, h0.1, show k + 1 + i = k + (i + 1) by omega, show k + 1 + j = k + (j + 1) by omega, Nat.add_zero]
  exact Go.Det.bareiss k X _ _ hk0

set_option maxHeartbeats 16000000 in
theorem lawRecurrence {vx : Value} {rx cx nx : Nat} {nsx : Nat → Int} {w : World} (hx : GridV w vx rx cx nx nsx) :
    Meets Try.prog 3 #[vx] w (Law w) := by
  obtain ⟨Ax, capx, rfl, hx1, hx2, hx3, hx4⟩ := hx
  refine fn_W (n := 171) Try.func3 rfl rfl (by kernel_rfl) (by simp) ?_
  refine gg ?_
  refine R1_box (v := .agg _) (.inl rfl) rfl ?_
  intro w1 hB1 hE1 hs1
  have hX1 : Blk w1 w.heap.size 24 #[.int .u8 ((rx : Nat) : Int), .int .u8 ((cx : Nat) : Int), .slice Ax nx capx] := hB1
  have hGx := GridV.agg hx1 hx2 hx3 hx4
  clear hB1
  obtain ⟨x0, x1, x2⟩ := blkT hX1
  have hm1 := Nat.mod_lt rx (show 0 < 5 by decide)
  obtain ⟨n, hn⟩ : ∃ n, n = 1 + rx % 5 := ⟨_, rfl⟩
  have hn1 : 1 ≤ n := by omega
  have hn2 : n ≤ 16 := by omega
  have hnb : n < 9223372036854775808 := by omega
  obtain ⟨X, hX⟩ : ∃ X, X = gridM n nx nsx := ⟨_, rfl⟩
  have bX : ∀ i j, i < n → j < n → Bd 1 (X i j) := fun i j _ _ => by rw [hX]; exact gridM_bd hx4 _ i j
  have hNb := Nb_big (N := 1) (k := 16) (by decide) (by decide)
  refine gg ?_
  refine R1_load3F (by decide) agg_Grid rfl x0 x1 x2 ?_
  clear x0 x1 x2
  refine gg ?_
  refine R1_call2 (gridSquare_ok _ rx cx nx 5 nsx w1 (hGx w1 hE1) (by decide) (by decide)) ?_
  rintro _ w2 ⟨hE2, ga, gs, rfl, _, _, hO⟩
  rw [← hn, ← hX] at hO
  rw [← hn]
  have hE02 := hE1.trans hE2
  refine gg ?_
  refine R1_call2 (stages_ok _ n 1 (fun _ => n) X w2 (hO.rd bX (Nat.le_refl _) hnb hnb) (by decide) (by decide)) ?_
  rintro u w3 ⟨hE3, hcase⟩
  replace hO := hO.ext hE3
  have hokS : okS n (fun _ => n) = true := okS_const hn1 hn2
  have hE03 := hE02.trans hE3
  rcases hcase with ⟨hp, rfl⟩ | ⟨hp, u, gos, ges, rfl, hSt⟩
  · have hnl : ¬ okLd n X := fun h => hp ⟨hokS, ok_st.2 h⟩
    refine gg ?_
    refine R1_call2 (rleading_ok _ n 1 (fun _ => n) X w3 (hO.rd bX (Nat.le_refl _) hnb hnb) (by decide) (by decide)) ?_
    intro v w4 hv
    obtain ⟨Ad, md, cd, rfl, hE4, hRd⟩ := hv.v
    rw [hokS, if_pos rfl] at hRd
    obtain ⟨A', c', ed, hle, _, hent⟩ := hRd
    injection ed with ed1 ed2 ed3
    subst ed1 ed2 ed3
    have hE04 := hE03.trans hE4
    refine gg ?_
    refine W_seq ?_
    refine gg ?_
    refine W_seqM (fun f w' => False) ?_ ?_
    · refine gg ?_
      refine R1_sliceH (r := md - 1) sl_Int rfl rfl (by omega) ?_
      refine gg ?_
      refine W_loop (fun m f w' => ∃ k, m = md - 1 - k ∧ k ≤ md - 1 ∧ f 33 = .slice Ad (md - 1) cd ∧ f 34 = .int .i64 ((md - 1 : Nat) : Int) ∧ f 35 = .int .i64 ((k : Nat) : Int) ∧ Ext w4 w' ∧ ∀ q, q < k → ldM X q ≠ 0)
        (md - 1) ⟨0, rfl, Nat.zero_le _, rfl, rfl, rfl, Ext.refl _, fun q h => absurd h (by omega)⟩ ?_
      rintro m f w5 ⟨k, rfl, hk, hf33, hf34, hf35, hE, hall⟩
      rw [ui hf33, ui hf34, ui hf35]
      clear hf33 hf34 hf35
      by_cases hlt : k < md - 1
      rotate_left
      · exact absurd (fun q hq => hall q (by omega)) hnl
      obtain ⟨ae, x, y, rfl, hx, hy, hcv, hbd⟩ := hent k (by omega)
      have k1 := cell_ext hE hx
      have k2 := cell_ext hE hy
      refine gg ?_
      have hcv5 := hcv.ext hE
      refine R1_alloc (.inl rfl) z_Int ?_
      intro w6a hBa_ hEa_ hsa_
      have hG0_ : Bx w6a w5.heap.size 1 true 0 := Bx.zero true hBa_
      obtain ⟨g9, hg_⟩ : ∃ g, g = w5.heap.size := ⟨_, rfl⟩
      rw [← hg_] at hG0_ ⊢
      refine gg ?_
      refine R1_storeBx (.inl rfl) rfl rfl hG0_ ((hcv5.ext hEa_).ev true hbd) ?_
      intro w6 hb9 hCb_ hkb_ hsb_
      have hE6 : Ext w5 w6 := hCb_.ext_of hEa_ (fun b hb => by omega)
      have hfr_g9 : w5.heap.size ≤ g9 := by omega
      clear hG0_ hBa_ hEa_ hsa_ hsb_ hCb_ hkb_ hg_
      obtain ⟨x', y', hB9, hv9⟩ := id hb9
      obtain ⟨p1, p2⟩ := blkP hB9
      refine gg ?_
      refine R1_call2 (rsign_ok _ _ _ _ w6 hv9.1 (by omega)) ?_
      rintro _ w7 ⟨hE7, rfl⟩
      have hE47 := hE.trans (hE6.trans hE7)
      by_cases hz : ldM X k = 0
      · have hs : (ldM X k).sign = 0 := by rw [hz]; rfl
        refine gg ?_
        refine R1_call2 (awake4_ok w7) ?_
        rintro _ w8 ⟨hE8, rfl⟩
        refine gg ?_
        exact ret1 (v := .bool _) rfl rfl ⟨hE04.trans (hE47.trans hE8), rfl⟩
      · have hs : ¬ (ldM X k).sign = 0 := fun e => hz (Int.sign_eq_zero_iff_zero.1 e)
        refine gg ?_
        refine ⟨_, ?_, k + 1, rfl, by omega, rfl, rfl, rfl, hE47, fun q hq => ?_⟩
        · omega
        · by_cases e : q = k
          · subst e; exact hz
          · exact hall q (by omega)
    · intro f w5 h; exact h.elim
  have hokl := ok_st.1 hp.2
  have hNv : Nb 1 16 = 131071 := by decide
  obtain ⟨gl, cp, rfl, hcell⟩ := hSt.list (by omega)
  refine gg ?_
  refine R1_call2 (rleading_ok _ n 1 (fun _ => n) X w3 (hO.rd bX (Nat.le_refl _) hnb hnb) (by decide) (by decide)) ?_
  intro v w4 hv
  obtain ⟨Ad, md, cd, rfl, hE4, _⟩ := hv.v
  clear hv
  replace hO := hO.ext hE4
  replace hSt := hSt.ext hE4
  have hE04 := hE03.trans hE4
  replace hcell : ∀ q, q < n → w4.cell? ⟨gl, 0 + q * 1, none⟩ = some (.slice (some ⟨gos q, 0, none⟩) (n - q) (n - q)) := fun q hq => cell_ext hE4 (hcell q hq)
  refine gg ?_
  refine W_seq ?_
  refine gg ?_
  refine W_seq ?_
  refine W_seqD [(0, 3), (1, 3), (2, 3), (3, 3), (4, 3), (5, 3), (6, 3), (7, 3), (8, 0), (9, 3), (10, 1), (11, 1), (12, 3), (13, 3)] mixed (by kernel_rfl) (fun w5 hE5 _ => ?_)
  have k1 := cell_ext hE5 (hcell 0 (by omega))
  refine gg ?_
  refine R1_len sl_ssInt rfl ?_
  refine gg ?_
  refine R1_index0B sl_ssInt rfl (by omega) ?_
  refine gg ?_
  refine R1_call1 (rcopy_ok _ n n 1 X w5 ((hO.ext hE5).rd bX (Nat.le_refl _) hnb hnb) (by omega) hn1 (by omega) (by decide)) ?_
  rintro _ w6 ⟨hE6, gc, gsc, cpc, rfl, _, _, _, hGc⟩
  refine ⟨hE6, ?_⟩
  have hT0 := ((hSt.2 0 (by omega)).congr (N' := 1) (Nat.le_refl _) fun _ _ _ _ => rfl).ext (hE5.trans hE6)
  refine gg ?_
  refine R1_call1 (rsameM_ok _ _ _ _ 1 _ _ _ _ w6 (hT0.readC (by omega) (by omega)) (hGc.readC hnb) (by decide)) ?_
  rintro _ w7 ⟨hE7, b, rfl, hb⟩
  refine ⟨hE7, ?_⟩
  obtain rfl := hb.2 ⟨Nat.sub_zero n, fun i _ => ⟨Nat.sub_zero n, fun j _ => rfl⟩⟩
  clear hT0 hGc k1
  refine gg ?_
  refine R1_call2 (rsmall_ok 1 w7 (by decide) (by decide)) ?_
  rintro _ w8 ⟨hE8, a1, b1, rfl, hc1⟩
  have hE48 := hE5.trans (hE6.trans (hE7.trans hE8))
  replace hO := hO.ext hE48
  replace hSt := hSt.ext hE48
  replace hcell : ∀ q, q < n → w8.cell? ⟨gl, 0 + q * 1, none⟩ = some (.slice (some ⟨gos q, 0, none⟩) (n - q) (n - q)) := fun q hq => cell_ext hE48 (hcell q hq)
  have hE08 := hE04.trans hE48
  have hb1 : Bd (Nb 1 16) 1 := Bd.mono (N := 1) (by unfold Bd; decide) (by omega)
  refine gg ?_
  refine R1_alloc (.inl rfl) z_Int ?_
  intro w9a hBa_ hEa_ hsa_
  have hG0_ : Bx w9a w8.heap.size 1 true 0 := Bx.zero true hBa_
  obtain ⟨gL, hg_⟩ : ∃ g, g = w8.heap.size := ⟨_, rfl⟩
  rw [← hg_] at hG0_ ⊢
  refine gg ?_
  refine R1_storeBx (.inl rfl) rfl rfl hG0_ ((hc1.ext hEa_).ev true hb1) ?_
  intro w9 hL hCb_ hkb_ hsb_
  have hE9 : Ext w8 w9 := hCb_.ext_of hEa_ (fun b hb => by omega)
  have hfr_gL : w8.heap.size ≤ gL := by omega
  clear hG0_ hBa_ hEa_ hsa_ hsb_ hCb_ hkb_ hg_
  clear hE1 hE2 hE02 hE03 hE3 hE4 hE04 hE5 hE6 hE7 hE8 hE48 hX1 hGx hc1 hb1
  refine gg ?_
  refine W_seqM (fun f w' => f 3 = .slice (some ⟨ga, 0, none⟩) n n ∧ f 4 = .slice (some ⟨gl, 0, none⟩) n cp ∧ Ext w8 w') ?_ ?_
  · refine gg ?_
    refine W_loop (fun m f w' => ∃ k, m = n - k ∧ k < n ∧ f 3 = .slice (some ⟨ga, 0, none⟩) n n ∧ f 4 = .slice (some ⟨gl, 0, none⟩) n cp ∧ f 10 = .pointer (some ⟨gL, 0, none⟩) ∧ f 11 = .int .i64 ((k : Nat) : Int) ∧ Ext w8 w' ∧ Bx w' gL (Nb 1 16) true (stL X k))
      n ⟨0, rfl, by omega, rfl, rfl, rfl, rfl, hE9, hL⟩ ?_
    clear hE9 hL
    rintro m f w10 ⟨k, rfl, hk, hf3, hf4, hf10, hf11, hE, hL⟩
    rw [ui hf3, ui hf4, ui hf10, ui hf11]
    clear hf3 hf4 hf10 hf11
    refine W_seq ?_
    refine gg ?_
    refine R1_len sl_ssInt rfl ?_
    by_cases hlt : k + 1 < n
    rotate_left
    · refine gg ?_
      exact ⟨rfl, rfl, hE⟩
    have k1 := cell_ext hE (hcell k (by omega))
    have k2 := cell_ext hE (hcell (k + 1) hlt)
    refine gg ?_
    refine R1_indexB sl_ssInt rfl rfl (by omega) ?_
    refine gg ?_
    refine W_seq ?_
    refine gg ?_
    refine R1_indexB sl_ssInt rfl rfl (by omega) ?_
    refine gg ?_
    refine W_seqM (fun f w' => f 3 = .slice (some ⟨ga, 0, none⟩) n n ∧ f 4 = .slice (some ⟨gl, 0, none⟩) n cp ∧ f 10 = .pointer (some ⟨gL, 0, none⟩) ∧ f 11 = .int .i64 ((k : Nat) : Int) ∧ f 12 = .slice (some ⟨gos k, 0, none⟩) (n - k) (n - k) ∧ Ext w10 w') ?_ ?_
    · refine gg ?_
      refine W_loop (fun m f w' => ∃ i, m = n - k - i ∧ 1 ≤ i ∧ i ≤ n - k ∧ f 3 = .slice (some ⟨ga, 0, none⟩) n n ∧ f 4 = .slice (some ⟨gl, 0, none⟩) n cp ∧ f 10 = .pointer (some ⟨gL, 0, none⟩) ∧ f 11 = .int .i64 ((k : Nat) : Int) ∧ f 12 = .slice (some ⟨gos k, 0, none⟩) (n - k) (n - k) ∧ f 13 = .int .i64 ((i : Nat) : Int) ∧ Ext w10 w')
        (n - k - 1) ⟨1, rfl, Nat.le_refl _, by omega, rfl, rfl, rfl, rfl, rfl, rfl, Ext.refl _⟩ ?_
      clear k1 k2
      rintro m f w11 ⟨i, rfl, hi1, hi, hf3, hf4, hf10, hf11, hf12, hf13, hE11⟩
      rw [ui hf3, ui hf4, ui hf10, ui hf11, ui hf12, ui hf13]
      clear hf3 hf4 hf10 hf11 hf12 hf13
      refine W_seq ?_
      by_cases hil : i < n - k
      rotate_left
      · refine gg ?_
        exact ⟨rfl, rfl, rfl, rfl, rfl, hE11⟩
      have hE811 := hE.trans hE11
      have k2 := cell_ext hE811 (hcell (k + 1) hlt)
      have k3 := ((hSt.2 (k + 1) hlt).ext hE811).at (i := i - 1) (by omega)
      refine gg ?_
      refine W_seq ?_
      refine gg ?_
      refine R1_indexB sl_ssInt rfl rfl (by omega) ?_
      refine gg ?_
      clear k2 k3
      refine W_loop (fun m f w' => ∃ j, m = n - k - j ∧ 1 ≤ j ∧ j ≤ n - k ∧ f 3 = .slice (some ⟨ga, 0, none⟩) n n ∧ f 4 = .slice (some ⟨gl, 0, none⟩) n cp ∧ f 10 = .pointer (some ⟨gL, 0, none⟩) ∧ f 11 = .int .i64 ((k : Nat) : Int) ∧ f 12 = .slice (some ⟨gos k, 0, none⟩) (n - k) (n - k) ∧ f 13 = .int .i64 ((i : Nat) : Int) ∧ f 14 = .int .i64 ((j : Nat) : Int) ∧ Ext w10 w')
        (n - k - 1) ⟨1, rfl, Nat.le_refl _, by omega, rfl, rfl, rfl, rfl, rfl, rfl, rfl, hE11⟩ ?_
      clear hE11 hE811
      rintro m f w12 ⟨j, rfl, hj1, hj, hf3, hf4, hf10, hf11, hf12, hf13, hf14, hE12⟩
      rw [ui hf3, ui hf4, ui hf10, ui hf11, ui hf12, ui hf13, ui hf14]
      clear hf3 hf4 hf10 hf11 hf12 hf13 hf14
      refine W_seq ?_
      by_cases hjl : j < n - k
      rotate_left
      · refine gg ?_
        refine ⟨_, ?_, i + 1, rfl, by omega, by omega, rfl, rfl, rfl, rfl, rfl, rfl, hE12⟩
        omega
      refine gg ?_
      refine W_seqD [(0, 0), (1, 3), (2, 3), (3, 3), (4, 3), (5, 0), (6, 3), (7, 3), (8, 3), (9, 0), (10, 3), (11, 3), (12, 3), (13, 0), (15, 3), (16, 3), (17, 0), (18, 3), (19, 0), (20, 3), (21, 3), (22, 3), (23, 0), (24, 3), (25, 3), (26, 0), (28, 3), (29, 3), (30, 3), (31, 0), (32, 3), (33, 0), (34, 3), (35, 3), (36, 0), (37, 3), (38, 3), (39, 0), (14, 1), (27, 1), (40, 1), (41, 1), (42, 1), (43, 3)] mixed (by kernel_rfl) (fun w13 hE13 _ => ?_)
      have hE1013 := hE12.trans hE13
      have hE813 := hE.trans hE1013
      have k1 := cell_ext hE813 (hcell (k + 1) hlt)
      have hT := (hSt.2 k (by omega)).ext hE813
      have hT' := (hSt.2 (k + 1) hlt).ext hE813
      have k2 := hT'.at (i := i - 1) (by omega)
      have k3 := hT.at (i := 0) (by omega)
      have k4 := hT.at (i := i) hil
      obtain ⟨x1, y1, p1, p1', hv1⟩ := hT'.entry (i := i - 1) (j := j - 1) (by omega) (by omega)
      obtain ⟨x2, y2, p2, p2', hv2⟩ := hT.entry (i := 0) (j := 0) (by omega) (by omega)
      obtain ⟨x3, y3, p3, p3', hv3⟩ := hT.entry (i := i) (j := j) hil hjl
      obtain ⟨x4, y4, p4, p4', hv4⟩ := hT.entry (i := i) (j := 0) hil (by omega)
      obtain ⟨x5, y5, p5, p5', hv5⟩ := hT.entry (i := 0) (j := j) (by omega) hjl
      obtain ⟨x6, y6, hB6, hv6⟩ := hL.ext hE1013
      obtain ⟨p6, p6'⟩ := blkP hB6
      refine gg ?_
      refine R1_indexB sl_ssInt rfl rfl (by omega) ?_
      refine gg ?_
      refine R1_index0B sl_Int rfl (by omega) ?_
      refine gg ?_
      refine R1_index0B sl_Int rfl (by omega) ?_
      refine gg ?_
      have q1 := hv1.mono (Nb_le16 1 (k + 1) (by omega))
      have q2 := hv2.mono (Nb_le16 1 k (by omega))
      have q3 := hv3.mono (Nb_le16 1 k (by omega))
      have q4 := hv4.mono (Nb_le16 1 k (by omega))
      have q5 := hv5.mono (Nb_le16 1 k (by omega))
      refine R1_call1 (rmul_ok _ _ _ _ _ _ (Nb 1 16) w13 hv6.1 q1.1 (by omega)) ?_
      rintro _ w14 ⟨hE14, a1, b1, rfl, hc1⟩
      refine ⟨hE14, ?_⟩
      refine gg ?_
      refine R1_call1 (rmul_ok _ _ _ _ _ _ (Nb 1 16) w14 (q2.ext hE14).1 (q3.ext hE14).1 (by omega)) ?_
      rintro _ w15 ⟨hE15, a2, b2, rfl, hc2⟩
      refine ⟨hE15, ?_⟩
      have hE1315 := hE14.trans hE15
      refine gg ?_
      refine R1_call1 (rmul_ok _ _ _ _ _ _ (Nb 1 16) w15 (q4.ext hE1315).1 (q5.ext hE1315).1 (by omega)) ?_
      rintro _ w16 ⟨hE16, a3, b3, rfl, hc3⟩
      refine ⟨hE16, ?_⟩
      have m1 := hv6.bd.mul q1.bd
      have m2 := q2.bd.mul q3.bd
      have m3 := q4.bd.mul q5.bd
      refine gg ?_
      refine R1_call1 (rsub_ok _ _ _ _ _ _ (Nb 1 16 + Nb 1 16) w16 ((hc2.ext hE16).iv m2) (hc3.iv m3) (by omega)) ?_
      rintro _ w17 ⟨hE17, a4, b4, rfl, hc4⟩
      refine ⟨hE17, ?_⟩
      refine gg ?_
      refine R1_call1 (rcmpI_ok _ _ _ _ _ _ (Nb 1 16 + Nb 1 16 + 1) w17 ((hc1.ext (hE15.trans (hE16.trans hE17))).iv (m1.mono (by omega))) (hc4.iv (m2.sub m3)) (by omega)) ?_
      rintro _ w18 ⟨hE18, rfl⟩
      refine ⟨hE18, ?_⟩
      have hs := (cmpI_zero _ _).2 (rec_eq (i := i - 1) (j := j - 1) hokl hlt)
      rw [show i - 1 + 1 = i by omega, show j - 1 + 1 = j by omega] at hs
      refine gg ?_
      refine ⟨_, ?_, j + 1, rfl, by omega, by omega, rfl, rfl, rfl, rfl, rfl, rfl, rfl, hE1013.trans (hE1315.trans (hE16.trans (hE17.trans hE18)))⟩
      omega
    clear k1 k2
    rintro f w11 ⟨hf3, hf4, hf10, hf11, hf12, hE11⟩
    rw [ui hf3, ui hf4, ui hf10, ui hf11, ui hf12]
    clear hf3 hf4 hf10 hf11 hf12
    have hE811 := hE.trans hE11
    have hT := (hSt.2 k (by omega)).ext hE811
    have k3 := hT.at (i := 0) (by omega)
    obtain ⟨x2, y2, p2, p2', hv2⟩ := hT.entry (i := 0) (j := 0) (by omega) (by omega)
    refine gg ?_
    refine R1_index0B sl_Int rfl (by omega) ?_
    refine gg ?_
    refine R1_storeBx (.inl rfl) rfl rfl (hL.ext hE11) (hv2.mono (Nb_le16 1 k (by omega))) ?_
    intro w12 hL12 hC12 hk12 hs12
    refine gg ?_
    refine ⟨_, ?_, k + 1, rfl, by omega, rfl, rfl, rfl, rfl, hC12.ext_of hE811 (fun b hb => by omega), hL12⟩
    omega
  clear hE9 hL
  rintro f w10 ⟨hf3, hf4, hE⟩
  rw [ui hf3, ui hf4]
  clear hf3 hf4
  refine W_seqD [(0, 3), (1, 3), (2, 3), (3, 3), (4, 3), (5, 0), (6, 3), (7, 0), (8, 3), (9, 0), (10, 3), (11, 1), (12, 1), (13, 3), (14, 1), (15, 3), (16, 3)] mixed (by kernel_rfl) (fun w11 hE11 _ => ?_)
  have hE811 := hE.trans hE11
  have k1 := cell_ext hE811 (hcell (n - 1) (by omega))
  have hT := (hSt.2 (n - 1) (by omega)).ext hE811
  have k3 := hT.at (i := 0) (by omega)
  obtain ⟨x2, y2, p2, p2', hv2⟩ := hT.entry (i := 0) (j := 0) (by omega) (by omega)
  have hd : stg X (n - 1) 0 0 = Go.Det.det n X := by
    rw [stg_ld fun q hq => hokl q (by omega)]
    unfold ldM
    rw [show n - 1 + 1 = n by omega]
  rw [hd] at hv2
  refine gg ?_
  refine R1_len sl_ssInt rfl ?_
  refine gg ?_
  refine R1_indexB sl_ssInt rfl rfl (by omega) ?_
  refine gg ?_
  refine R1_index0B sl_Int rfl (by omega) ?_
  refine gg ?_
  refine R1_call1 (rdet_ok _ n 1 X w11 ((hO.ext hE811).rd bX (Nat.le_refl _) hnb hnb) hn2 (by decide) (by decide)) ?_
  rintro _ w12 ⟨hE12, dx, dy, rfl, hcd⟩
  refine ⟨hE12, ?_⟩
  rw [detB_det] at hcd
  have q2 := hv2.mono (Nb_le16 1 (n - 1) (by omega))
  refine gg ?_
  refine R1_call1 (rsame_ok _ _ _ _ _ _ (Nb 1 16) (Nb 1 16) w12 ((q2.ext hE12).2 rfl) hcd (by omega) (by omega) q2.bd q2.bd) ?_
  rintro _ w13 ⟨hE13, rfl⟩
  refine ⟨hE13, ?_⟩
  rw [decide_eq_true rfl]
  refine gg ?_
  refine R1_call1 (awake4_ok w13) ?_
  rintro _ w14 ⟨hE14, rfl⟩
  refine ⟨hE14, ?_⟩
  refine gg ?_
  exact ret1 (v := .bool _) rfl rfl ⟨hE08.trans (hE811.trans (hE12.trans (hE13.trans hE14))), rfl⟩
end Go.Proofs.Ytcjhcefnedonlaa
