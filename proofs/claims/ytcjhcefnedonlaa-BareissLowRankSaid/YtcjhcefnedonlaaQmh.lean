/- Joined: Lxh. -/
import Derived.Test.YtcjhcefnedonlaaQze
import Derived.Test.YtcjhcefnedonlaaQmf
import Derived.Test.YtcjhcefnedonlaaQi
/- The laws BareissRanks and BareissLowRank. -/
namespace Go.Proofs.Ytcjhcefnedonlaa
open Go Go.Eng Go.Num Go.Proofs
open Go.Det (Rk)

theorem RRk.v {w w' : World} {ok : Bool} {r c : Nat} {M : Nat → Nat → Int} {v : Value} (h : RRk w ok r c M v w') : ∃ k, v = .tuple #[.int .i64 ((k : Nat) : Int), .bool ok] ∧ Ext w w' ∧ (ok = false → k = 0) ∧ (ok = true → Rk r c M k) := by
  obtain ⟨hE, ⟨rfl, rfl⟩ | ⟨rfl, k, rfl, h⟩⟩ := h
  · exact ⟨0, rfl, hE, fun _ => rfl, (fun h => by cases h)⟩
  · exact ⟨k, rfl, hE, (fun h => by cases h), fun _ => h⟩
theorem rk_eq {ok : Bool} {r c k k' : Nat} {M : Nat → Nat → Int} (h1 : ok = false → k = 0) (h2 : ok = true → Rk r c M k) (h1' : ok = false → k' = 0) (h2' : ok = true → Rk r c M k') : k = k' := by
  cases ok with
  | false => rw [h1 rfl, h1' rfl]
  | true => exact (h2 rfl).unique (h2' rfl)

set_option maxHeartbeats 16000000 in
theorem lawRanks {vx va : Value} {rx cx nx r : Nat} {nsx : Nat → Int} {len : Nat → Nat} {M : Nat → Nat → Int} {L : Nat → Nat → Nat} {w : World} (hx : GridV w vx rx cx nx nsx) (ha : MatL w va r len M L) :
    Meets Try.prog 6 #[vx, va] w (Law w) := by
  obtain ⟨Ax, capx, rfl, hx1, hx2, hx3, hx4⟩ := hx
  refine fn_W (n := 59) Try.func6 rfl rfl (by kernel_rfl) (by simp) ?_
  have hGx := GridV.agg hx1 hx2 hx3 hx4
  have hX : Ext w w := Ext.refl w
  refine gg ?_
  refine R1_box (v := .agg _) (.inl rfl) rfl ?_
  intro w_1 hB0_ hE_ hs_
  have hX1 : Blk w_1 w.heap.size 24 #[.int .u8 ((rx : Nat) : Int), .int .u8 ((cx : Nat) : Int), .slice Ax nx capx] := hB0_
  obtain ⟨gX, hg_⟩ : ∃ g, g = w.heap.size := ⟨_, rfl⟩
  rw [← hg_] at hX1 ⊢
  have hfr_gX : w.heap.size ≤ gX := by have := hX.size; omega
  replace hX := hX.trans hE_
  clear hB0_ hs_ hg_ hE_
  refine gg ?_
  refine W_seq ?_
  refine gg ?_
  refine R1_call2 (large4_ok va r len M L w_1 (ha.ext hX)) ?_
  rintro _ _ ⟨rfl, b, rfl, hlg⟩
  cases b with
  | true =>
    refine gg ?_
    refine R1_call2 (awake4_ok w_1) ?_
    rintro _ w_2 ⟨hE_, rfl⟩
    replace hX1 := hX1.ext hE_
    replace hX := hX.trans hE_
    clear hE_
    refine gg ?_
    exact ret1 (v := .bool _) rfl rfl ⟨hX, rfl⟩
  | false =>
    have hA := (hlg rfl).e ha
    have hm1 := Nat.mod_lt rx (show 0 < 6 by decide)
    have hm2 := Nat.mod_lt cx (show 0 < 6 by decide)
    obtain ⟨n, hn⟩ : ∃ n, n = 1 + rx % 6 := ⟨_, rfl⟩
    obtain ⟨c, hc⟩ : ∃ c, c = 1 + cx % 6 := ⟨_, rfl⟩
    have hnb : n < 9223372036854775808 := by omega
    have hcb : c < 9223372036854775808 := by omega
    obtain ⟨X, hXd⟩ : ∃ X, X = gridM c nx nsx := ⟨_, rfl⟩
    have bX : ∀ i j, i < n → j < c → Bd 1 (X i j) := fun i j _ _ => by rw [hXd]; exact gridM_bd hx4 _ i j
    obtain ⟨x0, x1, x2⟩ := blkT hX1
    refine gg ?_
    refine R1_load3F (by decide) agg_Grid rfl x0 x1 x2 ?_
    clear x0 x1 x2
    refine gg ?_
    refine R1_call2 (gridMatrix_ok _ rx cx nx 6 nsx w_1 (hGx w_1 hX) (by decide) (by decide)) ?_
    rintro _ w_3 ⟨hE_, ga, gs, rfl, _, _, hO⟩
    replace hX1 := hX1.ext hE_
    replace hX := hX.trans hE_
    clear hE_
    rw [← hn, ← hc, ← hXd] at hO
    rw [← hn]
    refine gg ?_
    refine R1_call2 (rank_ok _ n 1 (fun _ => c) X w_3 (hO.rd bX (Nat.le_refl _) hnb hcb) (by decide) (by decide)) ?_
    intro v5 w5 h5
    obtain ⟨k5, rfl, hE5, e5, q5⟩ := h5.v
    replace hX := hX.trans hE5
    replace hX1 := hX1.ext hE5
    obtain ⟨x0, x1, x2⟩ := blkT hX1
    refine gg ?_
    refine R1_load3F (by decide) agg_Grid rfl x0 x1 x2 ?_
    clear x0 x1 x2
    refine gg ?_
    refine R1_call2 (gridMatrix_ok _ rx cx nx 6 nsx w5 (hGx w5 hX) (by decide) (by decide)) ?_
    rintro _ w_4 ⟨hE_, gb, gt, rfl, _, _, hO2⟩
    replace hX1 := hX1.ext hE_
    replace hX := hX.trans hE_
    clear hE_
    rw [← hn, ← hc, ← hXd] at hO2
    rw [← hn]
    refine gg ?_
    refine R1_call2 (rrank_ok _ n 1 (fun _ => c) X w_4 (hO2.rd bX (Nat.le_refl _) hnb hcb) (by decide) (by decide)) ?_
    intro v6 w6 h6
    obtain ⟨k6, rfl, hE6, e6, q6⟩ := h6.v
    replace hX := hX.trans hE6
    refine gg ?_
    refine R1_call2 (rank_ok _ r 600 len M w6 (hA.ext hX) (by decide) (by decide)) ?_
    intro v7 w7 h7
    obtain ⟨k7, rfl, hE7, e7, q7⟩ := h7.v
    replace hX := hX.trans hE7
    refine gg ?_
    refine R1_call2 (rrank_ok _ r 600 len M w7 (hA.ext hX) (by decide) (by decide)) ?_
    intro v8 w8 h8
    obtain ⟨k8, rfl, hE8, e8, q8⟩ := h8.v
    replace hX := hX.trans hE8
    obtain rfl := rk_eq e5 q5 e6 q6
    obtain rfl := rk_eq e7 q7 e8 q8
    have hbb : ∀ b : Bool, (b == b) = true := fun b => by cases b <;> rfl
    refine gg ?_
    rw [hbb]
    refine gg ?_
    rw [hbb]
    refine gg ?_
    refine R1_call2 (awake4_ok w8) ?_
    rintro _ w9 ⟨hE9, rfl⟩
    refine gg ?_
    exact ret1 (v := .bool _) rfl rfl ⟨hX.trans hE9, rfl⟩

set_option maxHeartbeats 16000000 in
theorem lawLowRank {vx vy : Value} {rx cx nx ry cy ny : Nat} {nsx nsy : Nat → Int} {w : World} (hx : GridV w vx rx cx nx nsx) (hy : GridV w vy ry cy ny nsy) :
    Meets Try.prog 7 #[vx, vy] w (Law w) := by
  obtain ⟨Ax, capx, rfl, hx1, hx2, hx3, hx4⟩ := hx
  obtain ⟨Ay, capy, rfl, hy1, hy2, hy3, hy4⟩ := hy
  refine fn_W (n := 93) Try.func7 rfl rfl (by kernel_rfl) (by simp) ?_
  have hGx := GridV.agg hx1 hx2 hx3 hx4
  have hGy := GridV.agg (r := cx) (c := cy) hx2 hy2 hy3 hy4
  have hX : Ext w w := Ext.refl w
  refine gg ?_
  refine R1_box (v := .agg _) (.inl rfl) rfl ?_
  intro w_1 hB0_ hE_ hs_
  have hX1 : Blk w_1 w.heap.size 24 #[.int .u8 ((rx : Nat) : Int), .int .u8 ((cx : Nat) : Int), .slice Ax nx capx] := hB0_
  obtain ⟨gX, hg_⟩ : ∃ g, g = w.heap.size := ⟨_, rfl⟩
  rw [← hg_] at hX1 ⊢
  have hfr_gX : w.heap.size ≤ gX := by have := hX.size; omega
  replace hX := hX.trans hE_
  clear hB0_ hs_ hg_ hE_
  refine gg ?_
  refine R1_box (v := .agg _) (.inl rfl) rfl ?_
  intro w_2 hB0_ hE_ hs_
  have hY1 : Blk w_2 w_1.heap.size 24 #[.int .u8 ((ry : Nat) : Int), .int .u8 ((cy : Nat) : Int), .slice Ay ny capy] := hB0_
  obtain ⟨gY, hg_⟩ : ∃ g, g = w_1.heap.size := ⟨_, rfl⟩
  rw [← hg_] at hY1 ⊢
  have hfr_gY : w.heap.size ≤ gY := by have := hX.size; omega
  have hne_gY_gX : gY ≠ gX := by have := hX1.lt; omega
  replace hX1 := hX1.ext hE_
  replace hX := hX.trans hE_
  clear hB0_ hs_ hg_ hE_
  have y1 := blk31 hX1
  refine gg ?_
  refine R1_storeI (one_of rfl) (.inl rfl) rfl rfl hY1 (by simp) ?_
  intro w3 hY3 hC_ hs_
  replace hY1 : Blk w3 gY 24 #[.int .u8 ((cx : Nat) : Int), .int .u8 ((cy : Nat) : Int), .slice Ay ny capy] := hY3
  replace hX1 := hX1.ch hC_ (by omega)
  replace hX := hC_.ext_of hX (fun b hb => by omega)
  clear y1 hY3 hC_ hs_
  have hm1 := Nat.mod_lt rx (show 0 < 5 by decide)
  have hm2 := Nat.mod_lt cx (show 0 < 5 by decide)
  have hm3 := Nat.mod_lt cy (show 0 < 5 by decide)
  obtain ⟨n, hn⟩ : ∃ n, n = 1 + rx % 5 := ⟨_, rfl⟩
  obtain ⟨c, hc⟩ : ∃ c, c = 1 + cx % 5 := ⟨_, rfl⟩
  obtain ⟨d, hd⟩ : ∃ d, d = 1 + cy % 5 := ⟨_, rfl⟩
  have hnb : n < 9223372036854775808 := by omega
  have hcb : c < 9223372036854775808 := by omega
  have hdb : d < 9223372036854775808 := by omega
  obtain ⟨X, hXd⟩ : ∃ X, X = gridM c nx nsx := ⟨_, rfl⟩
  have bX : ∀ i j, i < n → j < c → Bd 1 (X i j) := fun i j _ _ => by rw [hXd]; exact gridM_bd hx4 _ i j
  obtain ⟨Y, hYd⟩ : ∃ Y, Y = gridM d ny nsy := ⟨_, rfl⟩
  have bY : ∀ i j, i < c → j < d → Bd 1 (Y i j) := fun i j _ _ => by rw [hYd]; exact gridM_bd hy4 _ i j
  refine gg ?_
  refine gg ?_
  refine W_seqD [(0, 0), (2, 0), (1, 1), (3, 1), (4, 3), (5, 3)] mixed (by kernel_rfl) (fun w_3 hE_ _ => ?_)
  replace hX1 := hX1.ext hE_
  replace hY1 := hY1.ext hE_
  replace hX := hX.trans hE_
  clear hE_
  obtain ⟨x0, x1, x2⟩ := blkT hX1
  obtain ⟨y0, y1, y2⟩ := blkT hY1
  refine gg ?_
  refine R1_load3E (by decide) agg_Grid rfl x0 x1 x2 ?_
  refine gg ?_
  refine R1_load3E (by decide) agg_Grid rfl y0 y1 y2 ?_
  clear x0 x1 x2 y0 y1 y2
  refine gg ?_
  refine R1_call1 (gridMatrix_ok _ rx cx nx 5 nsx w_3 (hGx w_3 hX) (by decide) (by decide)) ?_
  rintro _ w_4 ⟨hE_, ga, gs, rfl, _, _, hO⟩
  refine ⟨hE_, ?_⟩
  replace hX1 := hX1.ext hE_
  replace hY1 := hY1.ext hE_
  replace hX := hX.trans hE_
  clear hE_
  rw [← hn, ← hc, ← hXd] at hO
  rw [← hn]
  refine gg ?_
  refine R1_call1 (gridMatrix_ok _ cx cy ny 5 nsy w_4 (hGy w_4 hX) (by decide) (by decide)) ?_
  rintro _ w_5 ⟨hE_, gb, gt, rfl, _, _, hO2⟩
  refine ⟨hE_, ?_⟩
  replace hX1 := hX1.ext hE_
  replace hY1 := hY1.ext hE_
  replace hO := hO.ext hE_
  replace hX := hX.trans hE_
  clear hE_
  rw [← hc, ← hd, ← hYd] at hO2
  rw [← hc]
  have hokX : okM n (fun _ => c) = true := okM_iff.2 ⟨⟨by omega, by omega, by omega, by omega⟩, fun _ _ => rfl⟩
  have hokY : okM c (fun _ => d) = true := okM_iff.2 ⟨⟨by omega, by omega, by omega, by omega⟩, fun _ _ => rfl⟩
  have hokT : okM c (fun _ => n) = true := okM_iff.2 ⟨⟨by omega, by omega, by omega, by omega⟩, fun _ _ => rfl⟩
  have hokP : okM n (fun _ => d) = true := okM_iff.2 ⟨⟨by omega, by omega, by omega, by omega⟩, fun _ _ => rfl⟩
  refine gg ?_
  refine R1_call2 (rtranspose_ok _ n 1 (fun _ => c) X w_5 (hO.rd bX (Nat.le_refl _) hnb hcb) (by decide)) ?_
  intro v4 w4 h4
  obtain ⟨_, rfl, hE4, gT, gsT, rfl, _, _, hT⟩ := h4.get hokX
  replace hX := hX.trans hE4
  replace hO := hO.ext hE4
  replace hO2 := hO2.ext hE4
  clear h4 hE4 hX1 hY1
  refine gg ?_
  refine R1_call2 (rank_ok _ n 1 (fun _ => c) X w4 (hO.rd bX (Nat.le_refl _) hnb hcb) (by decide) (by decide)) ?_
  intro v5 w5 h5
  obtain ⟨k5, rfl, hE5, _, q5⟩ := h5.v
  replace hX := hX.trans hE5
  replace hO := hO.ext hE5
  replace hO2 := hO2.ext hE5
  replace hT := hT.ext hE5
  rw [hokX]
  clear h5 hE5
  refine gg ?_
  refine R1_call2 (rank_ok _ c 1 (fun _ => d) Y w5 (hO2.rd bY (Nat.le_refl _) hcb hdb) (by decide) (by decide)) ?_
  intro v6 w6 h6
  obtain ⟨k6, rfl, hE6, _, q6⟩ := h6.v
  replace hX := hX.trans hE6
  replace hO := hO.ext hE6
  replace hO2 := hO2.ext hE6
  replace hT := hT.ext hE6
  rw [hokY]
  clear h6 hE6
  refine gg ?_
  refine R1_call2 (rank_ok _ c 1 (fun _ => n) (fun i j => X j i) w6 (hT.rd (fun i j hi hj => bX j i hj hi) (Nat.le_refl _) hcb hnb) (by decide) (by decide)) ?_
  intro v7 w7 h7
  obtain ⟨k7, rfl, hE7, _, q7⟩ := h7.v
  replace hX := hX.trans hE7
  replace hO := hO.ext hE7
  replace hO2 := hO2.ext hE7
  rw [hokT]
  clear h7 hE7 hT
  refine gg ?_
  refine R1_call2 (rproduct_ok _ _ n c 1 (fun _ => c) (fun _ => d) X Y w7 (hO.rd bX (Nat.le_refl _) hnb hcb) (hO2.rd bY (Nat.le_refl _) hcb hdb) (by decide)) ?_
  intro v8 w8 h8
  obtain ⟨hE8, gP, gsP, rfl, _, _, hP⟩ := h8.get (by unfold okMul; rw [hokX, hokY]; simp)
  replace hX := hX.trans hE8
  replace hO := hO.ext hE8
  clear h8 hE8 hO2
  have bP : ∀ i j, i < n → j < d → Bd 3 (mulM c X Y i j) := fun i j hi hj => (sumTo_bd (N := 2) (by omega) fun k hk => (bX i k hi hk).mul (bY k j hk hj))
  refine gg ?_
  refine R1_call2 (rank_ok _ n 3 (fun _ => d) (mulM c X Y) w8 (hP.rd bP (Nat.le_refl _) hnb hdb) (by decide) (by decide)) ?_
  intro v9 w9 h9
  obtain ⟨k9, rfl, hE9, _, q9⟩ := h9.v
  replace hX := hX.trans hE9
  replace hO := hO.ext hE9
  rw [hokP]
  clear h9 hE9 hP
  have r5 := q5 hokX
  have r6 := q6 hokY
  have r7 := q7 hokT
  have r9 := q9 hokP
  rw [mulM_mul] at r9
  obtain rfl : k5 = k7 := r5.tr.unique r7
  have l1 : k9 ≤ k5 := (r5.2.mul).le r9.1
  have l2 : k9 ≤ k6 := (r6.2.mulL).le r9.1
  have l3 : k5 ≤ n := (Go.Det.Low.rows n c X).le r5.1
  have l4 : k5 ≤ c := (Go.Det.Low.cols n c X).le r5.1
  have hc0 := (hO.wm true bX).at (i := 0) (by omega)
  refine gg ?_
  refine R1_call2 (awake4_ok w9) ?_
  rintro _ w10 ⟨hE10, rfl⟩
  refine gg ?_
  exact ret1 (v := .bool _) rfl rfl ⟨hX.trans hE10, rfl⟩
end Go.Proofs.Ytcjhcefnedonlaa
