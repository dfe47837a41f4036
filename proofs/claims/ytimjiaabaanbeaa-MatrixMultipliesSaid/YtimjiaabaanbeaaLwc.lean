/- The law MatrixMultiplies. -/
import Derived.Test.YtimjiaabaanbeaaLwb
namespace Go.Proofs.Ytimjiaabaanbeaa
open Go Go.Eng Go.Num Go.Proofs

set_option maxHeartbeats 16000000 in
theorem lawMultiplies (va vb vx vy : Value) (r1 r2 rx cx nx ry cy ny : Nat) (len1 len2 : Nat → Nat) (X Y : Nat → Nat → Int) (L1 L2 : Nat → Nat → Nat) (nsx nsy : Nat → Int) (w : World)
    (ha : MatL w va r1 len1 X L1) (hb : MatL w vb r2 len2 Y L2) (hx : GridV w vx rx cx nx nsx) (hy : GridV w vy ry cy ny nsy) :
    Meets Try.prog 3 #[va, vb, vx, vy] w (Law w) := by
  obtain ⟨Ax, capx, rfl, hx1, hx2, hx3, hx4⟩ := hx
  obtain ⟨Ay, capy, rfl, hy1, hy2, hy3, hy4⟩ := hy
  refine fn_W (n := 76) Try.func3 rfl rfl (by kernel_rfl) (by simp) ?_
  have hw0 : Ext w w := Ext.refl _
  refine gg ?_
  refine R1_box (v := .agg _) (.inl rfl) rfl ?_
  intro w1 hB1 hE1 hs1
  refine gg ?_
  refine R1_box (v := .agg _) (.inl rfl) rfl ?_
  intro w2 hB2 hE2 hs2
  have hE02 := hE1.trans hE2
  obtain ⟨gX, hgX⟩ : ∃ g, g = w.heap.size := ⟨_, rfl⟩
  obtain ⟨gY, hgY⟩ : ∃ g, g = w1.heap.size := ⟨_, rfl⟩
  have hX2 : Blk w2 gX 25 #[.int .u8 ((rx : Nat) : Int), .int .u8 ((cx : Nat) : Int), .slice Ax nx capx] := by rw [hgX]; exact hB1.ext hE2
  have hY2 : Blk w2 gY 25 #[.int .u8 ((ry : Nat) : Int), .int .u8 ((cy : Nat) : Int), .slice Ay ny capy] := by rw [hgY]; exact hB2
  rw [← hgY, ← hgX]
  have hXY : gX < gY ∧ w.heap.size ≤ gX := by omega
  obtain ⟨hxy1, hxy2⟩ := hXY
  clear hB1 hB2 hs1 hs2 hgX hgY hE1 hE2
  refine gg ?_
  refine W_seq ?_
  refine gg ?_
  refine R1_call2 (large_ok va r1 len1 X L1 w2 (ha.ext hE02)) ?_
  rintro _ _ ⟨rfl, b1, rfl, hb1⟩
  rcases b1 with _ | _
  rotate_left
  · refine gg ?_
    refine R1_call2 (awake_ok w2) ?_
    rintro _ w3 ⟨hE3, rfl⟩
    refine gg ?_
    exact ret1 (v := .bool _) rfl rfl ⟨hE02.trans hE3, rfl⟩
  refine gg ?_
  refine R1_call2 (large_ok vb r2 len2 Y L2 w2 (hb.ext hE02)) ?_
  rintro _ _ ⟨rfl, b2, rfl, hb2⟩
  rcases b2 with _ | _
  rotate_left
  · refine gg ?_
    refine R1_call2 (awake_ok w2) ?_
    rintro _ w3 ⟨hE3, rfl⟩
    refine gg ?_
    exact ret1 (v := .bool _) rfl rfl ⟨hE02.trans hE3, rfl⟩
  have hSa := (hb1 rfl).e ha
  have hSb := (hb2 rfl).e hb
  have hr1 : r1 ≤ 600 := (hb1 rfl).1
  refine gg ?_
  refine R1_call2 (mul2_ok va vb r1 r2 600 len1 len2 X Y w2 (hSa.ext hE02) (hSb.ext hE02) (by decide)) ?_
  intro v w3 hv
  obtain ⟨Ac, mc, cc, rfl, hE3, hNc⟩ := hv.nm
  clear hv
  refine gg ?_
  refine R1_call2 (rmulM_ok va vb r1 r2 600 len1 len2 X Y w3 (hSa.ext (hE02.trans hE3)) (hSb.ext (hE02.trans hE3)) (by decide)) ?_
  intro v w4 hv
  obtain ⟨Ad, md, cd, rfl, hE4, hNd⟩ := hv.nm
  clear hv
  have hX4 := hX2.ext (hE3.trans hE4)
  have hY4 := hY2.ext (hE3.trans hE4)
  have hE04 := hE02.trans (hE3.trans hE4)
  have hx31 := blk31 hX4
  refine gg ?_
  refine R1_storeI (one_of rfl) (.inl rfl) rfl rfl hY4 (by simp) ?_
  intro w7 hY7 hC67 hs7
  have hY7 : Blk w7 gY 25 #[.int .u8 ((cx : Nat) : Int), .int .u8 ((cy : Nat) : Int), .slice Ay ny capy] := hY7
  have hX7 := hX4.ch hC67 (by omega)
  have hE7 : Ext w w7 := hC67.ext_of hE04 (fun b hb => by omega)
  have hNc7 := (hNc.ext hE4).keepU hY4 (noU_grid (by simp)) hC67 (by decide) (by decide)
  have hNd7 := hNd.keepU hY4 (noU_grid (by simp)) hC67 (by decide) (by decide)
  have hGx : ∀ w', Ext w w' → GridV w' (.agg #[.int .u8 ((rx : Nat) : Int), .int .u8 ((cx : Nat) : Int), .slice Ax nx capx]) rx cx nx nsx := fun w' h => ⟨Ax, capx, rfl, hx1, hx2, hx3, hx4.ext h⟩
  have hGy : ∀ w', Ext w w' → GridV w' (.agg #[.int .u8 ((cx : Nat) : Int), .int .u8 ((cy : Nat) : Int), .slice Ay ny capy]) cx cy ny nsy := fun w' h => ⟨Ay, capy, rfl, hx2, hy2, hy3, hy4.ext h⟩
  have hm1 := Nat.mod_lt rx (show 0 < 8 by decide)
  have hm2 := Nat.mod_lt cx (show 0 < 8 by decide)
  have hm3 := Nat.mod_lt cy (show 0 < 8 by decide)
  refine gg ?_
  refine W_seqD [(0, 0), (2, 0), (1, 1), (3, 1), (4, 1), (5, 3), (6, 3), (7, 3), (8, 3), (9, 3)] mixed (by kernel_rfl) (fun w8 hE8 _ => ?_)
  obtain ⟨x0, x1, x2⟩ := blkT (hX7.ext hE8)
  obtain ⟨y0, y1, y2⟩ := blkT (hY7.ext hE8)
  refine gg ?_
  refine R1_load3E (by decide) agg_Grid rfl x0 x1 x2 ?_
  refine gg ?_
  refine R1_load3E (by decide) agg_Grid rfl y0 y1 y2 ?_
  clear x0 x1 x2 y0 y1 y2
  refine gg ?_
  refine R1_callS (gridMatrix_ok _ rx cx nx 8 nsx w8 (hGx w8 (hE7.trans hE8)) (by decide) (by decide)) ?_
  rintro _ w9 ⟨hE9, g9, gs9, rfl, _, _, hO9⟩
  refine ⟨hE9, ?_⟩
  refine gg ?_
  refine R1_callS (gridMatrix_ok _ cx cy ny 8 nsy w9 (hGy w9 (hE7.trans (hE8.trans hE9))) (by decide) (by decide)) ?_
  rintro _ w10 ⟨hE10, g10, gs10, rfl, _, _, hO10⟩
  refine ⟨hE10, ?_⟩
  refine gg ?_
  refine R1_callS (mul2_ok _ _ (1 + rx % 8) (1 + cx % 8) 1 (fun _ => 1 + cx % 8) (fun _ => 1 + cy % 8) _ _ w10 ((hO9.ext hE10).read (fun i j _ _ => (hGx w hw0).bd _ i j) (by omega) (by omega)) (hO10.read (fun i j _ _ => (hGy w hw0).bd _ i j) (by omega) (by omega)) (by decide)) ?_
  intro v w11 hv
  obtain ⟨Ae, me, ce, rfl, hE11, hNe⟩ := hv.nm
  refine ⟨hE11, ?_⟩
  clear hv
  have hE11' := hE8.trans (hE9.trans (hE10.trans hE11))
  refine gg ?_
  refine W_seqD [(0, 0), (2, 0), (1, 1), (3, 1), (4, 1), (5, 3), (6, 3), (7, 3), (8, 3), (9, 3)] mixed (by kernel_rfl) (fun w12 hE12 _ => ?_)
  obtain ⟨x0, x1, x2⟩ := blkT (hX7.ext (hE11'.trans hE12))
  obtain ⟨y0, y1, y2⟩ := blkT (hY7.ext (hE11'.trans hE12))
  refine gg ?_
  refine R1_load3E (by decide) agg_Grid rfl x0 x1 x2 ?_
  refine gg ?_
  refine R1_load3E (by decide) agg_Grid rfl y0 y1 y2 ?_
  clear x0 x1 x2 y0 y1 y2
  refine gg ?_
  refine R1_callS (gridMatrix_ok _ rx cx nx 8 nsx w12 (hGx w12 (hE7.trans (hE11'.trans hE12))) (by decide) (by decide)) ?_
  rintro _ w13 ⟨hE13, g13, gs13, rfl, _, _, hO13⟩
  refine ⟨hE13, ?_⟩
  refine gg ?_
  refine R1_callS (gridMatrix_ok _ cx cy ny 8 nsy w13 (hGy w13 (hE7.trans (hE11'.trans (hE12.trans hE13)))) (by decide) (by decide)) ?_
  rintro _ w14 ⟨hE14, g14, gs14, rfl, _, _, hO14⟩
  refine ⟨hE14, ?_⟩
  refine gg ?_
  refine R1_callS (rmulM_ok _ _ (1 + rx % 8) (1 + cx % 8) 1 (fun _ => 1 + cx % 8) (fun _ => 1 + cy % 8) _ _ w14 ((hO13.ext hE14).read (fun i j _ _ => (hGx w hw0).bd _ i j) (by omega) (by omega)) (hO14.read (fun i j _ _ => (hGy w hw0).bd _ i j) (by omega) (by omega)) (by decide)) ?_
  intro v w15 hv
  obtain ⟨Af, mf, cf, rfl, hE15, hNf⟩ := hv.nm
  refine ⟨hE15, ?_⟩
  clear hv
  have hE15' := hE12.trans (hE13.trans (hE14.trans hE15))
  refine gg ?_
  rw [beq_self_eq_true]
  have hEq : Ext w7 w15 := hE11'.trans hE15'
  refine gg ?_
  refine R1_call2 (same_nm (N := 600 + 600 + 1) (hNc7.ext hEq) (hNd7.ext hEq) (fun hok i j hi hj => by
    obtain ⟨k1, rfl, k2, k3⟩ := okMul_len hok
    exact sumTo_bd (N := 600 + 600) (by omega) fun t ht => (hSa.bdE hi (by rw [k1 i hi]; exact ht)).mul (hSb.bdE ht (by rw [k3 t ht]; exact hj))) (fun _ => by omega) (fun hok => by
    simp only [okMul, Bool.and_eq_true] at hok
    have := (okM_iff.1 hok.1.2).1.2.2.2
    omega) (by decide)) ?_
  rintro _ w16 ⟨hE16, rfl⟩
  refine gg ?_
  rw [beq_self_eq_true]
  refine gg ?_
  refine R1_call2 (same_nm (N := 1 + 1 + 1) (hNe.ext (hE15'.trans hE16)) (hNf.ext hE16) (fun _ i j _ _ => sumTo_bd (N := 1 + 1) (by omega) fun t _ => ((hGx w hw0).bd _ i t).mul ((hGy w hw0).bd _ t j)) (fun _ => by omega) (fun _ => by omega) (by decide)) ?_
  rintro _ w17 ⟨hE17, rfl⟩
  refine gg ?_
  refine R1_call2 (awake_ok w17) ?_
  rintro _ w18 ⟨hE18, rfl⟩
  refine gg ?_
  exact ret1 (v := .bool _) rfl rfl ⟨hE7.trans (hEq.trans (hE16.trans (hE17.trans hE18))), rfl⟩
end Go.Proofs.Ytimjiaabaanbeaa
