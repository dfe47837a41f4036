/- Joined: Lwd. -/
import Derived.Test.YtimjiaabaanbeaaQi
/- The law MatrixMultiplicative. -/
namespace Go.Proofs.Ytimjiaabaanbeaa
open Go Go.Eng Go.Num Go.Proofs

set_option maxHeartbeats 16000000 in
theorem lawMultiplicative {vx vy vz : Value} {rx cx nx ry cy ny rz cz nz : Nat} {nsx nsy nsz : Nat → Int} {w : World}
    (hx : GridV w vx rx cx nx nsx) (hy : GridV w vy ry cy ny nsy) (hz : GridV w vz rz cz nz nsz) :
    Meets Try.prog 12 #[vx, vy, vz] w (Law w) := by
  obtain ⟨Ax, capx, rfl, hx1, hx2, hx3, hx4⟩ := hx
  obtain ⟨Ay, capy, rfl, hy1, hy2, hy3, hy4⟩ := hy
  obtain ⟨Az, capz, rfl, hz1, hz2, hz3, hz4⟩ := hz
  refine fn_W (n := 138) Try.func12 rfl rfl (by kernel_rfl) (by simp) ?_
  refine gg ?_
  refine R1_box (v := .agg _) (.inl rfl) rfl ?_
  intro w1 hB1 hE1 hs1
  refine gg ?_
  refine R1_box (v := .agg _) (.inl rfl) rfl ?_
  intro w2 hB2 hE2 hs2
  refine gg ?_
  refine R1_box (v := .agg _) (.inl rfl) rfl ?_
  intro w3 hB3 hE3 hs3
  have hE03 := (hE1.trans hE2).trans hE3
  obtain ⟨gX, hgX⟩ : ∃ g, g = w.heap.size := ⟨_, rfl⟩
  obtain ⟨gY, hgY⟩ : ∃ g, g = w1.heap.size := ⟨_, rfl⟩
  obtain ⟨gZ, hgZ⟩ : ∃ g, g = w2.heap.size := ⟨_, rfl⟩
  have hX3 : Blk w3 gX 25 #[.int .u8 ((rx : Nat) : Int), .int .u8 ((cx : Nat) : Int), .slice Ax nx capx] := by rw [hgX]; exact hB1.ext (hE2.trans hE3)
  have hY3 : Blk w3 gY 25 #[.int .u8 ((ry : Nat) : Int), .int .u8 ((cy : Nat) : Int), .slice Ay ny capy] := by rw [hgY]; exact hB2.ext hE3
  have hZ3 : Blk w3 gZ 25 #[.int .u8 ((rz : Nat) : Int), .int .u8 ((cz : Nat) : Int), .slice Az nz capz] := by rw [hgZ]; exact hB3
  rw [← hgY, ← hgX, ← hgZ]
  have hXY : gX < gY ∧ gY < gZ ∧ w.heap.size ≤ gX := by omega
  obtain ⟨hxy1, hxy2, hxy3⟩ := hXY
  clear hB1 hB2 hB3 hs1 hs2 hs3 hgX hgY hgZ hE1 hE2 hE3
  refine gg ?_
  refine W_seqDM (fun b => b = gY ∨ b = gZ) [(0, 3), (1, 0), (2, 3), (3, 0), (4, 3), (5, 1), (6, 3), (7, 2)] mixed (by kernel_rfl) (fun w4 hE4 _ => ?_)
  have hX4 := hX3.ext hE4
  have hY4 := hY3.ext hE4
  have hZ4 := hZ3.ext hE4
  refine gg ?_
  refine R1_load1M (by decide) (one_of rfl) rfl (blk30 hX4) (by show ¬ (gX = gY ∨ gX = gZ); omega) ?_
  refine gg ?_
  refine R1_load1M (by decide) (one_of rfl) rfl (blk30 hX4) (by show ¬ (gX = gY ∨ gX = gZ); omega) ?_
  refine gg ?_
  refine R1_storeI (one_of rfl) (.inr ⟨rfl, fun _ h => h.mono fun _ _ e => .inl e⟩) rfl rfl hY4 (by simp) ?_
  intro w5 hY5 hC5 hs5
  have hZ5 := hZ4.ch hC5 (by omega)
  refine gg ?_
  refine R1_storeI (one_of rfl) (.inl rfl) rfl rfl hZ5 (by simp) ?_
  intro w6 hZ6 hC6 hs6
  have hY6 : Blk w6 gY 25 #[.int .u8 ((rx : Nat) : Int), .int .u8 ((cy : Nat) : Int), .slice Ay ny capy] := hY5.ch hC6 (by omega)
  have hZ6 : Blk w6 gZ 25 #[.int .u8 ((rx : Nat) : Int), .int .u8 ((cz : Nat) : Int), .slice Az nz capz] := hZ6
  have hX6 := (hX4.ch hC5 (by omega)).ch hC6 (by omega)
  have hE6 : Ext w w6 := hC6.ext_of (hC5.ext_of (hE03.trans hE4) (fun b hb => by omega)) (fun b hb => by omega)
  have hGx := GridV.agg hx1 hx2 hx3 hx4
  have hGy := GridV.agg (r := rx) (c := cy) hx1 hy2 hy3 hy4
  have hGz := GridV.agg (r := rx) (c := cz) hx1 hz2 hz3 hz4
  clear hX3 hX4 hY3 hY4 hY5 hZ3 hZ4 hZ5 hC5 hC6 hs5 hs6 hE4 hE03
  have hm1 := Nat.mod_lt rx (show 0 < 4 by decide)
  obtain ⟨n, hn⟩ : ∃ n, n = 1 + rx % 4 := ⟨_, rfl⟩
  obtain ⟨X, hX⟩ : ∃ X, X = gridM n nx nsx := ⟨_, rfl⟩
  obtain ⟨Y, hY⟩ : ∃ Y, Y = gridM n ny nsy := ⟨_, rfl⟩
  obtain ⟨Z, hZ⟩ : ∃ Z, Z = gridM n nz nsz := ⟨_, rfl⟩
  have bX : ∀ i j, i < n → j < n → Bd 1 (X i j) := fun i j _ _ => by rw [hX]; exact gridM_bd hx4 _ i j
  have bY : ∀ i j, i < n → j < n → Bd 1 (Y i j) := fun i j _ _ => by rw [hY]; exact gridM_bd hy4 _ i j
  have bZ : ∀ i j, i < n → j < n → Bd 1 (Z i j) := fun i j _ _ => by rw [hZ]; exact gridM_bd hz4 _ i j
  have hn1 : 1 ≤ n := by omega
  have hn2 : n ≤ 16 := by omega
  have hnb : n < 9223372036854775808 := by omega
  refine gg ?_
  refine W_seqD [(0, 0), (2, 0), (4, 0), (1, 1), (3, 1), (5, 1), (6, 3), (7, 3), (8, 3)] mixed (by kernel_rfl) (fun w7 hE7 _ => ?_)
  obtain ⟨x0, x1, x2⟩ := blkT (hX6.ext hE7)
  obtain ⟨y0, y1, y2⟩ := blkT (hY6.ext hE7)
  obtain ⟨z0, z1, z2⟩ := blkT (hZ6.ext hE7)
  refine gg ?_
  refine R1_load3E (by decide) agg_Grid rfl x0 x1 x2 ?_
  refine gg ?_
  refine R1_load3E (by decide) agg_Grid rfl y0 y1 y2 ?_
  refine gg ?_
  refine R1_load3E (by decide) agg_Grid rfl z0 z1 z2 ?_
  clear x0 x1 x2 y0 y1 y2 z0 z1 z2
  refine gg ?_
  refine R1_callS (gridSquare_ok _ rx cx nx 4 nsx w7 (hGx w7 (hE6.trans hE7)) (by decide) (by decide)) ?_
  rintro _ w8 ⟨hE8, gx, gsx, rfl, _, _, hOx⟩
  refine ⟨hE8, ?_⟩
  refine gg ?_
  refine R1_callS (gridSquare_ok _ rx cy ny 4 nsy w8 (hGy w8 (hE6.trans (hE7.trans hE8))) (by decide) (by decide)) ?_
  rintro _ w9 ⟨hE9, gy, gsy, rfl, _, _, hOy⟩
  refine ⟨hE9, ?_⟩
  refine gg ?_
  refine R1_callS (gridSquare_ok _ rx cz nz 4 nsz w9 (hGz w9 (hE6.trans (hE7.trans (hE8.trans hE9)))) (by decide) (by decide)) ?_
  rintro _ w10 ⟨hE10, gz, gsz, rfl, _, _, hOz⟩
  refine ⟨hE10, ?_⟩
  rw [← hn] at hOx hOy hOz ⊢
  rw [← hX] at hOx
  rw [← hY] at hOy
  rw [← hZ] at hOz
  have hE := hE6.trans (hE7.trans (hE8.trans (hE9.trans hE10)))
  have hOx := hOx.ext (hE9.trans hE10)
  have hOy := hOy.ext hE10
  clear hE6 hE7 hE8 hE9 hE10 hX6 hY6 hZ6 hGx hGy hGz hX hY hZ
  have bXY : ∀ i j, i < n → j < n → Bd 3 (mulM n X Y i j) := fun i j hi hj => mulM_bd (N := 1) (N' := 1) hn2 (fun t ht => bX i t hi ht) (fun t ht => bY t j ht hj)
  have bYZ : ∀ i j, i < n → j < n → Bd 3 (mulM n Y Z i j) := fun i j hi hj => mulM_bd (N := 1) (N' := 1) hn2 (fun t ht => bY i t hi ht) (fun t ht => bZ t j ht hj)
  have bL : ∀ i j, i < n → j < n → Bd 5 (mulM n (mulM n X Y) Z i j) := fun i j hi hj => mulM_bd (N := 3) (N' := 1) hn2 (fun t ht => bXY i t hi ht) (fun t ht => bZ t j ht hj)
  refine gg ?_
  refine R1_call2 (mulT_ok (N := 3) (hOx.rd bX (by decide) hnb hnb) (hOy.rd bY (by decide) hnb hnb) (by decide) hn1 hn2 hn1 hn2 hn1 hn2) ?_
  rintro _ w11 ⟨hE11, gab, gsab, rfl, hOab⟩
  have hOx := hOx.ext hE11
  have hOy := hOy.ext hE11
  have hOz := hOz.ext hE11
  refine gg ?_
  refine R1_call2 (mulT_ok (N := 3) (hOy.rd bY (by decide) hnb hnb) (hOz.rd bZ (by decide) hnb hnb) (by decide) hn1 hn2 hn1 hn2 hn1 hn2) ?_
  rintro _ w12 ⟨hE12, gbc, gsbc, rfl, hObc⟩
  have hOx := hOx.ext hE12
  have hOy := hOy.ext hE12
  have hOz := hOz.ext hE12
  have hOab := hOab.ext hE12
  refine gg ?_
  refine R1_call2 (mulT_ok (N := 3) (hOab.rd bXY (by decide) hnb hnb) (hOz.rd bZ (by decide) hnb hnb) (by decide) hn1 hn2 hn1 hn2 hn1 hn2) ?_
  rintro _ w13 ⟨hE13, gl, gsl, rfl, hOl⟩
  have hOx := hOx.ext hE13
  have hOy := hOy.ext hE13
  have hOab := hOab.ext hE13
  have hObc := hObc.ext hE13
  refine gg ?_
  refine R1_call2 (mulT_ok (N := 3) (hOx.rd bX (by decide) hnb hnb) (hObc.rd bYZ (by decide) hnb hnb) (by decide) hn1 hn2 hn1 hn2 hn1 hn2) ?_
  rintro _ w14 ⟨hE14, gr, gsr, rfl, hOr⟩
  have hOx := hOx.ext hE14
  have hOy := hOy.ext hE14
  have hOab := hOab.ext hE14
  have hOl := hOl.ext hE14
  clear hObc hOz
  refine gg ?_
  refine R1_call2 (transposeT_ok (N := 3) (hOx.rd bX (by decide) hnb hnb) (by decide) hn1 hn2 hn1 hn2) ?_
  rintro _ w15 ⟨hE15, gat, gsat, rfl, hOat⟩
  have hOx := hOx.ext hE15
  have hOy := hOy.ext hE15
  have hOab := hOab.ext hE15
  have hOl := hOl.ext hE15
  have hOr := hOr.ext hE15
  refine gg ?_
  refine R1_call2 (transposeT_ok (N := 3) (hOy.rd bY (by decide) hnb hnb) (by decide) hn1 hn2 hn1 hn2) ?_
  rintro _ w16 ⟨hE16, gbt, gsbt, rfl, hObt⟩
  have hOx := hOx.ext hE16
  have hOy := hOy.ext hE16
  have hOab := hOab.ext hE16
  have hOl := hOl.ext hE16
  have hOr := hOr.ext hE16
  have hOat := hOat.ext hE16
  refine gg ?_
  refine R1_call2 (transposeT_ok (N := 3) (hOab.rd bXY (by decide) hnb hnb) (by decide) hn1 hn2 hn1 hn2) ?_
  rintro _ w17 ⟨hE17, gabt, gsabt, rfl, hOabt⟩
  have hOx := hOx.ext hE17
  have hOy := hOy.ext hE17
  have hOab := hOab.ext hE17
  have hOl := hOl.ext hE17
  have hOr := hOr.ext hE17
  have hOat := hOat.ext hE17
  have hObt := hObt.ext hE17
  refine gg ?_
  refine R1_call2 (mulT_ok (N := 3) (hObt.rd (fun i j hi hj => bY j i hj hi) (by decide) hnb hnb) (hOat.rd (fun i j hi hj => bX j i hj hi) (by decide) hnb hnb) (by decide) hn1 hn2 hn1 hn2 hn1 hn2) ?_
  rintro _ w18 ⟨hE18, gp, gsp, rfl, hOp⟩
  have hOx := hOx.ext hE18
  have hOy := hOy.ext hE18
  have hOab := hOab.ext hE18
  have hOl := hOl.ext hE18
  have hOr := hOr.ext hE18
  have hOabt := hOabt.ext hE18
  clear hOat hObt
  have hE := hE.trans (hE11.trans (hE12.trans (hE13.trans (hE14.trans (hE15.trans (hE16.trans (hE17.trans hE18)))))))
  clear hE11 hE12 hE13 hE14 hE15 hE16 hE17 hE18
  have hd1 := detB_bd (n := n) (by decide : 1 ≤ 3) (fun i j hi hj => (bX i j hi hj).mono (by decide : 1 ≤ 3))
  have hd2 := detB_bd (n := n) (by decide : 1 ≤ 3) (fun i j hi hj => (bY i j hi hj).mono (by decide : 1 ≤ 3))
  have hd3 := detB_bd (n := n) (by decide : 1 ≤ 3) bXY
  have hNb : Nb 3 n < 68719476736 := Nb_big (by decide) hn2
  refine gg ?_
  refine R1_call2 (detT_ok (N := 3) (hOx.rd bX (by decide) hnb hnb) (by decide) (by decide) hn1 hn2) ?_
  rintro _ w19 ⟨hE19, xd, yd, rfl, hcd⟩
  refine gg ?_
  refine R1_alloc (.inl rfl) z_Int ?_
  intro w20 hB20 hE20 hs20
  have hD20 : Bx w20 w19.heap.size 1 true 0 := Bx.zero true hB20
  obtain ⟨gD, hgD⟩ : ∃ g, g = w19.heap.size := ⟨_, rfl⟩
  rw [← hgD] at hD20 ⊢
  have hw19 := (hE.trans hE19).size
  refine gg ?_
  refine R1_storeBx (.inl rfl) rfl rfl hD20 ((hcd.ext hE20).ev true hd1) ?_
  intro w21 hD hC21 hk21 hs21
  have hE21 : Ext w w21 := hC21.ext_of (hE.trans (hE19.trans hE20)) (fun b hb => by omega)
  have hE18_21 : Ext w18 w21 := hC21.ext_of (hE19.trans hE20) (fun b hb => by have := hE19.size; omega)
  have hOy := hOy.ext hE18_21
  have hOab := hOab.ext hE18_21
  have hOl := hOl.ext hE18_21
  have hOr := hOr.ext hE18_21
  have hOabt := hOabt.ext hE18_21
  have hOp := hOp.ext hE18_21
  clear hD20 hB20 hE20 hE19 hs20 hs21 hcd hC21 hk21 hgD hw19 hE hE18_21 hOx
  refine gg ?_
  refine R1_call2 (detT_ok (N := 3) (hOy.rd bY (by decide) hnb hnb) (by decide) (by decide) hn1 hn2) ?_
  rintro _ w22 ⟨hE22, xe, ye, rfl, hce⟩
  refine gg ?_
  refine R1_alloc (.inl rfl) z_Int ?_
  intro w23 hB23 hE23 hs23
  have hF23 : Bx w23 w22.heap.size 1 true 0 := Bx.zero true hB23
  obtain ⟨gE, hgE⟩ : ∃ g, g = w22.heap.size := ⟨_, rfl⟩
  rw [← hgE] at hF23 ⊢
  have hw22 := (hE21.trans hE22).size
  refine gg ?_
  refine R1_storeBx (.inl rfl) rfl rfl hF23 ((hce.ext hE23).ev true hd2) ?_
  intro w24 hF hC24 hk24 hs24
  have hE24 : Ext w w24 := hC24.ext_of (hE21.trans (hE22.trans hE23)) (fun b hb => by omega)
  have hE21_24 : Ext w21 w24 := hC24.ext_of (hE22.trans hE23) (fun b hb => by have := hE22.size; omega)
  have hOab := hOab.ext hE21_24
  have hOl := hOl.ext hE21_24
  have hOr := hOr.ext hE21_24
  have hOabt := hOabt.ext hE21_24
  have hOp := hOp.ext hE21_24
  have hD := hD.ext hE21_24
  clear hF23 hB23 hE23 hE22 hs23 hs24 hce hC24 hk24 hgE hw22 hE21 hE21_24 hOy
  refine gg ?_
  refine R1_call2 (detT_ok (N := 3) (hOab.rd bXY (by decide) hnb hnb) (by decide) (by decide) hn1 hn2) ?_
  rintro _ w25 ⟨hE25, xf, yf, rfl, hcf⟩
  refine gg ?_
  refine R1_alloc (.inl rfl) z_Int ?_
  intro w26 hB26 hE26 hs26
  have hG26 : Bx w26 w25.heap.size 1 true 0 := Bx.zero true hB26
  obtain ⟨gF, hgF⟩ : ∃ g, g = w25.heap.size := ⟨_, rfl⟩
  rw [← hgF] at hG26 ⊢
  have hw25 := (hE24.trans hE25).size
  refine gg ?_
  refine R1_storeBx (.inl rfl) rfl rfl hG26 ((hcf.ext hE26).ev true hd3) ?_
  intro w27 hG hC27 hk27 hs27
  have hE27 : Ext w w27 := hC27.ext_of (hE24.trans (hE25.trans hE26)) (fun b hb => by omega)
  have hE24_27 : Ext w24 w27 := hC27.ext_of (hE25.trans hE26) (fun b hb => by have := hE25.size; omega)
  have hOl := hOl.ext hE24_27
  have hOr := hOr.ext hE24_27
  have hOabt := hOabt.ext hE24_27
  have hOp := hOp.ext hE24_27
  have hD := hD.ext hE24_27
  have hF := hF.ext hE24_27
  clear hG26 hB26 hE26 hE25 hs26 hs27 hcf hC27 hk27 hgF hw25 hE24 hE24_27 hOab
  refine gg ?_
  refine W_seqD [(0, 3), (1, 3), (2, 3), (3, 3), (4, 3), (5, 3), (6, 3), (7, 3), (8, 3), (9, 3), (10, 3), (11, 3), (12, 3), (13, 3), (14, 3), (15, 3), (16, 3), (17, 1), (18, 3), (19, 3), (20, 3), (21, 3), (22, 1), (23, 3), (24, 3), (25, 0), (26, 0), (27, 0), (28, 1), (29, 1), (30, 3), (31, 3), (32, 1), (33, 3), (34, 3)] mixed (by kernel_rfl) (fun w28 hE28 _ => ?_)
  have hOl := hOl.ext hE28
  have hOr := hOr.ext hE28
  have hOabt := hOabt.ext hE28
  have hOp := hOp.ext hE28
  refine gg ?_
  refine R1_callS (same_o (N := 5) hOl hOr (fun i j _ _ => mulM_assoc n X Y Z i j) bL hnb hnb (by decide)) ?_
  rintro _ w29 ⟨hE29, rfl⟩
  refine ⟨hE29, ?_⟩
  refine gg ?_
  refine R1_callS (same_o (N := 3) (hOabt.ext hE29) (hOp.ext hE29) (fun i j _ _ => mulM_tr n X Y i j) (fun i j hi hj => bXY j i hj hi) hnb hnb (by decide)) ?_
  rintro _ w30 ⟨hE30, rfl⟩
  refine ⟨hE30, ?_⟩
  have hEE := hE28.trans (hE29.trans hE30)
  obtain ⟨dx, dy, hDB, hDv⟩ := hD.ext hEE
  obtain ⟨ex, ey, hFB, hFv⟩ := hF.ext hEE
  obtain ⟨fx, fy, hGB, hGv⟩ := hG.ext hEE
  obtain ⟨p1, p2⟩ := blkP hDB
  obtain ⟨p3, p4⟩ := blkP hFB
  obtain ⟨p5, p6⟩ := blkP hGB
  refine gg ?_
  refine R1_callS (rmul_ok _ _ _ _ _ _ _ w30 hDv.1 hFv.1 (by omega)) ?_
  rintro _ w31 ⟨hE31, mx, my, rfl, hcm⟩
  refine ⟨hE31, ?_⟩
  refine gg ?_
  refine R1_callS (rsame_ok _ _ _ _ _ _ (Nb 3 n) (Nb 3 n + Nb 3 n) w31 ((hGv.2 rfl).ext hE31) hcm (by omega) (by omega) hd3 (hd1.mul hd2)) ?_
  rintro _ w32 ⟨hE32, rfl⟩
  refine ⟨hE32, ?_⟩
  rw [detB_mul, decide_eq_true rfl]
  refine gg ?_
  refine R1_callS (awake_ok w32) ?_
  rintro _ w33 ⟨hE33, rfl⟩
  refine ⟨hE33, ?_⟩
  refine gg ?_
  exact ret1 (v := .bool _) rfl rfl ⟨hE27.trans (hEE.trans (hE31.trans (hE32.trans hE33))), rfl⟩
end Go.Proofs.Ytimjiaabaanbeaa
