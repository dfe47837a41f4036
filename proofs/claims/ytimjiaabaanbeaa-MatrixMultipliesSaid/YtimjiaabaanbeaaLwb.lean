/- The laws MatrixAdds, MatrixMultiplies. -/
import Derived.Test.YtimjiaabaanbeaaLrg
import Derived.Test.YtimjiaabaanbeaaMatn
import Derived.Test.YtimjiaabaanbeaaMak
namespace Go.Proofs.Ytimjiaabaanbeaa
open Go Go.Eng Go.Num Go.Proofs

/-- a new matrix, or nil -/
def NM (w : World) (ok : Bool) (r c : Nat) (M : Nat → Nat → Int) (v : Value) : Prop := if ok then ∃ gO gs, v = .slice (some ⟨gO, 0, none⟩) r r ∧ OMat w gO gs r c M else v = .slice none 0 0
theorem NM.ext {w w' : World} {ok : Bool} {r c : Nat} {M : Nat → Nat → Int} {v : Value} (h : NM w ok r c M v) (hE : Ext w w') : NM w' ok r c M v := by
  unfold NM at *
  split
  · rename_i e; rw [if_pos e] at h; obtain ⟨gO, gs, e, hO⟩ := h; exact ⟨gO, gs, e, hO.ext hE⟩
  · rename_i e; rw [if_neg e] at h; exact h
theorem RMB.nm {w w' : World} {ok : Bool} {r c : Nat} {M : Nat → Nat → Int} {v : Value} (h : RMB w ok r c M v w') : ∃ A m cp, v = .tuple #[.slice A m cp, .bool ok] ∧ Ext w w' ∧ NM w' ok r c M (.slice A m cp) := by
  unfold RMB at h
  cases ok
  · obtain ⟨hE, rfl⟩ := h; exact ⟨_, _, _, rfl, hE, rfl⟩
  · obtain ⟨u, rfl, hE, gO, gs, rfl, _, _, hO⟩ := h; exact ⟨_, _, _, rfl, hE, gO, gs, rfl, hO⟩
theorem RMN.nm {w w' : World} {ok : Bool} {r c : Nat} {M : Nat → Nat → Int} {v : Value} (h : RMN w ok r c M v w') : ∃ A m cp, v = .slice A m cp ∧ Ext w w' ∧ NM w' ok r c M (.slice A m cp) := by
  unfold RMN at h
  cases ok
  · obtain ⟨hE, rfl⟩ := h; exact ⟨_, _, _, rfl, hE, rfl⟩
  · obtain ⟨hE, gO, gs, rfl, _, _, hO⟩ := h; exact ⟨_, _, _, rfl, hE, gO, gs, rfl, hO⟩
theorem NM.readC {w : World} {ok : Bool} {r c N : Nat} {M : Nat → Nat → Int} {v : Value} (h : NM w ok r c M v) (hN : ok = true → ∀ i j, i < r → j < c → Bd N (M i j)) (hr : ok = true → r < 9223372036854775808) (hc : ok = true → c < 9223372036854775808) : MatE (EC N) w v (if ok then r else 0) (fun _ => c) M := by
  unfold NM at h
  cases ok
  · rw [if_neg (by decide)] at h ⊢; subst h; exact matC_nil _ _ _ _
  · rw [if_pos rfl] at h ⊢; obtain ⟨gO, gs, rfl, hO⟩ := h; exact hO.readC (hN rfl) (hr rfl) (hc rfl)
theorem MatE.bdE {w : World} {v : Value} {r N i j : Nat} {len : Nat → Nat} {M : Nat → Nat → Int} (h : MatE (EI N) w v r len M) (hi : i < r) (hj : j < len i) : Bd N (M i j) := by
  obtain ⟨A, cap, rfl, h1, h2, h3⟩ := h
  obtain ⟨ad, u, e, hu, A', cap', rfl, k1, k2, k3⟩ := h3 i hi
  obtain ⟨ad', x, y, e', hx, hy, hv⟩ := k3 j hj
  exact IV.bd hv
/-- the two answers are the same -/
theorem same_nm {w : World} {ok : Bool} {r c N : Nat} {M : Nat → Nat → Int} {v v' : Value} (h : NM w ok r c M v) (h' : NM w ok r c M v') (hN : ok = true → ∀ i j, i < r → j < c → Bd N (M i j)) (hr : ok = true → r < 9223372036854775808) (hc : ok = true → c < 9223372036854775808) (hN2 : N < 1099511627776) :
    Meets Try.prog 20 #[v, v'] w fun u w' => Ext w w' ∧ u = .bool true :=
  (rsameM_ok v v' _ _ N _ _ M M w (h.readC hN hr hc) (h'.readC hN hr hc) hN2).mono fun _ _ ⟨hE, _, e, hb⟩ => ⟨hE, by rw [e, hb.2 sameM_refl]⟩
theorem Mag.keepU {w w' : World} {g T : Nat} {cs : Array Value} {A : Option Addr} {l : List Nat} (h : Mag w A l) (hb : Blk w g T cs) (hn : NoU cs) (hC : Ch (fun b => b = g) w w') : Mag w' A l :=
  ⟨h.lim, fun j hj => by
    obtain ⟨ad, e, hc⟩ := h.cell j hj
    refine ⟨ad, e, ?_⟩
    rw [← hc]
    refine cell_ch hC (World.block_lt_of_cell? w _ hc) (fun hg => ?_)
    obtain ⟨i, hi⟩ := cell_blk hb hg hc
    exact hn _ _ hi⟩
theorem CV.keepU {w w' : World} {g T : Nat} {cs : Array Value} {x y : Value} {z : Int} (h : CV w x y z) (hb : Blk w g T cs) (hn : NoU cs) (hC : Ch (fun b => b = g) w w') : CV w' x y z := by
  obtain ⟨neg, A, l, c, h1, h2, h3, h4, h5, h6, h7⟩ := h
  exact ⟨neg, A, l, c, h1, h2, h3, h4, h5.keepU hb hn hC, h6, h7⟩
theorem blk_ty {w : World} {g g' T T' : Nat} {cs cs' : Array Value} (h : Blk w g T cs) (h' : Blk w g' T' cs') (hT : T ≠ T') : g ≠ g' := by
  rintro rfl
  unfold Blk at h h'
  rw [h] at h'
  injection h' with h'
  injection h' with _ h' _
  exact hT h'
theorem noU_grid {r c : Nat} {v : Value} (hv : ∀ z, v ≠ .int .u32 z) : NoU #[.int .u8 ((r : Nat) : Int), .int .u8 ((c : Nat) : Int), v] := by
  intro i z
  match i with
  | 0 => simp
  | 1 => simp
  | 2 => simp; exact hv z
  | i + 3 => simp
theorem OMat.keepU {w w' : World} {gO : Nat} {gs : Nat → Nat} {r c G T : Nat} {cs : Array Value} {M : Nat → Nat → Int} (h : OMat w gO gs r c M) (hb : Blk w G T cs) (hn : NoU cs) (hC : Ch (fun b => b = G) w w') (h1 : 53 ≠ T) (h2 : 35 ≠ T) : OMat w' gO gs r c M :=
  ⟨h.outer.ch hC (blk_ty h.outer hb h1), fun i hi => by
    obtain ⟨h', hB, hc⟩ := h.row i hi
    exact ⟨h', hB.ch hC (blk_ty hB hb h2), fun j hj => (hc j hj).keepU hb hn hC⟩, h.ne, h.inj⟩
theorem NM.keepU {w w' : World} {ok : Bool} {r c G T : Nat} {cs : Array Value} {M : Nat → Nat → Int} {v : Value} (h : NM w ok r c M v) (hb : Blk w G T cs) (hn : NoU cs) (hC : Ch (fun b => b = G) w w') (h1 : 53 ≠ T) (h2 : 35 ≠ T) : NM w' ok r c M v := by
  unfold NM at *
  split
  · rename_i e; rw [if_pos e] at h; obtain ⟨gO, gs, e, hO⟩ := h; exact ⟨gO, gs, e, hO.keepU hb hn hC h1 h2⟩
  · rename_i e; rw [if_neg e] at h; exact h

theorem okAdd_len {r1 r2 : Nat} {len1 len2 : Nat → Nat} (h : okAdd r1 r2 len1 len2 = true) : (∀ i, i < r1 → len1 i = len1 0) ∧ r2 = r1 ∧ (∀ i, i < r2 → len2 i = len1 0) := by
  simp only [okAdd, Bool.and_eq_true, decide_eq_true_eq] at h
  obtain ⟨⟨⟨h1, h2⟩, h3⟩, h4⟩ := h
  exact ⟨(okM_iff.1 h1).2, h3.symm, fun i hi => by rw [(okM_iff.1 h2).2 i hi, h4]⟩
theorem okMul_len {r1 r2 : Nat} {len1 len2 : Nat → Nat} (h : okMul r1 r2 len1 len2 = true) : (∀ i, i < r1 → len1 i = len1 0) ∧ r2 = len1 0 ∧ len1 0 ≤ 16 ∧ (∀ i, i < r2 → len2 i = len2 0) := by
  simp only [okMul, Bool.and_eq_true, decide_eq_true_eq] at h
  obtain ⟨⟨h1, h2⟩, h3⟩ := h
  exact ⟨(okM_iff.1 h1).2, h3.symm, (okM_iff.1 h1).1.2.2.2, (okM_iff.1 h2).2⟩

theorem MatL.ext {w w' : World} {v : Value} {r : Nat} {len : Nat → Nat} {X : Nat → Nat → Int} {L : Nat → Nat → Nat} (h : MatL w v r len X L) (hE : Ext w w') : MatL w' v r len X L := by
  obtain ⟨A, cap, rfl, h1, h2, h3, h4⟩ := h
  refine ⟨A, cap, rfl, h1, h2, h3, fun i hi => ?_⟩
  obtain ⟨ad, u, e, hu, A', cap', rfl, k1, k2, k3, k4⟩ := h4 i hi
  refine ⟨ad, _, e, cell_ext hE hu, A', cap', rfl, k1, k2, k3, fun j hj => ?_⟩
  obtain ⟨ad', x, y, e', hx, hy, neg, A'', l, c, p1, p2, p3, p4, p5, p6⟩ := k4 j hj
  exact ⟨ad', x, y, e', cell_ext hE hx, cell_ext hE hy, neg, A'', l, c, p1, p2, p3, p4, p5.ext hE, p6⟩
theorem bd_add {N : Nat} {a b : Int} (ha : Bd N a) (hb : Bd N b) : Bd (N + 1) (a + b) := by
  unfold Bd at *
  have h1 : B ^ (N + 1) = B ^ N * B := Nat.pow_succ ..
  have h2 : B ^ N * 2 ≤ B ^ N * B := Nat.mul_le_mul_left _ (by decide)
  omega

set_option maxHeartbeats 16000000 in
theorem lawAdds (va vb vx vy : Value) (r1 r2 rx cx nx ry cy ny : Nat) (len1 len2 : Nat → Nat) (X Y : Nat → Nat → Int) (L1 L2 : Nat → Nat → Nat) (nsx nsy : Nat → Int) (w : World)
    (ha : MatL w va r1 len1 X L1) (hb : MatL w vb r2 len2 Y L2) (hx : GridV w vx rx cx nx nsx) (hy : GridV w vy ry cy ny nsy) :
    Meets Try.prog 13 #[va, vb, vx, vy] w (Law w) := by
  obtain ⟨Ax, capx, rfl, hx1, hx2, hx3, hx4⟩ := hx
  obtain ⟨Ay, capy, rfl, hy1, hy2, hy3, hy4⟩ := hy
  refine fn_W (n := 79) Try.func13 rfl rfl (by kernel_rfl) (by simp) ?_
  have hw0 : Ext w w := Ext.refl _
  refine gg ?_
  refine R1_box (v := .agg _) (.inl rfl) rfl ?_
  intro w1 hB1 hE1 hs1
  refine gg ?_
  refine R1_box (v := .agg _) (.inl rfl) rfl ?_
  intro w2 hB2 hE2 hs2
  have hE02 := hE1.trans hE2
  obtain ⟨gX, hgX⟩ : ∃ g, g = w.heap.size := ⟨_, rfl⟩
  obtain ⟨gY, hgY⟩ : ∃ g, g = w1.heap.size := ⟨_, rfl⟩
  have hX2 : Blk w2 gX 25 #[.int .u8 ((rx : Nat) : Int), .int .u8 ((cx : Nat) : Int), .slice Ax nx capx] := by rw [hgX]; exact hB1.ext hE2
  have hY2 : Blk w2 gY 25 #[.int .u8 ((ry : Nat) : Int), .int .u8 ((cy : Nat) : Int), .slice Ay ny capy] := by rw [hgY]; exact hB2
  rw [← hgY, ← hgX]
  have hXY : gX < gY ∧ w.heap.size ≤ gX := by omega
  obtain ⟨hxy1, hxy2⟩ := hXY
  clear hB1 hB2 hs1 hs2 hgX hgY hE1 hE2
  refine gg ?_
  refine W_seq ?_
  refine gg ?_
  refine R1_call2 (large_ok va r1 len1 X L1 w2 (ha.ext hE02)) ?_
  rintro _ _ ⟨rfl, b1, rfl, hb1⟩
  rcases b1 with _ | _
  rotate_left
  · refine gg ?_
    refine R1_call2 (awake_ok w2) ?_
    rintro _ w3 ⟨hE3, rfl⟩
    refine gg ?_
    exact ret1 (v := .bool _) rfl rfl ⟨hE02.trans hE3, rfl⟩
  refine gg ?_
  refine R1_call2 (large_ok vb r2 len2 Y L2 w2 (hb.ext hE02)) ?_
  rintro _ _ ⟨rfl, b2, rfl, hb2⟩
  rcases b2 with _ | _
  rotate_left
  · refine gg ?_
    refine R1_call2 (awake_ok w2) ?_
    rintro _ w3 ⟨hE3, rfl⟩
    refine gg ?_
    exact ret1 (v := .bool _) rfl rfl ⟨hE02.trans hE3, rfl⟩
  have hSa := (hb1 rfl).e ha
  have hSb := (hb2 rfl).e hb
  have hr1 : r1 ≤ 600 := (hb1 rfl).1
  refine gg ?_
  refine R1_call2 (addM_ok va vb r1 r2 600 len1 len2 X Y w2 (hSa.ext hE02) (hSb.ext hE02) (by decide)) ?_
  intro v w3 hv
  obtain ⟨Ac, mc, cc, rfl, hE3, hNc⟩ := hv.nm
  clear hv
  refine gg ?_
  refine R1_call2 (raddM_ok va vb r1 r2 600 len1 len2 X Y w3 (hSa.ext (hE02.trans hE3)) (hSb.ext (hE02.trans hE3)) (by decide)) ?_
  intro v w4 hv
  obtain ⟨Ad, md, cd, rfl, hE4, hNd⟩ := hv.nm
  clear hv
  have hX4 := hX2.ext (hE3.trans hE4)
  have hY4 := hY2.ext (hE3.trans hE4)
  have hE04 := hE02.trans (hE3.trans hE4)
  refine gg ?_
  refine W_seqDM (fun b => b = gY) [(0, 3), (1, 0), (2, 3), (3, 0), (4, 3), (5, 1), (6, 3), (7, 2)] mixed (by kernel_rfl) (fun w5 hE5 _ => ?_)
  have hX5 := hX4.ext hE5
  have hY5 := hY4.ext hE5
  refine gg ?_
  refine R1_load1M (by decide) (one_of rfl) rfl (blk30 hX5) (by show ¬ gX = gY; omega) ?_
  refine gg ?_
  refine R1_load1M (by decide) (one_of rfl) rfl (blk31 hX5) (by show ¬ gX = gY; omega) ?_
  refine gg ?_
  refine R1_storeI (one_of rfl) (.inr ⟨rfl, fun _ h => h⟩) rfl rfl hY5 (by simp) ?_
  intro w6 hY6 hC6 hs6
  refine gg ?_
  refine R1_storeI (one_of rfl) (.inl rfl) rfl rfl hY6 (by simp) ?_
  intro w7 hY7 hC7 hs7
  have hY7 : Blk w7 gY 25 #[.int .u8 ((rx : Nat) : Int), .int .u8 ((cx : Nat) : Int), .slice Ay ny capy] := hY7
  have hC67 := hC6.trans hC7
  have hX7 := hX5.ch hC67 (by omega)
  have hE7 : Ext w w7 := hC67.ext_of (hE04.trans hE5) (fun b hb => by omega)
  have hNc7 := (hNc.ext (hE4.trans hE5)).keepU hY5 (noU_grid (by simp)) hC67 (by decide) (by decide)
  have hNd7 := (hNd.ext hE5).keepU hY5 (noU_grid (by simp)) hC67 (by decide) (by decide)
  have hGx : ∀ w', Ext w w' → GridV w' (.agg #[.int .u8 ((rx : Nat) : Int), .int .u8 ((cx : Nat) : Int), .slice Ax nx capx]) rx cx nx nsx := fun w' h => ⟨Ax, capx, rfl, hx1, hx2, hx3, hx4.ext h⟩
  have hGy : ∀ w', Ext w w' → GridV w' (.agg #[.int .u8 ((rx : Nat) : Int), .int .u8 ((cx : Nat) : Int), .slice Ay ny capy]) rx cx ny nsy := fun w' h => ⟨Ay, capy, rfl, hx1, hx2, hy3, hy4.ext h⟩
  have hm1 := Nat.mod_lt rx (show 0 < 8 by decide)
  have hm2 := Nat.mod_lt cx (show 0 < 8 by decide)
  refine gg ?_
  refine W_seqD [(0, 0), (2, 0), (1, 1), (3, 1), (4, 1), (5, 3), (6, 3), (7, 3), (8, 3), (9, 3)] mixed (by kernel_rfl) (fun w8 hE8 _ => ?_)
  obtain ⟨x0, x1, x2⟩ := blkT (hX7.ext hE8)
  obtain ⟨y0, y1, y2⟩ := blkT (hY7.ext hE8)
  refine gg ?_
  refine R1_load3E (by decide) agg_Grid rfl x0 x1 x2 ?_
  refine gg ?_
  refine R1_load3E (by decide) agg_Grid rfl y0 y1 y2 ?_
  clear x0 x1 x2 y0 y1 y2
  refine gg ?_
  refine R1_callS (gridMatrix_ok _ rx cx nx 8 nsx w8 (hGx w8 (hE7.trans hE8)) (by decide) (by decide)) ?_
  rintro _ w9 ⟨hE9, g9, gs9, rfl, _, _, hO9⟩
  refine ⟨hE9, ?_⟩
  refine gg ?_
  refine R1_callS (gridMatrix_ok _ rx cx ny 8 nsy w9 (hGy w9 (hE7.trans (hE8.trans hE9))) (by decide) (by decide)) ?_
  rintro _ w10 ⟨hE10, g10, gs10, rfl, _, _, hO10⟩
  refine ⟨hE10, ?_⟩
  refine gg ?_
  refine R1_callS (addM_ok _ _ (1 + rx % 8) (1 + rx % 8) 1 (fun _ => 1 + cx % 8) (fun _ => 1 + cx % 8) _ _ w10 ((hO9.ext hE10).read (fun i j _ _ => (hGx w hw0).bd _ i j) (by omega) (by omega)) (hO10.read (fun i j _ _ => (hGy w hw0).bd _ i j) (by omega) (by omega)) (by decide)) ?_
  intro v w11 hv
  obtain ⟨Ae, me, ce, rfl, hE11, hNe⟩ := hv.nm
  refine ⟨hE11, ?_⟩
  clear hv
  have hE11' := hE8.trans (hE9.trans (hE10.trans hE11))
  refine gg ?_
  refine W_seqD [(0, 0), (2, 0), (1, 1), (3, 1), (4, 1), (5, 3), (6, 3), (7, 3), (8, 3), (9, 3)] mixed (by kernel_rfl) (fun w12 hE12 _ => ?_)
  obtain ⟨x0, x1, x2⟩ := blkT (hX7.ext (hE11'.trans hE12))
  obtain ⟨y0, y1, y2⟩ := blkT (hY7.ext (hE11'.trans hE12))
  refine gg ?_
  refine R1_load3E (by decide) agg_Grid rfl x0 x1 x2 ?_
  refine gg ?_
  refine R1_load3E (by decide) agg_Grid rfl y0 y1 y2 ?_
  clear x0 x1 x2 y0 y1 y2
  refine gg ?_
  refine R1_callS (gridMatrix_ok _ rx cx nx 8 nsx w12 (hGx w12 (hE7.trans (hE11'.trans hE12))) (by decide) (by decide)) ?_
  rintro _ w13 ⟨hE13, g13, gs13, rfl, _, _, hO13⟩
  refine ⟨hE13, ?_⟩
  refine gg ?_
  refine R1_callS (gridMatrix_ok _ rx cx ny 8 nsy w13 (hGy w13 (hE7.trans (hE11'.trans (hE12.trans hE13)))) (by decide) (by decide)) ?_
  rintro _ w14 ⟨hE14, g14, gs14, rfl, _, _, hO14⟩
  refine ⟨hE14, ?_⟩
  refine gg ?_
  refine R1_callS (raddM_ok _ _ (1 + rx % 8) (1 + rx % 8) 1 (fun _ => 1 + cx % 8) (fun _ => 1 + cx % 8) _ _ w14 ((hO13.ext hE14).read (fun i j _ _ => (hGx w hw0).bd _ i j) (by omega) (by omega)) (hO14.read (fun i j _ _ => (hGy w hw0).bd _ i j) (by omega) (by omega)) (by decide)) ?_
  intro v w15 hv
  obtain ⟨Af, mf, cf, rfl, hE15, hNf⟩ := hv.nm
  refine ⟨hE15, ?_⟩
  clear hv
  have hE15' := hE12.trans (hE13.trans (hE14.trans hE15))
  refine gg ?_
  rw [beq_self_eq_true]
  have hEq : Ext w7 w15 := hE11'.trans hE15'
  refine gg ?_
  refine R1_call2 (same_nm (N := 601) (hNc7.ext hEq) (hNd7.ext hEq) (fun hok i j hi hj => by
    obtain ⟨k1, rfl, k3⟩ := okAdd_len hok
    exact bd_add (hSa.bdE hi (by rw [k1 i hi]; exact hj)) (hSb.bdE hi (by rw [k3 i hi]; exact hj))) (fun _ => by omega) (fun hok => by
    simp only [okAdd, Bool.and_eq_true] at hok
    have := (okM_iff.1 hok.1.1.1).1.2.2.2
    omega) (by decide)) ?_
  rintro _ w16 ⟨hE16, rfl⟩
  refine gg ?_
  rw [beq_self_eq_true]
  refine gg ?_
  refine R1_call2 (same_nm (N := 2) (hNe.ext (hE15'.trans hE16)) (hNf.ext hE16) (fun _ i j _ _ => bd_add ((hGx w hw0).bd _ i j) ((hGy w hw0).bd _ i j)) (fun _ => by omega) (fun _ => by omega) (by decide)) ?_
  rintro _ w17 ⟨hE17, rfl⟩
  refine gg ?_
  refine R1_call2 (awake_ok w17) ?_
  rintro _ w18 ⟨hE18, rfl⟩
  refine gg ?_
  exact ret1 (v := .bool _) rfl rfl ⟨hE7.trans (hEq.trans (hE16.trans (hE17.trans hE18))), rfl⟩
end Go.Proofs.Ytimjiaabaanbeaa
