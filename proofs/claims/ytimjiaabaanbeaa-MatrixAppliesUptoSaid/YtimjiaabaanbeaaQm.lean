/- Joined: Sqi. -/
import Derived.Test.YtimjiaabaanbeaaQk
/- Square matrices, more: reading rows with room, the reference's Identity and Product where they succeed; Cramer's rule. -/
namespace Go.Proofs.Ytimjiaabaanbeaa
open Go Go.Eng Go.Num Go.Proofs

theorem GMat.readC {w : World} {gO r c N : Nat} {gs cp : Nat → Nat} {M : Nat → Nat → Int} (h : GMat w gO gs cp r c true (fun _ _ => N) M) (hr : r < 9223372036854775808) : MatE (EC N) w (.slice (some ⟨gO, 0, none⟩) r r) r (fun _ => c) M :=
  ⟨_, _, rfl, Nat.le_refl _, hr, fun i hi => ⟨_, _, rfl, by rw [add_lit]; exact h.at hi, by
    obtain ⟨h1, h2, _⟩ := h.row i hi
    refine ⟨_, _, rfl, h1, h2, fun j hj => ?_⟩
    obtain ⟨x, y, e1, e2, hv⟩ := (h.row i hi).at hj
    exact ⟨_, x, y, rfl, by rw [add_lit]; exact e1, by rw [add_lit]; exact e2, hv.2 rfl, hv.bd⟩⟩⟩
/-- two answers of the same shape with the same entries -/
theorem same_c {w : World} {v v' : Value} {r c N : Nat} {M M' : Nat → Nat → Int} (h : MatE (EC N) w v r (fun _ => c) M) (h' : MatE (EC N) w v' r (fun _ => c) M') (e : ∀ i j, i < r → j < c → M i j = M' i j) (hN2 : N < 1099511627776) :
    Meets Try.prog 20 #[v, v'] w fun u w' => Ext w w' ∧ u = .bool true :=
  (rsameM_ok v v' r r N _ _ M M' w h h' hN2).mono fun _ _ ⟨hE, _, e', hb⟩ => ⟨hE, by rw [e', hb.2 ⟨rfl, fun i hi => ⟨rfl, fun j hj => e i j hi hj⟩⟩]⟩
theorem OMat.rdC {w : World} {gO : Nat} {gs : Nat → Nat} {r c N' N : Nat} {M : Nat → Nat → Int} (h : OMat w gO gs r c M) (hM : ∀ i j, i < r → j < c → Bd N' (M i j)) (hN : N' ≤ N) (hr : r < 9223372036854775808) (hc : c < 9223372036854775808) : MatE (EC N) w (.slice (some ⟨gO, 0, none⟩) r r) r (fun _ => c) M :=
  h.readC (fun i j hi hj => (hM i j hi hj).mono hN) hr hc
theorem ridentityT_ok {n : Nat} (w : World) (h1 : 1 ≤ n) (h2 : n ≤ 16) : Meets Try.prog 29 #[.int .i64 ((n : Nat) : Int)] w (RMT w n n (scal 1)) :=
  (ridentity_ok (n : Int) w (by omega) (by omega)).mono fun _ _ h => by
    rw [Int.toNat_natCast] at h
    exact h.rmt (by unfold idOk; exact decide_eq_true (by omega))
theorem rproductT_ok {va vb : Value} {r q c N : Nat} {X Y : Nat → Nat → Int} {w : World} (ha : MatE (EI N) w va r (fun _ => q) X) (hb : MatE (EI N) w vb q (fun _ => c) Y) (hN : N < 34359738368) (h1 : 1 ≤ r) (h2 : r ≤ 16) (h3 : 1 ≤ q) (h4 : q ≤ 16) (h5 : 1 ≤ c) (h6 : c ≤ 16) :
    Meets Try.prog 30 #[va, vb] w (RM w r c (mulM q X Y)) :=
  (rproduct_ok va vb r q N _ _ X Y w ha hb hN).mono fun _ _ h => h.get (okMul_const h1 h2 h3 h4 h5 h6)
theorem adjugateT_ok {v : Value} {n N : Nat} {M : Nat → Nat → Int} {w : World} (h : MatE (EI N) w v n (fun _ => n) M) (hN1 : 1 ≤ N) (hN : N < 1048576) (h1 : 1 ≤ n) (h2 : n ≤ 16) :
    Meets Try.prog 37 #[v] w (RMT w n n (adjF n M)) :=
  (adjugateX_ok v n N _ M w h hN1 hN).mono fun _ _ h => h.rmt (okS_const h1 h2)
theorem adjF_bd {n N : Nat} {M : Nat → Nat → Int} (hn : n ≤ 16) (hM : ∀ i j, i < n → j < n → Bd N (M i j)) : ∀ i j, i < n → j < n → Bd (1 + (n - 1) * (N + 3)) (adjF n M i j) := fun i j hi hj => by
  unfold adjF
  split
  · exact (adjP_bd hn hM _ i j hi hj).neg
  · exact adjP_bd hn hM _ i j hi hj
/-- a matrix times its adjugate -/
theorem cramer (n : Nat) (M : Nat → Nat → Int) (i j : Nat) (hi : i < n) (hj : j < n) : mulM n M (adjF n M) i j = timesM (detB n M) (scal 1) i j := by
  obtain ⟨m, rfl⟩ : ∃ m, n = m + 1 := ⟨n - 1, by omega⟩
  rw [mulM_mul, mul_congr (fun k hk => adjF_adj m M k j hk hj), Go.Det.mul_adj m M i j hi hj, detB_det]
  unfold timesM scal
  split <;> simp
theorem cramer' (n : Nat) (M : Nat → Nat → Int) (i j : Nat) (hi : i < n) (hj : j < n) : mulM n (adjF n M) M i j = timesM (detB n M) (scal 1) i j := by
  obtain ⟨m, rfl⟩ : ∃ m, n = m + 1 := ⟨n - 1, by omega⟩
  have : Go.Det.mul (m + 1) (adjF (m + 1) M) M i j = Go.Det.mul (m + 1) (Go.Det.adj m M) M i j := Go.Det.sm_congr fun k hk => by rw [adjF_adj m M i k hi hk]
  rw [mulM_mul, this, Go.Det.adj_mul m M i j hi hj, detB_det]
  unfold timesM scal
  split <;> simp

set_option maxHeartbeats 16000000 in
theorem lawCramer {vx : Value} {rx cx nx : Nat} {nsx : Nat → Int} {w : World} (hx : GridV w vx rx cx nx nsx) :
    Meets Try.prog 11 #[vx] w (Law w) := by
  obtain ⟨Ax, capx, rfl, hx1, hx2, hx3, hx4⟩ := hx
  refine fn_W (n := 44) Try.func11 rfl rfl (by kernel_rfl) (by simp) ?_
  refine gg ?_
  refine R1_box (v := .agg _) (.inl rfl) rfl ?_
  intro w1 hB1 hE1 hs1
  have hX1 : Blk w1 w.heap.size 25 #[.int .u8 ((rx : Nat) : Int), .int .u8 ((cx : Nat) : Int), .slice Ax nx capx] := hB1
  have hGx := GridV.agg hx1 hx2 hx3 hx4
  clear hB1
  obtain ⟨x0, x1, x2⟩ := blkT hX1
  have hm1 := Nat.mod_lt rx (show 0 < 5 by decide)
  obtain ⟨n, hn⟩ : ∃ n, n = 1 + rx % 5 := ⟨_, rfl⟩
  have hn1 : 1 ≤ n := by omega
  have hn5 : n ≤ 5 := by omega
  have hn2 : n ≤ 16 := by omega
  have hnb : n < 9223372036854775808 := by omega
  obtain ⟨X, hX⟩ : ∃ X, X = gridM n nx nsx := ⟨_, rfl⟩
  have bX : ∀ i j, i < n → j < n → Bd 1 (X i j) := fun i j _ _ => by rw [hX]; exact gridM_bd hx4 _ i j
  have bA : ∀ i j, i < n → j < n → Bd 17 (adjF n X i j) := fun i j hi hj => (adjF_bd hn2 bX i j hi hj).mono (by omega)
  have hd1 := detB_bd (n := n) (by decide : 1 ≤ 1) bX
  have hNb : Nb 1 n ≤ 100 := by
    have h1 := Nb_le 1 n
    have h2 : 2 ^ n ≤ 2 ^ 5 := Nat.pow_le_pow_right (by decide) hn5
    omega
  refine gg ?_
  refine R1_load3F (by decide) agg_Grid rfl x0 x1 x2 ?_
  clear x0 x1 x2
  refine gg ?_
  refine R1_call2 (gridSquare_ok _ rx cx nx 5 nsx w1 (hGx w1 hE1) (by decide) (by decide)) ?_
  rintro _ w2 ⟨hE2, g2, gs2, rfl, _, _, hO2⟩
  rw [← hn] at hO2 ⊢
  rw [← hX] at hO2
  refine gg ?_
  refine R1_call2 (adjugateT_ok (N := 1) (hO2.rd bX (by decide) hnb hnb) (by decide) (by decide) hn1 hn2) ?_
  rintro _ w3 ⟨hE3, g3, gs3, rfl, hO3⟩
  replace hO2 := hO2.ext hE3
  refine gg ?_
  refine R1_call2 (detT_ok (N := 1) (hO2.rd bX (by decide) hnb hnb) (by decide) (by decide) hn1 hn2) ?_
  rintro _ w4 ⟨hE4, xd, yd, rfl, hcd⟩
  refine gg ?_
  refine R1_alloc (.inl rfl) z_Int ?_
  intro w5a hBa_ hEa_ hsa_
  have hG0_ : Bx w5a w4.heap.size 1 true 0 := Bx.zero true hBa_
  obtain ⟨gD, hg_⟩ : ∃ g, g = w4.heap.size := ⟨_, rfl⟩
  rw [← hg_] at hG0_ ⊢
  refine gg ?_
  refine R1_storeBx (.inl rfl) rfl rfl hG0_ ((hcd.ext hEa_).ev true hd1) ?_
  intro w5 hD hCb_ hkb_ hsb_
  have hE5 : Ext w4 w5 := hCb_.ext_of hEa_ (fun b hb => by omega)
  clear hG0_ hBa_ hEa_ hsa_ hsb_ hCb_ hkb_ hg_
  refine gg ?_
  refine R1_call2 (ridentityT_ok (n := n) w5 hn1 hn2) ?_
  rintro _ w6 ⟨hE6, g6, gs6, rfl, hO6⟩
  replace hO2 := hO2.ext (hE4.trans (hE5.trans hE6))
  replace hO3 := hO3.ext (hE4.trans (hE5.trans hE6))
  replace hD := hD.ext hE6
  have hE := hE1.trans (hE2.trans (hE3.trans (hE4.trans (hE5.trans hE6))))
  clear hE1 hE2 hE3 hE4 hE5 hE6
  refine gg ?_
  refine W_seqD [(0, 3), (1, 3), (2, 3), (3, 3), (4, 3), (5, 3), (6, 3), (8, 0), (9, 3), (7, 1), (10, 1), (11, 1), (12, 3), (13, 3), (14, 1), (15, 3), (16, 3)] mixed (by kernel_rfl) (fun w7 hE7 _ => ?_)
  replace hO2 := hO2.ext hE7
  replace hO3 := hO3.ext hE7
  replace hO6 := hO6.ext hE7
  replace hD := hD.ext hE7
  obtain ⟨dx, dy, hdB, hdv⟩ := hD
  obtain ⟨p1, p2⟩ := blkP hdB
  refine gg ?_
  refine R1_callS (rproductT_ok (N := 17) (hO2.rd bX (by decide) hnb hnb) (hO3.rd bA (by decide) hnb hnb) (by decide) hn1 hn2 hn1 hn2 hn1 hn2) ?_
  rintro _ w8 ⟨hE8, g8, gs8, rfl, _, _, hO8⟩
  refine ⟨hE8, ?_⟩
  refine gg ?_
  refine R1_callS (rtimes_ok _ _ _ _ n n 100 _ w8 ((hdv.1.ext hE8).mono hNb) ((hO6.ext hE8).rd (N := 100) (fun i j _ _ => scal_bd 1 bd1_1 i j) (by decide) hnb hnb) (by omega) hn1 (by omega) (by decide)) ?_
  rintro _ w9 ⟨hE9, g9, gs9, cp9, rfl, _, _, _, hO9⟩
  refine ⟨hE9, ?_⟩
  have bP : ∀ i j, i < n → j < n → Bd 200 (mulM n X (adjF n X) i j) := fun i j hi hj => (mulM_bd (N := 1) (N' := 17) hn2 (fun t ht => bX i t hi ht) (fun t ht => bA t j ht hj)).mono (by decide)
  refine gg ?_
  refine R1_callS (same_c (N := 200) ((hO8.ext hE9).rdC bP (by decide) hnb hnb) (hO9.readC hnb) (fun i j hi hj => cramer n X i j hi hj) (by decide)) ?_
  rintro _ w10 ⟨hE10, rfl⟩
  refine ⟨hE10, ?_⟩
  refine gg ?_
  refine R1_callS (awake_ok w10) ?_
  rintro _ w11 ⟨hE11, rfl⟩
  refine ⟨hE11, ?_⟩
  refine gg ?_
  exact ret1 (v := .bool _) rfl rfl ⟨hE.trans (hE7.trans (hE8.trans (hE9.trans (hE10.trans hE11)))), rfl⟩
end Go.Proofs.Ytimjiaabaanbeaa
