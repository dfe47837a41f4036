/- Joined: Lwi. -/
import Derived.Test.YtimjiaabaanbeaaQq
/- The law MatrixApplies. -/
namespace Go.Proofs.Ytimjiaabaanbeaa
open Go Go.Eng Go.Num Go.Proofs

theorem same_list {w : World} {v v' : Value} {c N : Nat} {g : Nat → Int} (h : RowE (EC N) w v c g) (h' : RowE (EC N) w v' c g) (hN2 : N < 1099511627776) :
    Meets Try.prog 47 #[v, v'] w fun u w' => Ext w w' ∧ u = .bool true :=
  (rsameList_ok v v' c c N g g w h h' hN2).mono fun _ _ ⟨hE, _, e', hb⟩ => ⟨hE, by rw [e', hb.2 ⟨rfl, fun _ _ => rfl⟩]⟩
theorem RowL.ext {w w' : World} {v : Value} {c : Nat} {M : Nat → Int} {L : Nat → Nat} (h : RowL w v c M L) (hE : Ext w w') : RowL w' v c M L := by
  obtain ⟨A', cap', rfl, k1, k2, k3, k4⟩ := h
  refine ⟨A', cap', rfl, k1, k2, k3, fun j hj => ?_⟩
  obtain ⟨ad', x, y, e', hx, hy, neg, A'', l, c, p1, p2, p3, p4, p5, p6⟩ := k4 j hj
  exact ⟨ad', x, y, e', cell_ext hE hx, cell_ext hE hy, neg, A'', l, c, p1, p2, p3, p4, p5.ext hE, p6⟩

set_option maxHeartbeats 16000000 in
theorem lawApplies {va vb vx vl : Value} {r1 cb rx cx nx m : Nat} {len1 : Nat → Nat} {Y : Nat → Nat → Int} {L1 : Nat → Nat → Nat} {bM : Nat → Int} {bL : Nat → Nat} {nsx ns : Nat → Int} {w : World}
    (ha : MatL w va r1 len1 Y L1) (hb : RowL w vb cb bM bL ∧ ∀ j, j < cb → bL j ≤ 1048576) (hx : GridV w vx rx cx nx nsx) (hl : NumsV w vl m ns) :
    Meets Try.prog 14 #[va, vb, vx, vl] w (Law w) := by
  obtain ⟨Ax, capx, rfl, hx1, hx2, hx3, hx4⟩ := hx
  obtain ⟨Al, capl, rfl, hl1, hl2⟩ := hl
  obtain ⟨hb, hbL⟩ := hb
  have hbE : RowE (EI 1048576) w vb cb bM := hb.e hbL
  obtain ⟨Ab, capb, rfl, _⟩ := id hbE
  refine fn_W (n := 83) Try.func14 rfl rfl (by kernel_rfl) (by simp) ?_
  refine gg ?_
  refine R1_box (v := .agg _) (.inl rfl) rfl ?_
  intro w1 hB1 hE1 hs1
  have hX1 : Blk w1 w.heap.size 25 #[.int .u8 ((rx : Nat) : Int), .int .u8 ((cx : Nat) : Int), .slice Ax nx capx] := hB1
  have hGx := GridV.agg hx1 hx2 hx3 hx4
  clear hB1
  refine gg ?_
  refine W_seq ?_
  refine gg ?_
  refine R1_call2 (large_ok _ r1 len1 Y L1 w1 (ha.ext hE1)) ?_
  rintro _ _ ⟨rfl, b1, rfl, hb1⟩
  rcases b1 with _ | _
  rotate_left
  · refine gg ?_
    refine R1_call2 (awake_ok w1) ?_
    rintro _ w3 ⟨hE3, rfl⟩
    refine gg ?_
    exact ret1 (v := .bool _) rfl rfl ⟨hE1.trans hE3, rfl⟩
  have hSa : MatE (EI 1048576) w va r1 len1 Y := ((hb1 rfl).e ha).mono (by decide)
  by_cases hr6 : 40 < cb
  · refine gg ?_
    refine R1_call2 (awake_ok w1) ?_
    rintro _ w3 ⟨hE3, rfl⟩
    refine gg ?_
    exact ret1 (v := .bool _) rfl rfl ⟨hE1.trans hE3, rfl⟩
  refine gg ?_
  refine R1_call2 (apply_ok _ _ r1 cb 1048576 len1 Y bM w1 (hSa.ext hE1) (hbE.ext hE1) (by decide)) ?_
  rintro _ w2 ⟨hE2, A2, m2, c2, rfl, hV2⟩
  refine gg ?_
  refine R1_call2 (rapply_ok _ _ r1 cb 1048576 len1 Y bM w2 (hSa.ext (hE1.trans hE2)) (hbE.ext (hE1.trans hE2)) (by decide)) ?_
  rintro _ w3 ⟨hE3, A3, m3, c3, rfl, hV3⟩
  have hV2 := RowE.extC hV2 hE3
  have hE13 := hE2.trans hE3
  obtain ⟨x0, x1, x2⟩ := blkT (hX1.ext hE13)
  have hm1 := Nat.mod_lt rx (show 0 < 8 by decide)
  have hm2 := Nat.mod_lt cx (show 0 < 8 by decide)
  obtain ⟨r, hr⟩ : ∃ n, n = 1 + rx % 8 := ⟨_, rfl⟩
  obtain ⟨c, hc⟩ : ∃ n, n = 1 + cx % 8 := ⟨_, rfl⟩
  have hrb : r < 9223372036854775808 := by omega
  have hcb : c < 9223372036854775808 := by omega
  obtain ⟨X, hX⟩ : ∃ X, X = gridM c nx nsx := ⟨_, rfl⟩
  have bX : ∀ i j, i < r → j < c → Bd 1 (X i j) := fun i j _ _ => by rw [hX]; exact gridM_bd hx4 _ i j
  refine gg ?_
  refine R1_load3F (by decide) agg_Grid rfl x0 x1 x2 ?_
  clear x0 x1 x2
  refine gg ?_
  refine R1_call2 (gridMatrix_ok _ rx cx nx 8 nsx w3 (hGx w3 (hE1.trans hE13)) (by decide) (by decide)) ?_
  rintro _ w4 ⟨hE4, g4, gs4, rfl, _, _, hO4⟩
  rw [← hr, ← hc, ← hX] at hO4
  rw [← hr]
  have hE04 := hE1.trans (hE13.trans hE4)
  have hw0 : w4.cell? ⟨g4, 0 + 0 * 1, none⟩ = some (.slice (some ⟨gs4 0, 0, none⟩) c c) := by
    rw [hO4.outer.cell, arr_at (by omega)]
  refine gg ?_
  refine R1_call2 (column_ok Al m capl c ns w4 (hl2.ext hE04) (by omega)) ?_
  rintro vc w5 ⟨hE5, hG5, _⟩
  obtain ⟨Av, cv, rfl⟩ := hG5.slice
  refine gg ?_
  refine R1_call2 (apply_ok _ _ r c 1 (fun _ => c) X _ w5 ((hO4.ext hE5).rd bX (by decide) hrb hcb) hG5.rowE (by decide)) ?_
  rintro _ w6 ⟨hE6, A6, m6, c6, rfl, hV6⟩
  have hE46 := hE5.trans hE6
  have hw0 := cell_ext hE46 hw0
  refine gg ?_
  refine R1_call2 (column_ok Al m capl c ns w6 (hl2.ext (hE04.trans hE46)) (by omega)) ?_
  rintro vc w7 ⟨hE7, hG7, _⟩
  obtain ⟨Av7, cv7, rfl⟩ := hG7.slice
  refine gg ?_
  refine R1_call2 (rapply_ok _ _ r c 1 (fun _ => c) X _ w7 ((hO4.ext (hE46.trans hE7)).rd bX (by decide) hrb hcb) hG7.rowE (by decide)) ?_
  rintro _ w8 ⟨hE8, A8, m8, c8, rfl, hV8⟩
  have hV6 := RowE.extC hV6 (hE7.trans hE8)
  have hE38 := hE4.trans (hE46.trans (hE7.trans hE8))
  have hV2 := RowE.extC hV2 hE38
  have hV3 := RowE.extC hV3 hE38
  have hE := hE04.trans (hE46.trans (hE7.trans hE8))
  refine gg ?_
  rw [show (okApp r1 len1 cb == okApp r1 len1 cb) = true from beq_self_eq_true _]
  refine gg ?_
  refine R1_call2 (same_list hV2 hV3 (by decide)) ?_
  rintro _ w9 ⟨hE9, rfl⟩
  refine gg ?_
  rw [show (okApp r (fun _ => c) c == okApp r (fun _ => c) c) = true from beq_self_eq_true _]
  refine gg ?_
  refine R1_call2 (same_list (RowE.extC hV6 hE9) (RowE.extC hV8 hE9) (by decide)) ?_
  rintro _ w10 ⟨hE10, rfl⟩
  refine gg ?_
  refine R1_call2 (awake_ok w10) ?_
  rintro _ w11 ⟨hE11, rfl⟩
  refine gg ?_
  exact ret1 (v := .bool _) rfl rfl ⟨hE.trans (hE9.trans (hE10.trans hE11)), rfl⟩
end Go.Proofs.Ytimjiaabaanbeaa
