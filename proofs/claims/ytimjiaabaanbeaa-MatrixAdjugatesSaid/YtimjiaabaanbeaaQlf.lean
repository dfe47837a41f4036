/- Joined: Lwf. -/
import Derived.Test.YtimjiaabaanbeaaQn
/- The law MatrixAdjugates. -/
namespace Go.Proofs.Ytimjiaabaanbeaa
open Go Go.Eng Go.Num Go.Proofs

set_option maxHeartbeats 16000000 in
theorem lawAdjugates {vx : Value} {rx cx nx : Nat} {nsx : Nat → Int} {w : World} (hx : GridV w vx rx cx nx nsx) :
    Meets Try.prog 10 #[vx] w (Law w) := by
  obtain ⟨Ax, capx, rfl, hx1, hx2, hx3, hx4⟩ := hx
  refine fn_W (n := 49) Try.func10 rfl rfl (by kernel_rfl) (by simp) ?_
  refine gg ?_
  refine R1_box (v := .agg _) (.inl rfl) rfl ?_
  intro w1 hB1 hE1 hs1
  have hX1 : Blk w1 w.heap.size 25 #[.int .u8 ((rx : Nat) : Int), .int .u8 ((cx : Nat) : Int), .slice Ax nx capx] := hB1
  have hGx := GridV.agg hx1 hx2 hx3 hx4
  clear hB1
  obtain ⟨x0, x1, x2⟩ := blkT hX1
  have hm1 := Nat.mod_lt rx (show 0 < 5 by decide)
  have hm2 := Nat.mod_lt cx (show 0 < 5 by decide)
  obtain ⟨n, hn⟩ : ∃ n, n = 1 + rx % 5 := ⟨_, rfl⟩
  obtain ⟨c, hc⟩ : ∃ n, n = 1 + cx % 5 := ⟨_, rfl⟩
  have hn1 : 1 ≤ n := by omega
  have hn5 : n ≤ 5 := by omega
  have hn2 : n ≤ 16 := by omega
  have hnb : n < 9223372036854775808 := by omega
  have hcb : c < 9223372036854775808 := by omega
  obtain ⟨X, hX⟩ : ∃ X, X = gridM n nx nsx := ⟨_, rfl⟩
  have bX : ∀ i j, i < n → j < n → Bd 1 (X i j) := fun i j _ _ => by rw [hX]; exact gridM_bd hx4 _ i j
  have bA : ∀ i j, i < n → j < n → Bd 17 (adjF n X i j) := fun i j hi hj => (adjF_bd hn2 bX i j hi hj).mono (by omega)
  refine gg ?_
  refine R1_load3F (by decide) agg_Grid rfl x0 x1 x2 ?_
  clear x0 x1 x2
  refine gg ?_
  refine R1_call2 (gridSquare_ok _ rx cx nx 5 nsx w1 (hGx w1 hE1) (by decide) (by decide)) ?_
  rintro _ w2 ⟨hE2, g2, gs2, rfl, _, _, hO2⟩
  rw [← hn] at hO2 ⊢
  rw [← hX] at hO2
  refine gg ?_
  refine R1_call2 (adjugateT_ok (N := 1) (hO2.rd bX (by decide) hnb hnb) (by decide) (by decide) hn1 hn2) ?_
  rintro _ w3 ⟨hE3, g3, gs3, rfl, hO3⟩
  have hE13 := hE2.trans hE3
  obtain ⟨x0, x1, x2⟩ := blkT (hX1.ext hE13)
  refine gg ?_
  refine R1_load3F (by decide) agg_Grid rfl x0 x1 x2 ?_
  clear x0 x1 x2
  refine gg ?_
  refine R1_call2 (gridSquare_ok _ rx cx nx 5 nsx w3 (hGx w3 (hE1.trans hE13)) (by decide) (by decide)) ?_
  rintro _ w4 ⟨hE4, g4, gs4, rfl, _, _, hO4⟩
  rw [← hn] at hO4 ⊢
  rw [← hX] at hO4
  refine gg ?_
  refine R1_call2 (radjugate_ok _ n 1 (fun _ => n) X w4 (hO4.rd bX (by decide) hnb hnb) (by decide) (by decide)) ?_
  intro u w5 hu
  obtain ⟨hE5, g5, gs5, rfl, hO5⟩ := hu.rmt (okS_const hn1 hn2)
  clear hu hO4
  have hE15 := hE13.trans (hE4.trans hE5)
  replace hO3 := hO3.ext (hE4.trans hE5)
  obtain ⟨x0, x1, x2⟩ := blkT (hX1.ext hE15)
  refine gg ?_
  refine R1_load3F (by decide) agg_Grid rfl x0 x1 x2 ?_
  clear x0 x1 x2
  refine gg ?_
  refine R1_call2 (gridMatrix_ok _ rx cx nx 5 nsx w5 (hGx w5 (hE1.trans hE15)) (by decide) (by decide)) ?_
  rintro _ w6 ⟨hE6, g6, gs6, rfl, _, _, hO6⟩
  rw [← hn, ← hc] at hO6
  rw [← hn]
  have bY : ∀ i j, i < n → j < c → Bd 1 (gridM c nx nsx i j) := fun i j _ _ => gridM_bd hx4 _ i j
  refine gg ?_
  refine R1_call2 (adjugateX_ok _ n 1 (fun _ => c) _ w6 (hO6.rd bY (by decide) hnb hcb) (by decide) (by decide)) ?_
  intro u w7 hu
  obtain ⟨A7, m7, c7, rfl, hE7, _⟩ := hu.nm
  clear hu
  have hE17 := hE15.trans (hE6.trans hE7)
  replace hO3 := hO3.ext (hE6.trans hE7)
  replace hO5 := hO5.ext (hE6.trans hE7)
  obtain ⟨x0, x1, x2⟩ := blkT (hX1.ext hE17)
  refine gg ?_
  refine R1_load3F (by decide) agg_Grid rfl x0 x1 x2 ?_
  clear x0 x1 x2
  refine gg ?_
  refine R1_call2 (gridMatrix_ok _ rx cx nx 5 nsx w7 (hGx w7 (hE1.trans hE17)) (by decide) (by decide)) ?_
  rintro _ w8 ⟨hE8, g8, gs8, rfl, _, _, hO8⟩
  rw [← hn, ← hc] at hO8
  rw [← hn]
  refine gg ?_
  refine R1_call2 (rsquare_ok (EI 1) _ n (fun _ => c) _ w8 (hO8.rd bY (by decide) hnb hcb)) ?_
  rintro _ w9 ⟨hE9, rfl⟩
  obtain ⟨s, e, _⟩ := sqV_cases n (fun _ => c)
  rw [e]
  replace hO3 := hO3.ext (hE8.trans hE9)
  replace hO5 := hO5.ext (hE8.trans hE9)
  have hE := hE1.trans (hE17.trans (hE8.trans hE9))
  refine gg ?_
  refine R1_call2 (same_o (N := 17) hO3 hO5 (fun i j hi hj => (radjF_eq n X i j hi hj).symm) bA hnb hnb (by decide)) ?_
  rintro _ w10 ⟨hE10, rfl⟩
  refine gg ?_
  rw [show (okS n (fun _ => c) == okS n (fun _ => c)) = true from beq_self_eq_true _]
  refine gg ?_
  refine R1_call2 (awake_ok w10) ?_
  rintro _ w11 ⟨hE11, rfl⟩
  refine gg ?_
  exact ret1 (v := .bool _) rfl rfl ⟨hE.trans (hE10.trans hE11), rfl⟩
end Go.Proofs.Ytimjiaabaanbeaa
