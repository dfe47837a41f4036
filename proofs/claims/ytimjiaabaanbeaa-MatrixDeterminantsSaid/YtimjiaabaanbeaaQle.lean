/- Joined: Lwe. -/
import Derived.Test.YtimjiaabaanbeaaQk
/- The laws MatrixDeterminants and MatrixCramer. -/
namespace Go.Proofs.Ytimjiaabaanbeaa
open Go Go.Eng Go.Num Go.Proofs

theorem RIB.bd {z : Int} {ok : Bool} {N : Nat} (h : ok = true → Bd N z) : Bd N (if ok then z else 0) := by
  cases ok
  · exact Bd.zero N
  · exact h rfl

set_option maxHeartbeats 16000000 in
theorem lawDeterminants {vx va : Value} {rx cx nx r1 : Nat} {len1 : Nat → Nat} {X : Nat → Nat → Int} {L1 : Nat → Nat → Nat} {nsx : Nat → Int} {w : World}
    (hx : GridV w vx rx cx nx nsx) (ha : MatL w va r1 len1 X L1) :
    Meets Try.prog 4 #[vx, va] w (Law w) := by
  obtain ⟨Ax, capx, rfl, hx1, hx2, hx3, hx4⟩ := hx
  obtain ⟨Aa, capa, rfl, _⟩ := id ha
  refine fn_W (n := 64) Try.func4 rfl rfl (by kernel_rfl) (by simp) ?_
  refine gg ?_
  refine R1_box (v := .agg _) (.inl rfl) rfl ?_
  intro w1 hB1 hE1 hs1
  obtain ⟨gX, hgX⟩ : ∃ g, g = w.heap.size := ⟨_, rfl⟩
  rw [← hgX] at hB1 ⊢
  have hX1 : Blk w1 gX 25 #[.int .u8 ((rx : Nat) : Int), .int .u8 ((cx : Nat) : Int), .slice Ax nx capx] := hB1
  have hGx := GridV.agg hx1 hx2 hx3 hx4
  clear hB1 hgX
  refine gg ?_
  refine W_seq ?_
  refine gg ?_
  refine R1_call2 (large_ok _ r1 len1 X L1 w1 (ha.ext hE1)) ?_
  rintro _ _ ⟨rfl, b1, rfl, hb1⟩
  rcases b1 with _ | _
  rotate_left
  · refine gg ?_
    refine R1_call2 (awake_ok w1) ?_
    rintro _ w3 ⟨hE3, rfl⟩
    refine gg ?_
    exact ret1 (v := .bool _) rfl rfl ⟨hE1.trans hE3, rfl⟩
  have hSa := (hb1 rfl).e ha
  have hr1 : r1 ≤ 600 := (hb1 rfl).1
  by_cases hr6 : 6 < r1
  · refine gg ?_
    refine R1_call2 (awake_ok w1) ?_
    rintro _ w3 ⟨hE3, rfl⟩
    refine gg ?_
    exact ret1 (v := .bool _) rfl rfl ⟨hE1.trans hE3, rfl⟩
  obtain ⟨x0, x1, x2⟩ := blkT hX1
  have hm1 := Nat.mod_lt rx (show 0 < 6 by decide)
  obtain ⟨n, hn⟩ : ∃ n, n = 1 + rx % 6 := ⟨_, rfl⟩
  have hn1 : 1 ≤ n := by omega
  have hn2 : n ≤ 16 := by omega
  have hnb : n < 9223372036854775808 := by omega
  have bX : ∀ i j, i < n → j < n → Bd 1 (gridM n nx nsx i j) := fun i j _ _ => gridM_bd hx4 _ i j
  have hd1 := detB_bd (n := n) (by decide : 1 ≤ 1) bX
  have hNb : Nb 1 n < 68719476736 := Nb_big (by decide) hn2
  refine gg ?_
  refine R1_load3F (by decide) agg_Grid rfl x0 x1 x2 ?_
  clear x0 x1 x2
  refine gg ?_
  refine R1_call2 (gridSquare_ok _ rx cx nx 6 nsx w1 (hGx w1 hE1) (by decide) (by decide)) ?_
  rintro _ w2 ⟨hE2, g2, gs2, rfl, _, _, hO2⟩
  rw [← hn] at hO2 ⊢
  refine gg ?_
  refine R1_call2 (detT_ok (N := 1) (hO2.rd bX (by decide) hnb hnb) (by decide) (by decide) hn1 hn2) ?_
  rintro _ w3 ⟨hE3, xd, yd, rfl, hcd⟩
  refine gg ?_
  refine R1_alloc (.inl rfl) z_Int ?_
  intro w4a hBa_ hEa_ hsa_
  have hG0_ : Bx w4a w3.heap.size 1 true 0 := Bx.zero true hBa_
  obtain ⟨gB, hg_⟩ : ∃ g, g = w3.heap.size := ⟨_, rfl⟩
  rw [← hg_] at hG0_ ⊢
  refine gg ?_
  refine R1_storeBx (.inl rfl) rfl rfl hG0_ ((hcd.ext hEa_).ev true hd1) ?_
  intro w4 hb hCb_ hkb_ hsb_
  have hE4 : Ext w3 w4 := hCb_.ext_of hEa_ (fun b hb => by omega)
  clear hG0_ hBa_ hEa_ hsa_ hsb_ hCb_ hkb_ hg_
  have hE14 := hE2.trans (hE3.trans hE4)
  obtain ⟨x0, x1, x2⟩ := blkT (hX1.ext hE14)
  refine gg ?_
  refine R1_load3F (by decide) agg_Grid rfl x0 x1 x2 ?_
  clear x0 x1 x2
  refine gg ?_
  refine R1_call2 (gridSquare_ok _ rx cx nx 6 nsx w4 (hGx w4 (hE1.trans hE14)) (by decide) (by decide)) ?_
  rintro _ w5 ⟨hE5, g5, gs5, rfl, _, _, hO5⟩
  rw [← hn] at hO5 ⊢
  refine gg ?_
  refine R1_call2 (rdetX_ok _ n 1 _ _ w5 (hO5.rd bX (by decide) hnb hnb) (by decide) (by decide)) ?_
  rintro _ w6 ⟨hE6, xe, ye, rfl, hce⟩
  rw [okS_const hn1 hn2, if_pos rfl] at hce
  rw [okS_const hn1 hn2]
  refine gg ?_
  refine R1_alloc (.inl rfl) z_Int ?_
  intro w7a hBa_ hEa_ hsa_
  have hG0_ : Bx w7a w6.heap.size 1 true 0 := Bx.zero true hBa_
  obtain ⟨gC, hg_⟩ : ∃ g, g = w6.heap.size := ⟨_, rfl⟩
  rw [← hg_] at hG0_ ⊢
  refine gg ?_
  refine R1_storeBx (.inl rfl) rfl rfl hG0_ ((hce.ext hEa_).ev true hd1) ?_
  intro w7 hc hCb_ hkb_ hsb_
  have hE7 : Ext w6 w7 := hCb_.ext_of hEa_ (fun b hb => by omega)
  clear hG0_ hBa_ hEa_ hsa_ hsb_ hCb_ hkb_ hg_
  have hE17 := hE14.trans (hE5.trans (hE6.trans hE7))
  have hb := hb.ext (hE5.trans (hE6.trans hE7))
  have hE07 := hE1.trans hE17
  have hd2 : Bd (Nb 600 16) (if okS r1 len1 then detB r1 X else 0) := RIB.bd fun hok => by
    have hsq := okS_iff.1 hok
    have h1 := detB_bd (n := r1) (M := X) (by decide : 1 ≤ 600) (fun i j hi hj => (hSa.sq hsq.2.2).bd hi hj)
    refine h1.mono ?_
    have hmono : ∀ d k, Nb 600 k ≤ Nb 600 (k + d) := fun d => by
      induction d with
      | zero => intro k; exact Nat.le_refl _
      | succ d ih => intro k; exact Nat.le_trans (ih k) (Nb_mono 600 (k + d))
    have := hmono (16 - r1) r1
    rwa [show r1 + (16 - r1) = 16 by omega] at this
  have hNb2 : Nb 600 16 < 68719476736 := Nb_big (by decide) (by decide)
  refine gg ?_
  refine R1_call2 (det_ok _ r1 600 len1 X w7 (hSa.ext hE07) (by decide) (by decide)) ?_
  rintro _ w8 ⟨hE8, xf, yf, rfl, hcf⟩
  refine gg ?_
  refine R1_alloc (.inl rfl) z_Int ?_
  intro w9a hBa_ hEa_ hsa_
  have hG0_ : Bx w9a w8.heap.size 1 true 0 := Bx.zero true hBa_
  obtain ⟨gD, hg_⟩ : ∃ g, g = w8.heap.size := ⟨_, rfl⟩
  rw [← hg_] at hG0_ ⊢
  refine gg ?_
  refine R1_storeBx (.inl rfl) rfl rfl hG0_ ((hcf.ext hEa_).ev true hd2) ?_
  intro w9 hd hCb_ hkb_ hsb_
  have hE9 : Ext w8 w9 := hCb_.ext_of hEa_ (fun b hb => by omega)
  clear hG0_ hBa_ hEa_ hsa_ hsb_ hCb_ hkb_ hg_
  have hE09 := hE07.trans (hE8.trans hE9)
  refine gg ?_
  refine R1_call2 (rdetX_ok _ r1 600 len1 X w9 (hSa.ext hE09) (by decide) (by decide)) ?_
  rintro _ w10 ⟨hE10, xg, yg, rfl, hcg⟩
  refine gg ?_
  refine R1_alloc (.inl rfl) z_Int ?_
  intro w11a hBa_ hEa_ hsa_
  have hG0_ : Bx w11a w10.heap.size 1 true 0 := Bx.zero true hBa_
  obtain ⟨gE, hg_⟩ : ∃ g, g = w10.heap.size := ⟨_, rfl⟩
  rw [← hg_] at hG0_ ⊢
  refine gg ?_
  refine R1_storeBx (.inl rfl) rfl rfl hG0_ ((hcg.ext hEa_).ev true hd2) ?_
  intro w11 he hCb_ hkb_ hsb_
  have hE11 : Ext w10 w11 := hCb_.ext_of hEa_ (fun b hb => by omega)
  clear hG0_ hBa_ hEa_ hsa_ hsb_ hCb_ hkb_ hg_
  have hE0 := hE09.trans (hE10.trans hE11)
  have hd := hd.ext (hE10.trans hE11)
  have hb := hb.ext (hE8.trans (hE9.trans (hE10.trans hE11)))
  have hc := hc.ext (hE8.trans (hE9.trans (hE10.trans hE11)))
  obtain ⟨bx, by', hbB, hbv⟩ := hb
  obtain ⟨cx', cy', hcB, hcv⟩ := hc
  obtain ⟨p1, p2⟩ := blkP hbB
  obtain ⟨p3, p4⟩ := blkP hcB
  refine gg ?_
  refine R1_call2 (rsame_ok _ _ _ _ _ _ (Nb 1 n) (Nb 1 n) w11 (hbv.2 rfl) (hcv.2 rfl) (by omega) (by omega) hd1 hd1) ?_
  rintro _ w12 ⟨hE12, rfl⟩
  rw [decide_eq_true rfl]
  obtain ⟨dx, dy, hdB, hdv⟩ := hd.ext hE12
  obtain ⟨ex, ey, heB, hev⟩ := he.ext hE12
  clear p1 p2 p3 p4
  obtain ⟨p1, p2⟩ := blkP hdB
  obtain ⟨p3, p4⟩ := blkP heB
  refine gg ?_
  rw [show (okS r1 len1 == okS r1 len1) = true from beq_self_eq_true _]
  refine gg ?_
  refine R1_call2 (rsame_ok _ _ _ _ _ _ (Nb 600 16) (Nb 600 16) w12 (hdv.2 rfl) (hev.2 rfl) (by omega) (by omega) hd2 hd2) ?_
  rintro _ w13 ⟨hE13, rfl⟩
  rw [decide_eq_true rfl]
  refine gg ?_
  refine R1_call2 (awake_ok w13) ?_
  rintro _ w14 ⟨hE14', rfl⟩
  refine gg ?_
  exact ret1 (v := .bool _) rfl rfl ⟨hE0.trans (hE12.trans (hE13.trans hE14')), rfl⟩
end Go.Proofs.Ytimjiaabaanbeaa
