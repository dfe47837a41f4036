/- Joined: Lxi. -/
import Derived.Test.YtcjhcefnedonlaaQmg
import Derived.Test.YtcjhcefnedonlaaQmd
import Derived.Test.YtcjhcefnedonlaaQzf
/- The law BareissSchur. -/
namespace Go.Proofs.Ytcjhcefnedonlaa
open Go Go.Eng Go.Num Go.Proofs
open Go.Det (stg)

set_option maxHeartbeats 8000000 in
theorem quotient_ok (x1 y1 x2 y2 : Value) (z1 z2 : Int) (N : Nat) (w : World) (h1 : IV w N x1 y1 z1) (h2 : IV w N x2 y2 z2) (hN : N < 68719476736) (hz : z2 ≠ 0) :
    Meets Try.prog 43 #[.agg #[x1, y1], .agg #[x2, y2]] w (RQ w N z1 z2) := by
  refine fn_W (n := 9) Try.func43 rfl rfl (by kernel_rfl) (by simp) ?_
  have hX : Ext w w := Ext.refl w
  refine gg ?_
  refine R1_box (v := .agg _) (.inl rfl) rfl ?_
  intro w_1 hB0_ hE_ hs_
  have hA : Blk w_1 w.heap.size 35 #[x1, y1] := hB0_
  obtain ⟨gA, hg_⟩ : ∃ g, g = w.heap.size := ⟨_, rfl⟩
  rw [← hg_] at hA ⊢
  have hfr_gA : w.heap.size ≤ gA := by have := hX.size; omega
  replace h1 := h1.ext hE_
  replace h2 := h2.ext hE_
  replace hX := hX.trans hE_
  clear hB0_ hs_ hg_ hE_
  refine gg ?_
  refine R1_box (v := .agg _) (.inl rfl) rfl ?_
  intro w_2 hB0_ hE_ hs_
  have hB : Blk w_2 w_1.heap.size 35 #[x2, y2] := hB0_
  obtain ⟨gB, hg_⟩ : ∃ g, g = w_1.heap.size := ⟨_, rfl⟩
  rw [← hg_] at hB ⊢
  have hfr_gB : w.heap.size ≤ gB := by have := hX.size; omega
  have hne_gB_gA : gB ≠ gA := by have := hA.lt; omega
  replace h1 := h1.ext hE_
  replace h2 := h2.ext hE_
  replace hA := hA.ext hE_
  replace hX := hX.trans hE_
  clear hB0_ hs_ hg_ hE_
  refine gg ?_
  refine R1_alloc (.inl rfl) z_Rat ?_
  intro w_3 hB0_ hE_ hs_
  have hR := RB.zero hB0_
  obtain ⟨gR, hg_⟩ : ∃ g, g = w_2.heap.size := ⟨_, rfl⟩
  rw [← hg_] at hR ⊢
  have hfr_gR : w.heap.size ≤ gR := by have := hX.size; omega
  have hne_gR_gA : gR ≠ gA := by have := hA.lt; omega
  have hne_gR_gB : gR ≠ gB := by have := hB.lt; omega
  replace h1 := h1.ext hE_
  replace h2 := h2.ext hE_
  replace hA := hA.ext hE_
  replace hB := hB.ext hE_
  replace hX := hX.trans hE_
  clear hB0_ hs_ hg_ hE_
  obtain ⟨p0, p1⟩ := blkP hA
  obtain ⟨q0, q1⟩ := blkP hB
  refine gg ?_
  refine R1_bldRat rfl rfl ?_
  refine gg ?_
  refine R1_call2 (ratNormalize_ok _ _ _ _ z1 z2 N w_3 h1 h2 hN hz) ?_
  rintro _ w_4 ⟨hE_, a0, a1, a2, a3, rfl, hc1, hc2⟩
  replace h1 := h1.ext hE_
  replace h2 := h2.ext hE_
  replace hA := hA.ext hE_
  replace hB := hB.ext hE_
  replace hR := hR.ext hE_
  replace hX := hX.trans hE_
  clear hE_
  refine gg ?_
  refine R1_storeRB (.inl rfl) rfl rfl hR (hc1) (hc2) ?_
  intro w_5 hR hC_ hk_ hs_
  replace h1 := h1.kp hk_
  replace h2 := h2.kp hk_
  replace hA := hA.ch hC_ (by omega)
  replace hB := hB.ch hC_ (by omega)
  replace hc1 := hc1.kp hk_
  replace hc2 := hc2.kp hk_
  replace hX := hC_.ext_of hX (fun b hb => by omega)
  clear hC_ hk_ hs_
  have hb := low_bd h1.bd h2.bd
  refine gg ?_
  exact retRB rfl rfl hR fun x y x' y' h1 h2 => ⟨hX, x, y, x', y', rfl, _, _, h1, h2, hb.1, hb.2, lowD_pos hz, low_cross⟩

section
variable {P : Program} {n : Nat} {S : World → World → Prop} {k : Nat} {K : Fr → World → Prop} {f : Fr} {w : World} {d ty t : Nat} {x : Operand} {pos : String} {aft : Array Edge} {gd : Option (Nat × Bool)}
/-- x[lo:], something is left -/
theorem R1_sliceLT {e sz bytes m c l : Nat} {z : Value} {ad : Addr} {lo : Operand} (hT : SliceTy P t e sz bytes z) (hx : ev n f x = .slice (some ad) m c) (hl : ev n f lo = .int .i64 ((l : Nat) : Int)) (hlr : l ≤ m) (hlc : l < c)
    (h : K (upd f d (.slice (some (ad.add (l * sz))) (m - l) (c - l))) w) : R1 P n S k ⟨some d, .slice t x (some lo) none none, ty, pos, aft, gd⟩ K f w :=
  R1_sliceL hT hx hl hlr (by rw [if_neg (by omega)]; exact h)
end
theorem RowB.tail {w : World} {g c k N : Nat} {cn : Bool} {M : Nat → Int} (h : RowB w g c cn (fun _ => N) M) (hk : k ≤ c) (hc : c < 9223372036854775808) :
    RowE (EI N) w (.slice (some ((⟨g, 0, none⟩ : Addr).add (k * 2))) (c - k) (c - k)) (c - k) (fun j => M (k + j)) := by
  refine ⟨_, _, rfl, Nat.le_refl _, by omega, fun j hj => ?_⟩
  obtain ⟨x, y, e1, e2, hv⟩ := h.at (j := k + j) (by omega)
  refine ⟨_, x, y, rfl, ?_, ?_, hv.1⟩
  · rw [add_lit, add_lit, show 0 + k * 2 + j * 2 = 0 + (k + j) * 2 by omega]; exact e1
  · rw [add_lit, add_lit, show 0 + k * 2 + j * 2 = 0 + (k + j) * 2 by omega]; exact e2
theorem solN_bd {n N : Nat} {M : Nat → Nat → Int} {bg : Nat → Int} (hN : 1 ≤ N) (bM : ∀ i j, i < n → j < n → Bd N (M i j)) (bB : ∀ i, i < n → Bd N (bg i)) :
    (∀ i, i < n → Bd (Nb N n) (Go.Det.cr n (augM n M bg) i n)) ∧ Bd (Nb N n) (Go.Det.det n (augM n M bg)) := by
  refine ⟨fun i hi => ?_, ?_⟩
  · rw [← colR_cr hi, ← detB_det]
    refine detB_bd hN fun a b ha hb => ?_
    unfold colR; split
    · exact bB a ha
    · exact bM a b ha hb
  · rw [aug_det, ← detB_det]; exact detB_bd hN bM
theorem RatB.growR {w : World} {g k : Nat} {a b : Nat → Int} (h : RatB w g k a b) (hk : k < 9223372036854775808) : GrowR w (.slice (some ⟨g, 0, none⟩) k k) k a b :=
  .inr ⟨g, k, rfl, Nat.le_refl _, hk, h.congr fun i hi => by unfold cutR; rw [if_pos hi, if_pos hi]; exact ⟨rfl, rfl⟩⟩

set_option maxHeartbeats 32000000 in
theorem lawSchur {vx vl vk : Value} {rx cx nx m kk : Nat} {nsx ns : Nat → Int} {w : World} (hx : GridV w vx rx cx nx nsx) (hl : NumsV w vl m ns) (hk : ByteV vk kk) :
    Meets Try.prog 8 #[vx, vl, vk] w (Law w) := by
  obtain ⟨Ax, capx, rfl, hx1, hx2, hx3, hx4⟩ := hx
  obtain ⟨Al, capl, hvl, hl1, hl2⟩ := hl
  obtain ⟨rfl, hkk⟩ := hk
  refine fn_W (n := 213) Try.func8 rfl rfl (by kernel_rfl) (by simp) ?_
  have hGx := GridV.agg hx1 hx2 hx3 hx4
  have hX : Ext w w := Ext.refl w
  refine gg ?_
  refine R1_box (v := .agg _) (.inl rfl) rfl ?_
  intro w_1 hB0_ hE_ hs_
  have hX1 : Blk w_1 w.heap.size 24 #[.int .u8 ((rx : Nat) : Int), .int .u8 ((cx : Nat) : Int), .slice Ax nx capx] := hB0_
  obtain ⟨gX, hg_⟩ : ∃ g, g = w.heap.size := ⟨_, rfl⟩
  rw [← hg_] at hX1 ⊢
  have hfr_gX : w.heap.size ≤ gX := by have := hX.size; omega
  replace hX := hX.trans hE_
  clear hB0_ hs_ hg_ hE_
  have hm1 := Nat.mod_lt rx (show 0 < 4 by decide)
  obtain ⟨n, hn⟩ : ∃ n, n = 1 + rx % 4 := ⟨_, rfl⟩
  have hn1 : 1 ≤ n := by omega
  have hn4 : n ≤ 4 := by omega
  have hn2 : n ≤ 16 := by omega
  have hnb : n < 9223372036854775808 := by omega
  obtain ⟨X, hXd⟩ : ∃ X, X = gridM n nx nsx := ⟨_, rfl⟩
  have bX : ∀ i j, i < n → j < n → Bd 1 (X i j) := fun i j _ _ => by rw [hXd]; exact gridM_bd hx4 _ i j
  obtain ⟨x0, x1, x2⟩ := blkT hX1
  refine gg ?_
  refine R1_load3F (by decide) agg_Grid rfl x0 x1 x2 ?_
  clear x0 x1 x2
  refine gg ?_
  refine R1_call2 (gridSquare_ok _ rx cx nx 4 nsx w_1 (hGx w_1 hX) (by decide) (by decide)) ?_
  rintro _ w_2 ⟨hE_, ga, gs, rfl, _, _, hO⟩
  replace hX1 := hX1.ext hE_
  replace hX := hX.trans hE_
  clear hE_
  rw [← hn, ← hXd] at hO
  rw [← hn]
  have hokX : okM n (fun _ => n) = true := okM_iff.2 ⟨⟨by omega, by omega, by omega, by omega⟩, fun _ _ => rfl⟩
  have hokS : okS n (fun _ => n) = true := okS_iff.2 ⟨hn1, hn2, fun _ _ => rfl⟩
  refine gg ?_
  refine R1_call2 (rtranspose_ok _ n 1 (fun _ => n) X w_2 (hO.rd bX (Nat.le_refl _) hnb hnb) (by decide)) ?_
  intro v4 w4 h4
  obtain ⟨_, rfl, hE4, gT, gsT, rfl, _, _, hT⟩ := h4.get hokX
  replace hX := hX.trans hE4
  replace hO := hO.ext hE4
  clear h4 hE4 hX1
  refine gg ?_
  refine R1_call2 (rproduct_ok _ _ n n 1 (fun _ => n) (fun _ => n) (fun i j => X j i) X w4 (hT.rd (fun i j hi hj => bX j i hj hi) (Nat.le_refl _) hnb hnb) (hO.rd bX (Nat.le_refl _) hnb hnb) (by decide)) ?_
  intro v5 w5 h5
  obtain ⟨hE5, gG, gsG, rfl, _, _, hG⟩ := h5.get (by unfold okMul; rw [hokX]; simp)
  replace hX := hX.trans hE5
  replace hO := hO.ext hE5
  clear h5 hE5 hT
  obtain ⟨G, hGd⟩ : ∃ G, G = mulM n (fun i j => X j i) X := ⟨_, rfl⟩
  have bG : ∀ i j, i < n → j < n → Bd 3 (G i j) := fun i j hi hj => by
    rw [hGd]; exact sumTo_bd (N := 2) (by omega) fun q hq => (bX q i hq hi).mul (bX q j hq hj)
  rw [← hGd] at hG
  refine gg ?_
  refine W_seq ?_
  refine gg ?_
  refine R1_call2 (rdet_ok _ n 1 X w5 (hO.rd bX (Nat.le_refl _) hnb hnb) hn2 (by decide) (by decide)) ?_
  rintro _ w6 ⟨hE6, a0, a1, rfl, hcd⟩
  have bdt : Bd (Nb 1 16) (detB n X) := (detB_bd (by decide) bX).mono (Nb_le16 1 n hn2)
  have hNv : Nb 1 16 = 131071 := by decide
  have hNv3 : Nb 3 16 = 262143 := by decide
  replace hX := hX.trans hE6
  replace hG := hG.ext hE6
  refine gg ?_
  refine R1_call2 (rsign_ok _ _ _ (Nb 1 16) w6 (hcd.iv bdt) (by omega)) ?_
  rintro _ w7 ⟨hE7, rfl⟩
  replace hX := hX.trans hE7
  replace hG := hG.ext hE7
  rw [detB_det]
  clear hE6 hE7 hcd bdt hO
  by_cases hz : Go.Det.det n X = 0
  · have hs : (Go.Det.det n X).sign = 0 := by rw [hz]; rfl
    refine gg ?_
    refine R1_call2 (awake4_ok w7) ?_
    rintro _ w8 ⟨hE8, rfl⟩
    refine gg ?_
    exact ret1 (v := .bool _) rfl rfl ⟨hX.trans hE8, rfl⟩
  have hs : ¬ (Go.Det.det n X).sign = 0 := fun e => hz (Int.sign_eq_zero_iff_zero.1 e)
  by_cases hn2' : n < 2
  · refine gg ?_
    refine R1_call2 (awake4_ok w7) ?_
    rintro _ w8 ⟨hE8, rfl⟩
    refine gg ?_
    exact ret1 (v := .bool _) rfl rfl ⟨hX.trans hE8, rfl⟩
  have hmin : ∀ q, q ≤ n → 0 < Go.Det.det q G := fun q hq => by
    rw [hGd, mulM_mul]; exact Go.Det.gram_minors hz q hq
  have hmod := Nat.mod_lt kk (show 0 < n - 1 by omega)
  refine gg ?_
  refine R1_rem_i64 rfl rfl (by omega) ?_
  refine gg ?_
  obtain ⟨k, hkd⟩ : ∃ k, k = 1 + kk % (n - 1) := ⟨_, rfl⟩
  rw [← hkd]
  have hk1 : 1 ≤ k := by omega
  have hkn : k < n := by omega
  have hk3 : k ≤ 3 := by omega
  clear hkd hmod
  refine R1_call2 (stages_ok _ n 3 (fun _ => n) G w7 (hG.rd bG (Nat.le_refl _) hnb hnb) (by decide) (by decide)) ?_
  have hstg : ∀ q, q ≤ n → ∀ i j, stg G q i j = Go.Det.bm q G (q + i) (q + j) := fun q hq => (Go.Det.stg_bm G q fun p h1 h2 => by have := hmin p (by omega); omega).1
  have hokst : okSt n G := fun q hq => by
    rw [hstg q (by omega), Nat.add_zero, Go.Det.bm_self]
    have := hmin (q + 1) (by omega); omega
  rintro _ w8 ⟨hE8, ⟨hp, _⟩ | ⟨_, u, gos, ges, rfl, hSt⟩⟩
  · exact absurd ⟨hokS, hokst⟩ hp
  replace hX := hX.trans hE8
  replace hG := hG.ext hE8
  clear hE8
  obtain ⟨gl, cp, rfl, _⟩ := hSt.list (by omega)
  refine gg ?_
  refine R1_call2 (leading_ok _ n 3 (fun _ => n) G w8 (hG.rd bG (Nat.le_refl _) hnb hnb) (by decide) (by decide)) ?_
  rintro _ w9 ⟨hE9, ⟨hp, _⟩ | ⟨_, gd, rfl, hLd⟩⟩
  · rw [hokS] at hp; cases hp
  replace hX := hX.trans hE9
  replace hG := hG.ext hE9
  replace hSt := hSt.ext hE9
  clear hE9
  have hkc : w9.cell? ⟨gl, 0 + k * 1, none⟩ = some (.slice (some ⟨gos k, 0, none⟩) (n - k) (n - k)) := by
    obtain ⟨gl', cp', e, hc⟩ := hSt.list (by omega)
    injection e with e1 _ _
    injection e1 with e1
    injection e1 with e1 _ _
    subst e1
    exact hc k hkn
  refine gg ?_
  refine W_seq ?_
  refine gg ?_
  refine R1_len sl_ssInt rfl ?_
  refine gg ?_
  refine R1_indexB sl_ssInt rfl rfl hkn ?_
  refine gg ?_
  rw [hvl]
  refine gg ?_
  clear hkc
  refine R1_call2 (column_ok Al m capl (n - k) ns w9 (hl2.ext hX) (by omega)) ?_
  rintro vt w10 ⟨hE10, hC, _⟩
  replace hX := hX.trans hE10
  replace hG := hG.ext hE10
  replace hSt := hSt.ext hE10
  replace hLd := hLd.ext hE10
  clear hE10
  obtain ⟨t, ht⟩ : ∃ t, t = tp m ns := ⟨_, rfl⟩
  rw [← ht] at hC
  have hCr := hC.rowE
  have bt := RowE.bdS hCr
  obtain ⟨sd, hsd⟩ : ∃ sd : Nat → Int, sd = fun r => -(sumTo (n - k) fun b => G r (k + b) * t b) := ⟨_, rfl⟩
  have bsd : ∀ r, r < k → Bd 5 (sd r) := fun r hr => by
    rw [hsd]; exact (sumTo_bd (N := 4) (by omega) fun b hb => (bG r (k + b) (by omega) (by omega)).mul (bt b hb)).neg'
  have hWG := hG.wm true bG
  refine gg ?_
  refine W_seqM (fun f w' => ∃ vs, f 10 = .slice (some ⟨gG, 0, none⟩) n n ∧ f 11 = .int .i64 ((k : Nat) : Int) ∧ f 12 = .slice (some ⟨gl, 0, none⟩) n cp ∧ f 14 = .slice (some ⟨gd, 0, none⟩) n n ∧ f 16 = vt ∧ f 17 = vs ∧ Ext w10 w' ∧ GrowB w' vs k true 5 sd) ?_ ?_
  · refine gg ?_
    refine W_loop (fun m f w' => ∃ r vs, m = k - r ∧ r ≤ k ∧ f 10 = .slice (some ⟨gG, 0, none⟩) n n ∧ f 11 = .int .i64 ((k : Nat) : Int) ∧ f 12 = .slice (some ⟨gl, 0, none⟩) n cp ∧ f 14 = .slice (some ⟨gd, 0, none⟩) n n ∧ f 16 = vt ∧ f 17 = vs ∧ f 18 = .int .i64 ((r : Nat) : Int) ∧ Ext w10 w' ∧ GrowB w' vs r true 5 sd ∧ ∀ b, some b = vs.ownBlock → w10.heap.size ≤ b)
      k ⟨0, .slice none 0 0, rfl, Nat.zero_le _, rfl, rfl, rfl, rfl, rfl, rfl, rfl, Ext.refl _, GrowB.nil, fun b hb => by cases hb⟩ ?_
    rintro m' f w11 ⟨r, vs, rfl, hr, hf10, hf11, hf12, hf14, hf16, hf17, hf18, hE, hS, hown⟩
    rw [ui hf10, ui hf11, ui hf12, ui hf14, ui hf16, ui hf17, ui hf18]
    clear hf10 hf11 hf12 hf14 hf16 hf17 hf18
    refine W_seq ?_
    by_cases hrk : r < k
    rotate_left
    · obtain rfl : r = k := by omega
      refine gg ?_
      exact ⟨vs, rfl, rfl, rfl, rfl, rfl, rfl, hE, hS⟩
    have hrow := (hWG.ext hE).at (i := r) (by omega)
    have hrb := ((hWG.ext hE).row r (by omega)).tail (Nat.le_of_lt hkn) hnb
    refine gg ?_
    refine R1_sliceLT sl_Int rfl rfl (by omega) hkn ?_
    refine gg ?_
    refine R1_call2 (dot_ok _ _ (n - k) 3 _ t w11 hrb ((hCr.ext hE).mono (by decide)) (by omega) (by decide)) ?_
    rintro _ w12 ⟨hE12, a0, a1, rfl, hcv⟩
    have hbv : Bd 5 (sumTo (n - k) fun b => G r (k + b) * t b) := sumTo_bd (N := 4) (by omega) fun b hb => (bG r (k + b) (by omega) (by omega)).mul (bt b hb)
    refine gg ?_
    refine R1_call2 (rneg_ok _ _ _ 5 w12 (hcv.iv hbv) (by decide)) ?_
    rintro _ w13 ⟨hE13, b0, b1, rfl, hcn⟩
    refine gg ?_
    refine R1_sliceE1 (.inl rfl) rfl ?_
    intro w14 hB14 hE14 hs14
    obtain ⟨p1, p2⟩ := blkP hB14
    have hE1114 := hE12.trans (hE13.trans hE14)
    have hcn : CV w13 b0 b1 (sd r) := by rw [hsd]; exact hcn
    refine gg ?_
    refine R1_appE (.inl rfl) rfl rfl (hS.ext hE1114) p1 p2 ((hcn.ext hE14).ev true (bsd r hrk)) (by omega) ?_
    intro v' w15 hS15 hk15 hC15 hv15
    have hsz := (hE.trans hE1114).size
    refine gg ?_
    refine ⟨_, ?_, r + 1, v', rfl, by omega, rfl, rfl, rfl, rfl, rfl, rfl, rfl, hC15.ext_of (hE.trans hE1114) hown, hS15.congr fun q _ => ?_, fun b hb => ?_⟩
    · omega
    · split
      · rename_i e; rw [e]
      · rfl
    · rcases hv15 with e | e
      · exact hown b (hb.trans e)
      · rw [e] at hb; injection hb with hb; omega
  rintro f w11 ⟨vs, hf10, hf11, hf12, hf14, hf16, hf17, hE, hS⟩
  rw [ui hf10, ui hf11, ui hf12, ui hf14, ui hf16, ui hf17]
  clear hf10 hf11 hf12 hf14 hf16 hf17
  replace hX := hX.trans hE
  replace hG := hG.ext hE
  replace hSt := hSt.ext hE
  replace hLd := hLd.ext hE
  replace hCr := hCr.ext hE
  clear hE hC hWG
  refine gg ?_
  refine R1_call2 (rwithout_ok k (-1) w11 (by omega)) ?_
  rintro vr w_3 ⟨hE_, hI1⟩
  replace hG := hG.ext hE_
  replace hSt := hSt.ext hE_
  replace hLd := hLd.ext hE_
  replace hCr := hCr.ext hE_
  replace hS := hS.ext hE_
  replace hX := hX.trans hE_
  clear hE_
  refine gg ?_
  refine R1_call2 (rwithout_ok k (-1) w_3 (by omega)) ?_
  rintro vc w_4 ⟨hE_, hI2⟩
  replace hG := hG.ext hE_
  replace hSt := hSt.ext hE_
  replace hLd := hLd.ext hE_
  replace hCr := hCr.ext hE_
  replace hS := hS.ext hE_
  replace hI1 := hI1.ext hE_
  replace hX := hX.trans hE_
  clear hE_
  have hwo : woLen k (-1) = k := by unfold woLen; rw [if_neg (by omega)]
  have hwa : ∀ j, woAt (-1) j = j := fun j => by unfold woAt; rw [if_neg (by omega)]
  rw [hwo] at hI1 hI2
  refine gg ?_
  refine R1_call2 (rselect_ok _ _ _ n n k k 3 _ _ G w_4 (hG.rd bG (Nat.le_refl _) hnb hnb) hI1 hI2 (fun q hq => by rw [hwa]; omega) (fun q hq => by rw [hwa]; omega) (by omega) (by omega)) ?_
  rintro vb w_5 ⟨hE_, hMb⟩
  replace hG := hG.ext hE_
  replace hSt := hSt.ext hE_
  replace hLd := hLd.ext hE_
  replace hCr := hCr.ext hE_
  replace hS := hS.ext hE_
  replace hI1 := hI1.ext hE_
  replace hI2 := hI2.ext hE_
  replace hX := hX.trans hE_
  clear hE_
  rw [show (fun i j => G (woAt (-1) i) (woAt (-1) j)) = G from by funext i j; rw [hwa, hwa]] at hMb
  obtain ⟨P, hP⟩ : ∃ P, P = augM k G sd := ⟨_, rfl⟩
  obtain ⟨D, hD⟩ : ∃ D, D = Go.Det.det k G := ⟨_, rfl⟩
  have hDP : Go.Det.det k P = D := by rw [hP, aug_det, hD]
  have hDpos : 0 < D := by rw [hD]; exact hmin k (by omega)
  have hD0 : D ≠ 0 := by omega
  obtain ⟨bcr, bD⟩ := solN_bd (N := 5) (M := G) (bg := sd) (by decide) (fun i j hi hj => (bG i j (show i < n by omega) (show j < n by omega)).mono (by decide)) bsd
  rw [← hP] at bcr bD
  rw [hDP] at bD
  have hNb47 : Nb 5 k ≤ 47 := by
    have h := Nb_le 5 k
    have h2 : 2 ^ k ≤ 2 ^ 3 := Nat.pow_le_pow_right (by decide) hk3
    have h3 : 2 ^ k * (5 + 1) ≤ 2 ^ 3 * 6 := Nat.mul_le_mul h2 (by omega)
    omega
  have hokk : okS k (fun _ => k) = true := okS_iff.2 ⟨hk1, by omega, fun _ _ => rfl⟩
  obtain ⟨wB, hwB⟩ : ∃ wB, wB = w_5 := ⟨_, rfl⟩
  rw [← hwB] at hX hG hSt hLd hCr hS hMb ⊢
  clear hI1 hI2
  refine gg ?_
  refine R1_call2 (bsolve_ok _ _ k 5 k (fun _ => k) G sd wB (hMb.mono (by decide)) hS.rowE (by decide) (by decide)) ?_
  rw [← hP]
  rintro _ wC ⟨hEC, ⟨hp, _⟩ | ⟨_, hp, _⟩ | ⟨_, _, gH, hgH, rfl, hH⟩⟩
  · exact absurd ⟨hokk, rfl⟩ hp
  · exact absurd (hDP.symm.trans hp) hD0
  rw [hDP] at hH
  clear hMb hS
  obtain ⟨H, hHd⟩ : ∃ H : Nat → Int, H = fun i => Go.Det.cr k P i k := ⟨_, rfl⟩
  have hHs : ∀ r, r < k → (Go.Det.sm k fun c => G r c * H c) = Go.Det.det k G * -(Go.Det.sm (n - k) fun b => G r (k + b) * t b) := fun r hr => by
    have h := Go.Det.cramer k P r k hr
    rw [hDP, show P r k = sd r by rw [hP]; unfold augM; rw [if_pos rfl], hsd, hD] at h
    simp only [sumTo_sm] at h
    rw [← h, hHd]
    exact Go.Det.sm_congr fun c hc => by rw [hP]; unfold augM; rw [if_neg (by omega)]
  have bH : ∀ i, i < k → Bd 47 (H i) := fun i hi => by rw [hHd]; exact (bcr i hi).mono hNb47
  replace bD : Bd 47 D := bD.mono hNb47
  obtain ⟨an, han⟩ : ∃ an : Nat → Int, an = fun j => if j < k then lowN (H j) D else t (j - k) := ⟨_, rfl⟩
  obtain ⟨ad, had⟩ : ∃ ad : Nat → Int, ad = fun j => if j < k then lowD (H j) D else 1 := ⟨_, rfl⟩
  have hGr : GrowR wC (.slice (some ⟨gH, 0, none⟩) k k) k an ad := (hH.growR (by omega)).congr fun j hj => by
    rw [han, had, hHd]
    simp only [if_pos hj]
    exact ⟨trivial, trivial⟩
  refine gg ?_
  refine W_seq ?_
  refine gg ?_
  refine R1_len sl_Rat rfl ?_
  refine gg ?_
  clear hH
  obtain ⟨At, ct, hvt, _⟩ := id hCr
  refine W_seqM (fun f w' => ∃ vh, f 10 = .slice (some ⟨gG, 0, none⟩) n n ∧ f 11 = .int .i64 ((k : Nat) : Int) ∧ f 12 = .slice (some ⟨gl, 0, none⟩) n cp ∧ f 14 = .slice (some ⟨gd, 0, none⟩) n n ∧ f 16 = vt ∧ f 20 = vh ∧ Ext wB w' ∧ GrowR w' vh n an ad) ?_ ?_
  · rw [hvt]
    refine gg ?_
    rw [← hvt]
    refine W_loop (fun m f w' => ∃ b vh, m = n - k - b ∧ b ≤ n - k ∧ f 10 = .slice (some ⟨gG, 0, none⟩) n n ∧ f 11 = .int .i64 ((k : Nat) : Int) ∧ f 12 = .slice (some ⟨gl, 0, none⟩) n cp ∧ f 14 = .slice (some ⟨gd, 0, none⟩) n n ∧ f 16 = vt ∧ f 20 = vh ∧ f 141 = vt ∧ f 142 = .int .i64 (((n - k) : Nat) : Int) ∧ f 143 = .int .i64 ((b : Nat) : Int) ∧ Ext wB w' ∧ GrowR w' vh (k + b) an ad ∧ ∀ c, some c = vh.ownBlock → wB.heap.size ≤ c)
      (n - k) ⟨0, _, rfl, Nat.zero_le _, rfl, rfl, rfl, rfl, rfl, rfl, rfl, rfl, rfl, hEC, hGr, fun c hc => by injection hc with hc; subst hc; exact hgH⟩ ?_
    clear hGr hEC hX
    rintro m' f w12 ⟨b, vh, rfl, hb, hf10, hf11, hf12, hf14, hf16, hf20, hf141, hf142, hf143, hX, hGr, hown⟩
    rw [ui hf10, ui hf11, ui hf12, ui hf14, ui hf16, ui hf20, ui hf141, ui hf142, ui hf143]
    clear hf10 hf11 hf12 hf14 hf16 hf20 hf141 hf142 hf143
    by_cases hbl : b < n - k
    rotate_left
    · obtain rfl : b = n - k := by omega
      rw [show k + (n - k) = n by omega] at hGr
      refine gg ?_
      exact ⟨vh, rfl, rfl, rfl, rfl, rfl, rfl, hX, hGr⟩
    obtain ⟨adt, cpt, x0, y0, hvt', hc0, hc1, hev⟩ := (hCr.ext hX).at hbl
    rw [hvt']
    have hX : Ext wB w12 := hX
    refine gg ?_
    refine R1_alloc (.inl rfl) z_Int ?_
    intro w13 hB0 hE13 hs13
    have hI := Bx.zero (N := 1) false hB0
    obtain ⟨gI, hgI⟩ : ∃ g, g = w12.heap.size := ⟨_, rfl⟩
    rw [← hgI] at hI ⊢
    refine gg ?_
    refine R1_storeBx (N' := 1) (.inl rfl) rfl rfl hI ⟨IV.ext hev hE13, fun e => by cases e⟩ ?_
    intro w14 hI hC_ hk_ hs_
    have hE1214 : Ext w12 w14 := hC_.ext_of hE13 (fun b hb => by omega)
    replace hX := hX.trans hE1214
    replace hGr := hGr.ext hE1214
    clear hc0 hc1 hB0 hs13 hE13 hC_ hk_ hs_
    obtain ⟨hI_u, hI_v, hI_B, hI_V⟩ := id hI
    obtain ⟨hI_0, hI_1⟩ := blkP hI_B
    refine gg ?_
    refine R1_call2 (whole_ok _ _ _ 1 w14 hI_V.1 (by decide)) ?_
    rintro _ w_6 ⟨hE_, v0, v1, v2, v3, rfl, hv0, hv1⟩
    replace hGr := hGr.ext hE_
    replace hX := hX.trans hE_
    clear hE_
    refine gg ?_
    refine R1_sliceR1 (.inl rfl) rfl ?_
    intro w16 hB16 hE16 hs16
    obtain ⟨q0, q1, q2, q3⟩ := blkQ hB16
    replace hX := hX.trans hE16
    refine gg ?_
    refine R1_appR (.inl rfl) rfl rfl (hGr.ext hE16) q0 q1 q2 q3 (hv0.ext hE16) (hv1.ext hE16) (by omega) ?_
    intro v' w17 hG17 hk17 hC17 hv17
    have hsz := hX.size
    refine gg ?_
    rw [← hvt']
    refine ⟨_, ?_, b + 1, v', rfl, by omega, rfl, rfl, rfl, rfl, rfl, rfl, rfl, rfl, rfl, hC17.ext_of hX hown, hG17.congr fun q hq => ?_, fun c hc => ?_⟩
    · omega
    · by_cases e : q = k + b
      · rw [if_pos e, if_pos e, han, had, e]
        simp only [if_neg (show ¬ k + b < k by omega), show k + b - k = b by omega]
        exact ⟨trivial, trivial⟩
      · rw [if_neg e, if_neg e]; exact ⟨rfl, rfl⟩
    · rcases hv17 with e | e
      · exact hown c (hc.trans e)
      · rw [e] at hc; injection hc with hc
        have := hE16.size
        omega
  clear hGr
  rintro f w12 ⟨vh, hf10, hf11, hf12, hf14, hf16, hf20, hEB, hGr⟩
  rw [ui hf10, ui hf11, ui hf12, ui hf14, ui hf16, ui hf20]
  clear hf10 hf11 hf12 hf14 hf16 hf20
  replace hX := hX.trans hEB
  replace hG := hG.ext hEB
  replace hSt := hSt.ext hEB
  replace hLd := hLd.ext hEB
  replace hCr := hCr.ext hEB
  clear hEB hEC
  have hHr := hGr.read
  clear hGr
  obtain ⟨Y, hY⟩ : ∃ Y, Y = Go.Det.schY k D H t := ⟨_, rfl⟩
  -- each entry stands for Y / D
  have hQ : ∀ j, j < n → Bd 47 (an j) ∧ Bd 47 (ad j) ∧ 0 < ad j ∧ an j * D = Y j * ad j := fun j hj => by
    rw [han, had, hY]
    simp only [Go.Det.schY]
    by_cases e : j < k
    · rw [if_pos e, if_pos e, if_pos e]
      have hlb := low_bd (bH j e) bD
      exact ⟨hlb.1, hlb.2, lowD_pos hD0, low_cross⟩
    · rw [if_neg e, if_neg e, if_neg e]
      refine ⟨(bt (j - k) (by omega)).mono (by decide), (show Bd 1 1 by unfold Bd; decide).mono (by decide), by decide, ?_⟩
      rw [Int.mul_one, Int.mul_comm]
  clear han had
  have hMr : MatE (EI 3) w12 (.slice (some ⟨gG, 0, none⟩) n n) n (fun _ => n) G := hG.rd bG (Nat.le_refl _) hnb hnb
  have hWG := hG.wm true bG
  have hNs : ∀ j, j ≤ 16 → Nb 188 j < 12386304 := fun j hj => by
    have h := Nb_le 188 j
    have h2 : 2 ^ j ≤ 2 ^ 16 := Nat.pow_le_pow_right (by decide) hj
    have h3 : 2 ^ j * (188 + 1) ≤ 2 ^ 16 * 189 := Nat.mul_le_mul h2 (by omega)
    have : (2 : Nat) ^ 16 * 189 = 12386304 := by decide
    omega
  obtain ⟨A1, c1, hvh, _⟩ := id hHr
  obtain ⟨T, hTd⟩ : ∃ T : Nat → Nat → Int, T = fun r c => Go.Det.sm r (fun p => Go.Det.sm n fun q => G p q * (Y p * Y q)) + Go.Det.sm c fun q => G r q * (Y r * Y q) := ⟨_, rfl⟩
  have hT0 : ∀ r, T (r + 1) 0 = T r n := fun r => by rw [hTd]; simp only [Go.Det.sm]; omega
  have hTs : ∀ r c, T r (c + 1) = T r c + G r c * (Y r * Y c) := fun r c => by rw [hTd]; simp only [Go.Det.sm]; omega
  have hX0 := hX
  clear hX
  have hX : Ext w12 w12 := Ext.refl w12
  refine gg ?_
  refine R1_call2 (ratSmall_ok 0 w12 (by decide) (by decide)) ?_
  rintro _ w_7 ⟨hE_, x0, x1, x2, x3, rfl, hz0, hz1⟩
  replace hX := hX.trans hE_
  clear hE_
  refine gg ?_
  refine R1_alloc (.inl rfl) z_Rat ?_
  intro w_8 hB0_ hE_ hs_
  have hN := RB.zero hB0_
  obtain ⟨gN, hg_⟩ : ∃ g, g = w_7.heap.size := ⟨_, rfl⟩
  rw [← hg_] at hN ⊢
  have hfr_gN : w12.heap.size ≤ gN := by have := hX.size; omega
  replace hz0 := hz0.ext hE_
  replace hz1 := hz1.ext hE_
  replace hX := hX.trans hE_
  clear hB0_ hs_ hg_ hE_
  refine gg ?_
  refine R1_storeRB (.inl rfl) rfl rfl hN (hz0) (hz1) ?_
  intro w_9 hN hC_ hk_ hs_
  replace hz0 := hz0.kp hk_
  replace hz1 := hz1.kp hk_
  replace hX := hC_.ext_of hX (fun b hb => by omega)
  clear hC_ hk_ hs_
  refine gg ?_
  refine W_seqM (fun f w' => f 10 = .slice (some ⟨gG, 0, none⟩) n n ∧ f 11 = .int .i64 ((k : Nat) : Int) ∧ f 12 = .slice (some ⟨gl, 0, none⟩) n cp ∧ f 14 = .slice (some ⟨gd, 0, none⟩) n n ∧ f 16 = vt ∧ f 20 = vh ∧ f 24 = .pointer (some ⟨gN, 0, none⟩) ∧ Ext w12 w' ∧ ∃ p q, RB w' gN p q ∧ Bd (Nb 188 16) p ∧ Bd (Nb 188 16) q ∧ 0 < q ∧ p * (D * D) = T n 0 * q) ?_ ?_
  · refine gg ?_
    refine W_loop (fun m f w' => ∃ r, m = n - r ∧ r ≤ n ∧ f 10 = .slice (some ⟨gG, 0, none⟩) n n ∧ f 11 = .int .i64 ((k : Nat) : Int) ∧ f 12 = .slice (some ⟨gl, 0, none⟩) n cp ∧ f 14 = .slice (some ⟨gd, 0, none⟩) n n ∧ f 16 = vt ∧ f 20 = vh ∧ f 24 = .pointer (some ⟨gN, 0, none⟩) ∧ f 155 = .int .i64 ((n : Nat) : Int) ∧ f 156 = .int .i64 ((r : Nat) : Int) ∧ Ext w12 w' ∧ ∃ p q, RB w' gN p q ∧ Bd (Nb 188 (r * n)) p ∧ Bd (Nb 188 (r * n)) q ∧ 0 < q ∧ p * (D * D) = T r 0 * q)
      n ⟨0, rfl, Nat.zero_le _, rfl, rfl, rfl, rfl, rfl, rfl, rfl, rfl, rfl, hX, 0, 1, hN, Bd.zero _, (show Bd 1 1 by unfold Bd; decide).mono (Nat.le_trans (by decide) (Nb_ge 188 _)), by decide, by rw [hTd]; simp [Go.Det.sm]⟩ ?_
    clear hX hN
    rintro m' f w13 ⟨r, rfl, hr, hf10, hf11, hf12, hf14, hf16, hf20, hf24, hf155, hf156, hX, p, q, hN, bp, bq, hq, he⟩
    rw [ui hf10, ui hf11, ui hf12, ui hf14, ui hf16, ui hf20, ui hf24, ui hf155, ui hf156]
    clear hf10 hf11 hf12 hf14 hf16 hf20 hf24 hf155 hf156
    by_cases hrn : r < n
    rotate_left
    · obtain rfl : r = n := by omega
      have h16 : r * r ≤ 4 * 4 := Nat.mul_le_mul hn4 hn4
      refine gg ?_
      exact ⟨rfl, rfl, rfl, rfl, rfl, rfl, rfl, hX, p, q, hN, bp.mono (Nb_le16 188 _ h16), bq.mono (Nb_le16 188 _ h16), hq, he⟩
    have hr12 : r * n ≤ 3 * 4 := Nat.mul_le_mul (by omega) hn4
    refine gg ?_
    refine W_loop (fun m f w' => ∃ c, m = n - c ∧ c ≤ n ∧ f 10 = .slice (some ⟨gG, 0, none⟩) n n ∧ f 11 = .int .i64 ((k : Nat) : Int) ∧ f 12 = .slice (some ⟨gl, 0, none⟩) n cp ∧ f 14 = .slice (some ⟨gd, 0, none⟩) n n ∧ f 16 = vt ∧ f 20 = vh ∧ f 24 = .pointer (some ⟨gN, 0, none⟩) ∧ f 155 = .int .i64 ((n : Nat) : Int) ∧ f 156 = .int .i64 ((r : Nat) : Int) ∧ f 25 = .int .i64 ((r : Nat) : Int) ∧ f 160 = .int .i64 ((n : Nat) : Int) ∧ f 161 = .int .i64 ((c : Nat) : Int) ∧ Ext w12 w' ∧ ∃ p q, RB w' gN p q ∧ Bd (Nb 188 (r * n + c)) p ∧ Bd (Nb 188 (r * n + c)) q ∧ 0 < q ∧ p * (D * D) = T r c * q)
      n ⟨0, rfl, Nat.zero_le _, rfl, rfl, rfl, rfl, rfl, rfl, rfl, rfl, rfl, rfl, rfl, rfl, hX, p, q, hN, bp, bq, hq, he⟩ ?_
    clear hX hN bp bq hq he p q
    rintro m' f w14 ⟨c, rfl, hc, hf10, hf11, hf12, hf14, hf16, hf20, hf24, hf155, hf156, hf25, hf160, hf161, hX, p, q, hN, bp, bq, hq, he⟩
    rw [ui hf10, ui hf11, ui hf12, ui hf14, ui hf16, ui hf20, ui hf24, ui hf155, ui hf156, ui hf25, ui hf160, ui hf161]
    clear hf10 hf11 hf12 hf14 hf16 hf20 hf24 hf155 hf156 hf25 hf160 hf161
    by_cases hcn : c < n
    rotate_left
    · obtain rfl : c = n := by omega
      rw [show r * c + c = (r + 1) * c by rw [Nat.add_mul, Nat.one_mul]] at bp bq
      refine gg ?_
      refine ⟨_, ?_, r + 1, rfl, hrn, rfl, rfl, rfl, rfl, rfl, rfl, rfl, rfl, rfl, hX, p, q, hN, bp, bq, hq, ?_⟩
      · omega
      · rw [hT0]; exact he
    have hX : Ext w12 w14 := hX
    refine gg ?_
    refine gg ?_
    refine W_regD [(0, 0), (1, 3), (2, 3), (3, 3), (4, 0), (5, 3), (6, 3), (7, 0), (9, 3), (10, 3), (11, 3), (12, 0), (13, 3), (14, 3), (15, 3), (16, 0), (8, 1), (17, 1), (18, 1), (19, 1), (20, 2)] mixed (by kernel_rfl) (fun w_10 hE_ _ => ?_)
    replace hN := hN.ext hE_
    replace hX := hX.trans hE_
    clear hE_
    have hrow := (hWG.ext hX).at hrn
    obtain ⟨e0, e1, he0, he1, hev⟩ := ((hWG.ext hX).row r hrn).at hcn
    obtain ⟨gr, cr', y0, y1, y2, y3, hur, hr0, hr1, hr2, hr3, hrv, hrd⟩ := (hHr.ext hX).at hrn
    obtain ⟨gr', cr2, u0, u1, u2, u3, hur', hq0, hq1, hq2, hq3, hcv, hcd⟩ := (hHr.ext hX).at hcn
    rw [hur] at hur'
    injection hur' with hu1 _ hu2
    injection hu1 with hu1
    injection hu1 with hu1 _ _
    subst hu1 hu2
    rw [hur]
    obtain ⟨s0, s1, s2, s3, hSB, hsn, hsd'⟩ := id hN
    obtain ⟨q0, q1, q2, q3⟩ := blkQ hSB
    obtain ⟨br1, br2, br3, br4⟩ := hQ r hrn
    obtain ⟨bc1, bc2, bc3, bc4⟩ := hQ c hcn
    have Q1 := Qv.of hrv hrd br1 br2 br3 br4
    have Q2 := Qv.of hcv hcd bc1 bc2 bc3 bc4
    have Q3 := Qv.of hsn hsd' bp bq hq he
    refine gg ?_
    refine R1_load4E (by decide) agg_Rat rfl q0 q1 q2 q3 ?_
    refine gg ?_
    refine R1_indexB sl_Rat rfl rfl hrn ?_
    refine gg ?_
    refine R1_load4E (by decide) agg_Rat rfl hr0 hr1 hr2 hr3 ?_
    refine gg ?_
    refine R1_indexB sl_Rat rfl rfl hcn ?_
    refine gg ?_
    refine R1_load4E (by decide) agg_Rat rfl hq0 hq1 hq2 hq3 ?_
    clear q0 q1 q2 q3 hr0 hr1 hr2 hr3 hq0 hq1 hq2 hq3 hrow
    refine gg ?_
    refine R1_call1 (whole_ok _ _ _ 3 w_10 hev.1 (by decide)) ?_
    rintro _ w_11 ⟨hE_, v0, v1, v2, v3, rfl, hv0, hv1⟩
    refine ⟨hE_, ?_⟩
    replace hN := hN.ext hE_
    replace Q1 := Q1.ext hE_
    replace Q2 := Q2.ext hE_
    replace Q3 := Q3.ext hE_
    replace hX := hX.trans hE_
    clear hE_
    refine gg ?_
    refine R1_call1 (ratMul_ok _ _ _ _ _ _ _ _ _ _ _ _ 47 w_11 Q1 Q2 (by decide)) ?_
    rintro _ w_12 ⟨hE_, m0, m1, m2, m3, rfl, hm⟩
    refine ⟨hE_, ?_⟩
    replace hN := hN.ext hE_
    replace Q1 := Q1.ext hE_
    replace Q2 := Q2.ext hE_
    replace Q3 := Q3.ext hE_
    replace hv0 := hv0.ext hE_
    replace hv1 := hv1.ext hE_
    replace hX := hX.trans hE_
    clear hE_
    have Q4 := Qv.of hv0 hv1 ((bG r c hrn hcn).mono (show 3 ≤ 94 by decide)) ((show Bd 1 1 by unfold Bd; decide).mono (by decide)) (by decide) (a := G r c) (b := 1) rfl
    refine gg ?_
    refine R1_call1 (ratMul_ok _ _ _ _ _ _ _ _ _ _ _ _ 94 w_12 Q4 hm (by decide)) ?_
    rintro _ w_13 ⟨hE_, k0, k1, k2, k3, rfl, hmm⟩
    refine ⟨hE_, ?_⟩
    replace hN := hN.ext hE_
    replace Q3 := Q3.ext hE_
    replace hm := hm.ext hE_
    replace Q4 := Q4.ext hE_
    replace hX := hX.trans hE_
    clear hE_
    have hge := Nb_ge 188 (r * n + c)
    have hlt := hNs (r * n + c) (by omega)
    replace hmm := Qv.mono hmm (show 94 + 94 ≤ Nb 188 (r * n + c) by omega)
    refine gg ?_
    refine R1_call1 (ratAdd_ok _ _ _ _ _ _ _ _ _ _ _ _ (Nb 188 (r * n + c)) w_13 Q3 hmm (by omega)) ?_
    rintro _ w_14 ⟨hE_, j0, j1, j2, j3, rfl, hs'⟩
    refine ⟨hE_, ?_⟩
    replace hN := hN.ext hE_
    replace Q3 := Q3.ext hE_
    replace hmm := hmm.ext hE_
    replace hX := hX.trans hE_
    clear hE_
    have hs2 : Qv w_14 (Nb 188 (r * n + (c + 1))) j0 j1 j2 j3 (T r (c + 1)) (D * D) := by
      refine Qv.red (c := D * D) ?_ (Int.mul_ne_zero hD0 hD0)
      rw [hTs, show (T r c + G r c * (Y r * Y c)) * (D * D) = T r c * (1 * (D * D)) + G r c * (Y r * Y c) * (D * D) by grind, show D * D * (D * D) = D * D * (1 * (D * D)) by grind]
      exact hs'.mono (by rw [← Nat.add_assoc]; simp only [Nb]; omega)
    obtain ⟨p', q', hn', hd', bp', bq', hq', he'⟩ := hs2
    refine gg ?_
    refine R1_storeRB (.inl rfl) rfl rfl hN (hn') (hd') ?_
    intro w_15 hN hC_ hk_ hs_
    replace hX := hC_.ext_of hX (fun b hb => by omega)
    clear hC_ hk_ hs_
    refine gg ?_
    rw [← hur]
    exact ⟨_, by omega, c + 1, rfl, hcn, rfl, rfl, rfl, rfl, rfl, rfl, rfl, rfl, rfl, rfl, rfl, rfl, hX, p', q', hN, bp', bq', hq', he'⟩
  clear hX hN
  rintro f w13 ⟨hf10, hf11, hf12, hf14, hf16, hf20, hf24, hX, p, q, hN, bp, bq, hq, he⟩
  rw [ui hf10, ui hf11, ui hf12, ui hf14, ui hf16, ui hf20, ui hf24]
  clear hf10 hf11 hf12 hf14 hf16 hf20 hf24
  have hX : Ext w12 w13 := hX
  replace hSt := hSt.ext hX
  replace hLd := hLd.ext hX
  replace hCr := hCr.ext hX
  have hkc : w13.cell? ⟨gl, 0 + k * 1, none⟩ = some (.slice (some ⟨gos k, 0, none⟩) (n - k) (n - k)) := by
    obtain ⟨gl', cp', e, hc⟩ := hSt.list (by omega)
    injection e with e1 _ _
    injection e1 with e1
    injection e1 with e1 _ _
    subst e1
    exact hc k hkn
  refine gg ?_
  refine R1_indexB sl_ssInt rfl rfl hkn ?_
  refine gg ?_
  have hTk := (hSt.2 k hkn).read (by omega) (by omega)
  have hNb31 : Nb 3 k ≤ 47 := by
    have h := Nb_le 3 k
    have h2 : 2 ^ k ≤ 2 ^ 3 := Nat.pow_le_pow_right (by decide) hk3
    have h3 : 2 ^ k * (3 + 1) ≤ 2 ^ 3 * 4 := Nat.mul_le_mul h2 (by omega)
    omega
  have hokA : okApp (n - k) (fun _ => n - k) (n - k) = true := by
    unfold okApp
    rw [okM_iff.2 ⟨⟨by omega, by omega, by omega, by omega⟩, fun _ _ => rfl⟩]
    simp
  refine gg ?_
  refine R1_call2 (rapply_ok _ _ (n - k) (n - k) 47 (fun _ => n - k) (stg G k) t w13 (hTk.mono hNb31) (hCr.mono (by decide)) (by decide)) ?_
  rintro _ w_16 ⟨hE_, Aa, ma, ca, rfl, hAp⟩
  replace hN := hN.ext hE_
  replace hSt := hSt.ext hE_
  replace hLd := hLd.ext hE_
  replace hCr := hCr.ext hE_
  replace hX := hX.trans hE_
  clear hE_
  clear hkc hTk
  rw [hokA, if_pos rfl] at hAp
  rw [hokA]
  obtain ⟨Aa', ca', ea, _, _, _⟩ := id hAp
  injection ea with _ ea _
  subst ea
  have bAp : ∀ j, j < n - k → Bd 95 (appM (n - k) (stg G k) t j) := fun j hj => by
    obtain ⟨_, _, _, _, _, _, _, hv⟩ := hAp.at hj
    exact hv.2
  refine gg ?_
  have hApi := hAp.ei
  clear hAp
  refine W_seqD [(0, 3), (1, 3), (2, 0), (3, 3), (4, 3), (6, 3), (7, 3), (8, 3), (9, 3), (10, 0), (5, 1), (11, 1), (12, 1), (13, 3), (14, 3), (15, 3), (16, 1), (17, 3), (18, 3)] mixed (by kernel_rfl) (fun w20 hE20 _ => ?_)
  replace hN := hN.ext hE20
  replace hLd := hLd.ext hE20
  replace hCr := hCr.ext hE20
  replace hApi := hApi.ext hE20
  replace hX := hX.trans hE20
  clear hE20
  obtain ⟨s0, s1, s2, s3, hSB, hsn, hsd'⟩ := id hN
  obtain ⟨q0, q1, q2, q3⟩ := blkQ hSB
  obtain ⟨d0, d1, hd0, hd1, hdv⟩ := hLd.at (j := k - 1) (by omega)
  rw [show ldM G (k - 1) = D by unfold ldM; rw [show k - 1 + 1 = k by omega, hD]] at hdv
  refine gg ?_
  refine R1_load4E (by decide) agg_Rat rfl q0 q1 q2 q3 ?_
  have Q3 := Qv.of hsn hsd' bp bq hq he
  replace hdv := hdv.1
  refine gg ?_
  clear q0 q1 q2 q3 hd0 hd1
  refine gg ?_
  refine R1_call1 (dot_ok _ _ (n - k) 95 t _ w20 (hCr.mono (by decide)) hApi (by omega) (by decide)) ?_
  rintro _ w_17 ⟨hE_, z0, z1, rfl, hdot⟩
  refine ⟨hE_, ?_⟩
  replace Q3 := Q3.ext hE_
  replace hdv := hdv.ext hE_
  replace hX := hX.trans hE_
  clear hE_
  have bdot : Bd (Nb 3 16) (sumTo (n - k) fun j => t j * appM (n - k) (stg G k) t j) := (sumTo_bd (N := 96) (by omega) fun j hj => (bt j hj).mul (bAp j hj)).mono (by omega)
  refine gg ?_
  refine R1_call1 (quotient_ok _ _ _ _ _ _ (Nb 3 16) w_17 (hdot.iv bdot) hdv (by omega) hD0) ?_
  rintro _ w_18 ⟨hE_, g0, g1, g2, g3, rfl, hq4⟩
  refine ⟨hE_, ?_⟩
  replace Q3 := Q3.ext hE_
  replace hdv := hdv.ext hE_
  replace hdot := hdot.ext hE_
  replace hX := hX.trans hE_
  clear hE_
  have hN16 := hNs 16 (by decide)
  have hN16' : Nb 188 16 = 12386303 := by decide
  replace hq4 := Qv.mono hq4 (show Nb 3 16 ≤ Nb 188 16 by omega)
  refine gg ?_
  refine R1_call1 (ratCmp_ok _ _ _ _ _ _ _ _ _ _ _ _ (Nb 188 16) w_18 Q3 hq4 (by omega) (Int.mul_ne_zero hD0 hD0) hD0) ?_
  rintro _ w_19 ⟨hE_, sg, rfl, hsg⟩
  refine ⟨hE_, ?_⟩
  replace Q3 := Q3.ext hE_
  replace hdv := hdv.ext hE_
  replace hdot := hdot.ext hE_
  replace hq4 := hq4.ext hE_
  replace hX := hX.trans hE_
  clear hE_
  have hfin : sg = 0 := hsg.2 (by
    have h := Go.Det.schur (Nat.le_of_lt hkn) (show Go.Det.det k G ≠ 0 by rw [← hD]; exact hD0) hHs
    rw [← hD, ← hY] at h
    have eT : T n 0 = Go.Det.sm n fun p => Go.Det.sm n fun q => G p q * (Y p * Y q) := by rw [hTd]; simp only [Go.Det.sm]; omega
    have eS : (sumTo (n - k) fun j => t j * appM (n - k) (stg G k) t j) = Go.Det.sm (n - k) fun a => t a * Go.Det.sm (n - k) fun b => Go.Det.bm k G (k + a) (k + b) * t b := by
      rw [sumTo_sm]
      refine Go.Det.sm_congr fun a _ => ?_
      unfold appM
      rw [sumTo_sm]
      congr 1
      exact Go.Det.sm_congr fun b _ => by rw [hstg k (Nat.le_of_lt hkn)]
    rw [eT, h, ← eS]
    grind)
  rw [hfin]
  refine gg ?_
  refine gg ?_
  refine R1_call1 (awake4_ok w_19) ?_
  rintro _ w_20 ⟨hE_, rfl⟩
  refine ⟨hE_, ?_⟩
  replace Q3 := Q3.ext hE_
  replace hdv := hdv.ext hE_
  replace hdot := hdot.ext hE_
  replace hq4 := hq4.ext hE_
  replace hX := hX.trans hE_
  clear hE_
  refine gg ?_
  exact ret1 (v := .bool _) rfl rfl ⟨hX0.trans hX, rfl⟩
end Go.Proofs.Ytcjhcefnedonlaa
