/- Joined: Lxb. -/
import Derived.Test.YtpldkdjflkckpaaQma
import Derived.Test.YtpldkdjflkckpaaQq
import Derived.Test.YtpldkdjflkckpaaQv
/- The law BareissNorms. -/
namespace Go.Det
theorem sm_ext {m n : Nat} {f : Nat → Int} (h : m ≤ n) (hz : ∀ i, m ≤ i → i < n → f i = 0) : sm n f = sm m f := by
  induction n with
  | zero => rw [show m = 0 by omega]
  | succ n ih =>
    by_cases e : m = n + 1
    · rw [e]
    · simp only [sm]
      rw [ih (by omega) fun i h1 h2 => hz i h1 (by omega), hz n (by omega) (by omega), Int.add_zero]
theorem gram_pos {n m : Nat} {A : Mt} {y : Nat → Int} (hd : det n A ≠ 0) (hm : m ≤ n) (hy : ∃ i, i < m ∧ y i ≠ 0) : 0 < nrm m (mul n (tr A) A) y := by
  rw [nrm_gram]
  have : ∃ r, r < n ∧ (sm m fun i => A r i * y i) ≠ 0 := by
    refine Classical.byContradiction fun hno => ?_
    have h0 : ∀ r, r < n → (sm m fun i => A r i * y i) = 0 := fun r hr => Classical.byContradiction fun h => hno ⟨r, hr, h⟩
    obtain ⟨i, hi, hyi⟩ := hy
    have := uniq n A (fun i => if i < m then y i else 0) hd (fun r hr => by
      rw [sm_ext hm fun i h1 h2 => by rw [if_neg (by omega), Int.mul_zero], ← h0 r hr]
      exact sm_congr fun i hi => by rw [if_pos hi]) i (by omega)
    rw [if_pos hi] at this
    exact hyi this
  obtain ⟨r, hr, hne⟩ := this
  exact sm_pos (fun i _ => sq_nonneg _) hr (sq_pos hne)
theorem gram_tr (n : Nat) (A : Mt) : tr (mul n (tr A) A) = mul n (tr A) A := tr_mul n (tr A) A
theorem gram_minors {n : Nat} {A : Mt} (hd : det n A ≠ 0) : ∀ k, k ≤ n → 0 < det k (mul n (tr A) A) :=
  minors_pos n _ fun m y hm hy => by rw [gram_tr]; exact gram_pos hd hm hy
theorem gram_det (n : Nat) (A : Mt) : det n (mul n (tr A) A) = det n A * det n A := by rw [det_mul, det_tr]
end Go.Det
namespace Go.Proofs.Ytpldkdjflkckpaa
open Go Go.Eng Go.Num Go.Proofs

theorem gram_iff {n : Nat} {X : Nat → Nat → Int} (hn : 1 ≤ n) (hn2 : n ≤ 16) : okDef n (fun _ => n) (mulM n (fun i j => X j i) X) ↔ Go.Det.det n X ≠ 0 := by
  rw [okDef_df, mulM_mul]
  constructor
  · rintro ⟨_, _, h⟩ e
    have := h (n - 1) (by omega)
    unfold ldM at this
    rw [show n - 1 + 1 = n by omega, show (fun i j => X j i) = Go.Det.tr X from rfl, Go.Det.gram_det, e] at this
    cases this
  · intro hd
    refine ⟨okS_const hn hn2, fun i j _ _ => ?_, fun q hq => Go.Det.gram_minors hd (q + 1) (by omega)⟩
    exact congrFun (congrFun (Go.Det.gram_tr n X) j) i

set_option maxHeartbeats 16000000 in
theorem lawNorms {vx vl : Value} {rx cx nx m : Nat} {nsx ns : Nat → Int} {w : World} (hx : GridV w vx rx cx nx nsx) (hl : NumsV w vl m ns) :
    Meets Try.prog 13 #[vx, vl] w (Law w) := by
  obtain ⟨Ax, capx, rfl, hx1, hx2, hx3, hx4⟩ := hx
  obtain ⟨Al, capl, rfl, hl1, hl2⟩ := hl
  refine fn_W (n := 72) Try.func13 rfl rfl (by kernel_rfl) (by simp) ?_
  refine gg ?_
  refine R1_box (v := .agg _) (.inl rfl) rfl ?_
  intro w1 hB1 hE1 hs1
  have hX1 : Blk w1 w.heap.size 32 #[.int .u8 ((rx : Nat) : Int), .int .u8 ((cx : Nat) : Int), .slice Ax nx capx] := hB1
  have hGx := GridV.agg hx1 hx2 hx3 hx4
  clear hB1
  obtain ⟨x0, x1, x2⟩ := blkT hX1
  have hm1 := Nat.mod_lt rx (show 0 < 4 by decide)
  obtain ⟨n, hn⟩ : ∃ n, n = 1 + rx % 4 := ⟨_, rfl⟩
  have hn1 : 1 ≤ n := by omega
  have hn2 : n ≤ 16 := by omega
  have hnb : n < 9223372036854775808 := by omega
  refine gg ?_
  refine R1_load3F (by decide) agg_Grid rfl x0 x1 x2 ?_
  clear x0 x1 x2
  refine gg ?_
  refine R1_call2 (gridSquare_ok _ rx cx nx 4 nsx w1 (hGx w1 hE1) (by decide) (by decide)) ?_
  rintro _ w2 ⟨hE2, ga, gs, rfl, _, _, hO⟩
  rw [← hn] at hO ⊢
  obtain ⟨X, hX⟩ : ∃ X, X = gridM n nx nsx := ⟨_, rfl⟩
  have bX : ∀ i j, i < n → j < n → Bd 1 (X i j) := fun i j _ _ => by rw [hX]; exact gridM_bd hx4 _ i j
  rw [← hX] at hO
  have hE02 := hE1.trans hE2
  refine gg ?_
  refine R1_call2 (rtranspose_ok _ n 1 (fun _ => n) X w2 (hO.rd bX (Nat.le_refl _) hnb hnb) (by decide)) ?_
  intro u w3 hu
  obtain ⟨_, rfl, hE3, gt, gst, rfl, _, _, hOt⟩ := hu.get (okM_iff.2 ⟨⟨hn1, hn2, hn1, hn2⟩, fun _ _ => rfl⟩)
  clear hu
  replace hO := hO.ext hE3
  refine gg ?_
  refine R1_call2 (rproductT_ok (N := 1) (hOt.rd (fun i j hi hj => bX j i hj hi) (Nat.le_refl _) hnb hnb) (hO.rd bX (Nat.le_refl _) hnb hnb) (by decide) hn1 hn2 hn1 hn2 hn1 hn2) ?_
  rintro _ w4 ⟨hE4, gG, gsG, rfl, _, _, hOG⟩
  replace hO := hO.ext hE4
  obtain ⟨G, hG⟩ : ∃ G, G = mulM n (fun i j => X j i) X := ⟨_, rfl⟩
  have bG : ∀ i j, i < n → j < n → Bd 3 (G i j) := fun i j hi hj => by
    rw [hG]
    exact sumTo_bd (N := 2) (by omega) fun t ht => (bX t i ht hi).mul (bX t j ht hj)
  rw [← hG] at hOG
  have hE04 := hE02.trans (hE3.trans hE4)
  refine gg ?_
  refine R1_call2 (definite_ok _ n 3 (fun _ => n) G w4 (hOG.rd bG (Nat.le_refl _) hnb hnb) (by decide) (by decide)) ?_
  rintro _ w5 ⟨hE5, bd, rfl, hbd⟩
  rw [hG, gram_iff hn1 hn2] at hbd
  replace hO := hO.ext hE5
  replace hOG := hOG.ext hE5
  refine gg ?_
  refine W_seq ?_
  refine gg ?_
  refine R1_call2 (rdet_ok _ n 1 X w5 (hO.rd bX (Nat.le_refl _) hnb hnb) hn2 (by decide) (by decide)) ?_
  rintro _ w6 ⟨hE6, dx, dy, rfl, hcd⟩
  rw [detB_det] at hcd
  have hbdd : Bd (Nb 1 16) (Go.Det.det n X) := by rw [← detB_det]; exact (detB_bd (by decide) bX).mono (Nb_le16 1 n hn2)
  have hNb := Nb_big (N := 1) (k := 16) (by decide) (by decide)
  refine gg ?_
  refine R1_call2 (rsign_ok _ _ _ _ w6 (hcd.iv hbdd) (by omega)) ?_
  rintro _ w7 ⟨hE7, rfl⟩
  have hE57 := hE6.trans hE7
  replace hOG := hOG.ext hE57
  have hE07 := hE04.trans (hE5.trans hE57)
  have hcond : decide (¬ (Go.Det.det n X).sign = 0) = bd := by
    rw [Bool.eq_iff_iff, hbd, decide_eq_true_eq]
    exact ⟨fun h e => h (by rw [e]; rfl), fun h e => h (Int.sign_eq_zero_iff_zero.1 e)⟩
  refine gg ?_
  rw [hcond, show (bd != bd) = false from by cases bd <;> rfl]
  refine gg ?_
  refine R1_call2 (column_ok Al m capl n ns w7 (hl2.ext hE07) (by omega)) ?_
  rintro vc w8 ⟨hE8, hG8, _⟩
  obtain ⟨Ay, cy, rfl⟩ := hG8.slice
  obtain ⟨y, hy⟩ : ∃ y, y = tp m ns := ⟨_, rfl⟩
  rw [← hy] at hG8
  replace hOG := hOG.ext hE8
  have hE08 := hE07.trans hE8
  clear hE02 hE3 hE4 hE04 hE5 hE6 hE7 hE57 hE07 hO hOt hcd hE1 hE2 hE8 hX1 hGx
  refine gg ?_
  refine W_seqM (fun f w' => ∃ zb, f 8 = .slice (some ⟨gG, 0, none⟩) n n ∧ f 9 = .bool bd ∧ f 10 = .slice Ay n cy ∧ f 11 = .bool zb ∧ Ext w8 w' ∧ (zb = true ↔ ∀ i, i < n → y i = 0)) ?_ ?_
  · refine gg ?_
    refine W_loop (fun m f w' => ∃ k zb, m = n - k ∧ k ≤ n ∧ f 8 = .slice (some ⟨gG, 0, none⟩) n n ∧ f 9 = .bool bd ∧ f 10 = .slice Ay n cy ∧ f 11 = .bool zb ∧ f 38 = .slice Ay n cy ∧ f 39 = .int .i64 ((n : Nat) : Int) ∧ f 40 = .int .i64 ((k : Nat) : Int) ∧ Ext w8 w' ∧ (zb = true ↔ ∀ i, i < k → y i = 0))
      n ⟨0, true, rfl, Nat.zero_le _, rfl, rfl, rfl, rfl, rfl, rfl, rfl, Ext.refl _, ⟨fun _ i hi => absurd hi (by omega), fun _ => rfl⟩⟩ ?_
    rintro m f w9 ⟨k, zb, rfl, hk, hf8, hf9, hf10, hf11, hf38, hf39, hf40, hE, hzb⟩
    rw [ui hf8, ui hf9, ui hf10, ui hf11, ui hf38, ui hf39, ui hf40]
    clear hf8 hf9 hf10 hf11 hf38 hf39 hf40
    by_cases hlt : k < n
    rotate_left
    · refine gg ?_
      obtain rfl : k = n := by omega
      exact ⟨zb, rfl, rfl, rfl, rfl, hE, hzb⟩
    obtain ⟨Ay', cy', ey, _, _, hent⟩ := hG8.rowC
    injection ey with ey1 _ ey3
    subst ey1 ey3
    obtain ⟨ae, x, y', rfl, hx', hy', hcv, hbd'⟩ := hent k hlt
    have k1 := cell_ext hE hx'
    have k2 := cell_ext hE hy'
    refine gg ?_
    have hcv9 := hcv.ext hE
    refine R1_alloc (.inl rfl) z_Int ?_
    intro w10a hBa_ hEa_ hsa_
    have hG0_ : Bx w10a w9.heap.size 1 true 0 := Bx.zero true hBa_
    obtain ⟨g13, hg_⟩ : ∃ g, g = w9.heap.size := ⟨_, rfl⟩
    rw [← hg_] at hG0_ ⊢
    refine gg ?_
    refine R1_storeBx (.inl rfl) rfl rfl hG0_ ((hcv9.ext hEa_).ev true hbd') ?_
    intro w10 hb13 hCb_ hkb_ hsb_
    have hE10 : Ext w9 w10 := hCb_.ext_of hEa_ (fun b hb => by omega)
    have hfr_g13 : w9.heap.size ≤ g13 := by omega
    clear hG0_ hBa_ hEa_ hsa_ hsb_ hCb_ hkb_ hg_
    cases zb with
    | false =>
      refine gg ?_
      refine ⟨_, ?_, k + 1, false, rfl, by omega, rfl, rfl, rfl, rfl, rfl, rfl, rfl, hE.trans hE10, ⟨fun h => (by cases h), fun h => hzb.2 fun i hi => h i (by omega)⟩⟩
      omega
    | true =>
      obtain ⟨x3, y3, hB3, hv3⟩ := id hb13
      obtain ⟨p1, p2⟩ := blkP hB3
      refine gg ?_
      refine R1_call2 (rsign_ok _ _ _ _ w10 hv3.1 (by decide)) ?_
      rintro _ w11 ⟨hE11, rfl⟩
      refine gg ?_
      refine ⟨_, ?_, k + 1, decide ((y k).sign = 0), rfl, by omega, rfl, rfl, rfl, rfl, rfl, rfl, rfl, hE.trans (hE10.trans hE11), ?_⟩
      · omega
      · rw [decide_eq_true_eq, Int.sign_eq_zero_iff_zero]
        refine ⟨fun h i hi => ?_, fun h => h k (by omega)⟩
        by_cases e : i = k
        · rw [e]; exact h
        · exact hzb.1 rfl i (by omega)
  rintro f w9 ⟨zb, hf8, hf9, hf10, hf11, hE, hzb⟩
  rw [ui hf8, ui hf9, ui hf10, ui hf11]
  clear hf8 hf9 hf10 hf11
  have hRy := (hG8.ext hE).rowE
  replace hOG := hOG.ext hE
  refine gg ?_
  refine R1_call2 (rapply_ok _ _ n n 3 (fun _ => n) G y w9 (hOG.rd bG (Nat.le_refl _) hnb hnb) (hRy.mono (by decide)) (by decide)) ?_
  rintro _ w10 ⟨hE10, A10, m10, c10, rfl, hV10⟩
  have hE010 := hE08.trans (hE.trans hE10)
  have hokA : okApp n (fun _ => n) n = true := by
    unfold okApp
    rw [okM_iff.2 ⟨⟨hn1, hn2, hn1, hn2⟩, fun _ _ => rfl⟩, decide_eq_true rfl]; rfl
  rw [hokA, if_pos rfl] at hV10
  have fin : ∀ b w', b = true → Ext w10 w' → Law w (.bool b) w' := fun b w' e h => by subst e; exact ⟨hE010.trans h, rfl⟩
  cases bd with
  | false =>
    refine gg ?_
    refine R1_call2 (awake4_ok w10) ?_
    rintro _ w11 ⟨hE11, rfl⟩
    refine gg ?_
    exact ret1 (v := .bool _) rfl rfl ⟨hE010.trans hE11, rfl⟩
  | true =>
    cases zb with
    | true =>
      refine gg ?_
      refine R1_call2 (awake4_ok w10) ?_
      rintro _ w11 ⟨hE11, rfl⟩
      refine gg ?_
      exact ret1 (v := .bool _) rfl rfl ⟨hE010.trans hE11, rfl⟩
    | false =>
      have hRy10 := (hG8.ext (hE.trans hE10)).rowE
      refine gg ?_
      refine R1_call2 (dot_ok _ _ n 7 y (appM n G y) w10 (hRy10.mono (by decide)) (hV10.imp (fun _ _ h => h) (fun _ _ _ h => h.1.iv h.2)) (by omega) (by decide)) ?_
      rintro _ w11 ⟨hE11, x, y', rfl, hcv⟩
      have by1 : ∀ t, t < n → Bd 1 (y t) := fun t _ => by
        rw [hy]
        have := tp_range hl2 t
        unfold Bd
        have : B ^ 1 = 4294967296 := by decide
        omega
      have hbnd : Bd (8 + 1) (sumTo n fun t => y t * appM n G y t) := sumTo_bd (by omega) fun t ht => (by1 t ht).mul (appM_bd (Nat.le_refl _) hn2 (fun j hj => bG t j ht hj) fun j hj => (by1 j hj).mono (by decide))
      have hposD : 0 < sumTo n fun t => y t * appM n G y t := by
        have hne : ∃ i, i < n ∧ y i ≠ 0 := Classical.byContradiction fun h => by
          have := hzb.2 fun i hi => Classical.byContradiction fun e => h ⟨i, hi, e⟩
          cases this
        have := Go.Det.gram_pos (hbd.1 rfl) (Nat.le_refl n) hne
        rw [hG, mulM_mul, sumTo_sm]
        unfold Go.Det.nrm at this
        rw [Go.Det.sm_congr (g := fun i => y i * Go.Det.sm n fun j => Go.Det.mul n (Go.Det.tr X) X i j * y j) fun i _ => by unfold appM; rw [sumTo_sm]; rfl]
        exact this
      refine gg ?_
      refine R1_call2 (rsign_ok _ _ _ _ w11 (hcv.iv hbnd) (by decide)) ?_
      rintro _ w12 ⟨hE12, rfl⟩
      have hs : 0 < (sumTo n fun t => y t * appM n G y t).sign := by rw [Int.sign_eq_one_of_pos hposD]; decide
      refine gg ?_
      refine R1_call2 (awake4_ok w12) ?_
      rintro _ w13 ⟨hE13, rfl⟩
      refine gg ?_
      exact ret1 (v := .bool _) rfl rfl ⟨hE010.trans (hE11.trans (hE12.trans hE13)), rfl⟩
end Go.Proofs.Ytpldkdjflkckpaa
