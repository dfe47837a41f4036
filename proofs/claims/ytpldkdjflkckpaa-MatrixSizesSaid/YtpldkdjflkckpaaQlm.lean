/- Joined: Lwm. -/
import Derived.Test.YtpldkdjflkckpaaQlk
/- The law MatrixSizes. -/
namespace Go.Proofs.Ytpldkdjflkckpaa
open Go Go.Eng Go.Num Go.Proofs

theorem RowW.read {w : World} {g c : Nat} {M : Nat → Int} (h : RowW w g c M) (hM : ∀ j, j < c → -9223372036854775808 ≤ M j ∧ M j < 9223372036854775808) (hc : c < 9223372036854775808) : RowZ w (.slice (some ⟨g, 0, none⟩) c c) c M :=
  ⟨_, _, rfl, Nat.le_refl _, hc, fun j hj => ⟨_, rfl, by rw [add_lit]; exact h.at hj, hM j hj⟩⟩
theorem okAdd_self {r : Nat} {len : Nat → Nat} : okAdd r r len len = true ↔ okM r len = true := by
  unfold okAdd; simp

set_option maxHeartbeats 16000000 in
theorem lawSizes {v1 v2 : Value} {b1 b2 : Nat} {bb : Bool} {w : World} (h1 : ByteV v1 b1) (h2 : ByteV v2 b2) :
    Meets Try.prog 7 #[v1, v2, .bool bb] w (Law w) := by
  obtain ⟨rfl, hb1⟩ := h1
  obtain ⟨rfl, hb2⟩ := h2
  refine fn_W (n := 119) Try.func7 rfl rfl (by kernel_rfl) (by simp) ?_
  have hm1 := Nat.mod_lt b1 (show 0 < 19 by decide)
  have hm2 := Nat.mod_lt b2 (show 0 < 19 by decide)
  refine gg ?_
  refine R1_rem_i64_c rfl (by decide) ?_
  refine gg ?_
  refine R1_rem_i64_c rfl (by decide) ?_
  obtain ⟨r, hr⟩ : ∃ r, r = b1 % 19 := ⟨_, rfl⟩
  obtain ⟨c, hc⟩ : ∃ c, c = b2 % 19 := ⟨_, rfl⟩
  rw [← hr] at hm1 ⊢
  rw [← hc] at hm2 ⊢
  clear hr hc
  refine gg ?_
  refine R1_call2 (zero_ok r c w (by omega) (by omega)) ?_
  rintro _ w1 ⟨hE1, g, gs, rfl, hg, hgs, hO⟩
  refine gg ?_
  have hfit : ∀ i j : Nat, i < r → j < c → Bd 1 ((fun _ _ => (0 : Int)) i j) := fun _ _ _ _ => Bd.zero 1
  refine W_seqM (fun f w' => ∃ len, f 2 = .bool bb ∧ f 7 = .int .i64 ((r : Nat) : Int) ∧ f 8 = .int .i64 ((c : Nat) : Int) ∧ f 9 = .slice (some ⟨g, 0, none⟩) r r ∧ Ext w w' ∧ MatE (EI 1) w' (.slice (some ⟨g, 0, none⟩) r r) r len (fun _ _ => 0) ∧ ∀ i, len i ≤ c) ?_ ?_
  · by_cases hcond : bb = true ∧ 1 < r ∧ 0 < c
    · obtain ⟨rfl, hr, hc⟩ := hcond
      have hw0 : w1.cell? ⟨g, 0 + (r - 1) * 1, none⟩ = some (.slice (some ⟨gs (r - 1), 0, none⟩) c c) := by
        rw [hO.outer.cell, arr_at (by omega), Nat.zero_add, Nat.mul_one]
      refine gg ?_
      refine R1_sliceH (r := c - 1) sl_Int rfl rfl (by omega) ?_
      refine gg ?_
      refine R1_storeS (one_of rfl) (.inl rfl) rfl rfl hO.outer (by rw [arr_size]; omega) ?_
      intro w2 hB2 hC2 hs2
      rw [arr_set, Nat.zero_add, Nat.mul_one] at hB2
      refine gg ?_
      refine ⟨fun i => if i = r - 1 then c - 1 else c, rfl, rfl, rfl, rfl, hC2.ext_of hE1 (fun b hb => by omega), ⟨_, _, rfl, Nat.le_refl _, by omega, fun i hi => ?_⟩, fun i => by dsimp only; split <;> omega⟩
      have hrow := (hO.row i hi)
      have hne := hO.ne i hi
      have hrow2 : ORow w2 (gs i) c (fun _ => 0) := hrow.keep hO.outer (noInt_rows fun _ _ => ⟨_, _, _, rfl⟩) hC2 hne
      have hrd := hrow2.read (N := 1) (fun j _ => by decide) (by omega)
      refine ⟨_, _, rfl, by rw [add_lit, hB2.cell, arr_at (by omega), Nat.zero_add, Nat.mul_one], ?_⟩
      dsimp only
      by_cases e : i = r - 1
      · subst e
        rw [upd_self, if_pos rfl]
        obtain ⟨A, cap, e, _, h2, h3⟩ := hrd
        injection e with e1 _ e3
        subst e1 e3
        exact ⟨_, _, rfl, by omega, h2, fun j hj => h3 j (by omega)⟩
      · rw [upd_ne _ _ e, if_neg e]
        exact hrd
    · have fin : MatE (EI 1) w1 (.slice (some ⟨g, 0, none⟩) r r) r (fun _ => c) (fun _ _ => 0) := hO.rd hfit (Nat.le_refl _) (by omega) (by omega)
      cases bb with
      | false =>
        refine gg ?_
        exact ⟨_, rfl, rfl, rfl, rfl, hE1, fin, fun _ => Nat.le_refl _⟩
      | true =>
        by_cases hr : 1 < r
        · by_cases hc : 0 < c
          · exact absurd ⟨rfl, hr, hc⟩ hcond
          · refine gg ?_
            exact ⟨_, rfl, rfl, rfl, rfl, hE1, fin, fun _ => Nat.le_refl _⟩
        · refine gg ?_
          exact ⟨_, rfl, rfl, rfl, rfl, hE1, fin, fun _ => Nat.le_refl _⟩
  rintro f w2 ⟨len, hf2, hf7, hf8, hf9, hE2, hM, hlen⟩
  rw [ui hf2, ui hf7, ui hf8, ui hf9]
  clear hf2 hf7 hf8 hf9
  clear hO hfit hE1 hg hgs
  refine gg ?_
  refine R1_make sl_si64 (.inl rfl) rfl rfl (Nat.le_refl _) (by omega) (by omega) ?_
  intro w3 hB3 hE3 hs3
  obtain ⟨gL, hgL⟩ : ∃ g, g = w2.heap.size := ⟨_, rfl⟩
  rw [← hgL] at hB3 ⊢
  rw [arr_made, Nat.mul_one] at hB3
  have hL2 := hE2.size
  refine gg ?_
  refine W_seqM (fun f w' => f 2 = .bool bb ∧ f 7 = .int .i64 ((r : Nat) : Int) ∧ f 8 = .int .i64 ((c : Nat) : Int) ∧ f 9 = .slice (some ⟨g, 0, none⟩) r r ∧ f 10 = .slice (some ⟨gL, 0, none⟩) r r ∧ Ext w2 w' ∧ MatZ w' (.slice (some ⟨gL, 0, none⟩) r r) r len (fun _ _ => 0)) ?_ ?_
  · refine gg ?_
    refine W_loop (fun m f w' => ∃ (i : Nat) (h : Nat → Value) (gs : Nat → Nat), m = r - i ∧ i ≤ r ∧ f 2 = .bool bb ∧ f 7 = .int .i64 ((r : Nat) : Int) ∧ f 8 = .int .i64 ((c : Nat) : Int) ∧ f 9 = .slice (some ⟨g, 0, none⟩) r r ∧ f 10 = .slice (some ⟨gL, 0, none⟩) r r ∧ f 54 = .int .i64 ((r : Nat) : Int) ∧ f 55 = .int .i64 ((i : Nat) : Int) ∧ Ext w2 w' ∧ Blk w' gL 45 (arr r h) ∧ ∀ k, k < i → h k = .slice (some ⟨gs k, 0, none⟩) (len k) (len k) ∧ RowW w' (gs k) (len k) (fun _ => 0) ∧ gs k ≠ gL)
      r ⟨0, _, fun _ => 0, rfl, Nat.zero_le _, rfl, rfl, rfl, rfl, rfl, rfl, rfl, hE3, hB3, fun k hk => absurd hk (by omega)⟩ ?_
    clear hB3 hE3 hs3
    rintro m f w4 ⟨i, h, gs, rfl, hi, hf2, hf7, hf8, hf9, hf10, hf54, hf55, hE, hB, hrows⟩
    rw [ui hf2, ui hf7, ui hf8, ui hf9, ui hf10, ui hf54, ui hf55]
    clear hf2 hf7 hf8 hf9 hf10 hf54 hf55
    by_cases hlt : i < r
    · obtain ⟨A, cap, e, _, _, hrow⟩ := id hM
      injection e with e1 _ e3
      subst e1 e3
      obtain ⟨ad, u, e, hu, hru⟩ := hrow i hlt
      obtain rfl := (Option.some.inj e)
      obtain ⟨Ai, capi, rfl, hci, hcapi, _⟩ := hru
      have k1 := cell_ext hE hu
      rw [add_lit] at k1
      have hli := hlen i
      have hBl := hB.lt
      refine gg ?_
      refine R1_make (m := len i) (c := len i) sl_i64 (.inl rfl) rfl rfl (Nat.le_refl _) (by omega) (by omega) ?_
      intro w5 hB5 hE5 hs5
      have hr5 := rowW_made hB5
      refine gg ?_
      refine R1_storeS (one_of rfl) (.inl rfl) rfl rfl (hB.ext hE5) (by rw [arr_size]; omega) ?_
      intro w6 hB6 hC6 hs6
      rw [arr_set, Nat.zero_add, Nat.mul_one] at hB6
      have hr6 : RowW w6 w4.heap.size (len i) _ := Blk.ch hr5 hC6 (by omega)
      refine gg ?_
      refine ⟨_, ?_, i + 1, _, setN gs i w4.heap.size, rfl, by omega, rfl, rfl, rfl, rfl, rfl, rfl, rfl, hC6.ext_of (hE.trans hE5) (fun b hb => by omega), hB6, fun k hk => ?_⟩
      · omega
      · by_cases e : k = i
        · subst e; rw [upd_self, show setN gs k w4.heap.size k = w4.heap.size by simp [setN]]; exact ⟨rfl, hr6, by omega⟩
        · rw [upd_ne _ _ e, show setN gs i w4.heap.size k = gs k by simp [setN, e]]
          obtain ⟨q1, q2, q3⟩ := hrows k (by omega)
          exact ⟨q1, Blk.ch (Blk.ext q2 hE5) hC6 q3, q3⟩
    · refine gg ?_
      exact ⟨rfl, rfl, rfl, rfl, rfl, hE, _, _, rfl, Nat.le_refl _, by omega, fun i' hi' => ⟨_, _, rfl, by rw [add_lit, hB.cell, arr_at (by omega), Nat.zero_add, Nat.mul_one, (hrows i' (by omega)).1], (hrows i' (by omega)).2.1.read (fun _ _ => by decide) (by have := hlen i'; omega)⟩⟩
  rintro f w4 ⟨hf2, hf7, hf8, hf9, hf10, hE4, hZ⟩
  rw [ui hf2, ui hf7, ui hf8, ui hf9, ui hf10]
  clear hf2 hf7 hf8 hf9 hf10
  clear hB3 hE3 hs3
  replace hM := hM.ext hE4
  have hE04 := hE2.trans hE4
  refine gg ?_
  refine R1_call2 (rshape_ok (EI 1) _ r len _ w4 hM) ?_
  rintro _ w4' ⟨hE4', rfl⟩
  replace hM := hM.ext hE4'
  replace hZ := hZ.ext hE4'
  have hokv : ∃ a b, shapeV r len = .tuple #[.int .i64 a, .int .i64 b, .bool (okM r len)] := by
    unfold shapeV; cases okM r len
    · exact ⟨_, _, rfl⟩
    · exact ⟨_, _, rfl⟩
  obtain ⟨sa, sb, hsv⟩ := hokv
  rw [hsv]
  refine gg ?_
  refine R1_call2 (fromInts_ok _ r len _ w4' hZ) ?_
  intro u w5 hu
  obtain ⟨A5, m5, c5, rfl, hE5, hN5⟩ := hu.nm
  have hm5 : decide (0 < m5) = okM r len := by
    cases ho : okM r len with
    | false => rw [ho] at hN5; cases hN5; rfl
    | true =>
      rw [ho] at hN5
      obtain ⟨_, _, e, _⟩ := hN5
      injection e with _ e2
      rw [e2]; exact decide_eq_true (okM_iff.1 ho).1.1
  replace hM := hM.ext hE5
  refine gg ?_
  refine R1_call2 (toInts_ok _ r 1 len _ w5 hM (by decide)) ?_
  intro u w6 hu
  have hokF : okF r len (fun _ _ => 0) = okM r len := by
    unfold okF
    rw [show allFit r (len 0) (fun _ _ => 0) = true from allFit_iff.2 fun _ _ _ _ => by decide, Bool.and_true]
  rw [hokF] at hu
  obtain ⟨A6, m6, c6, rfl, hE6⟩ : ∃ A m c, u = .tuple #[.slice A m c, .bool (okM r len)] ∧ Ext w5 w6 := by
    unfold RZB at hu
    cases ho : okM r len with
    | false => rw [ho] at hu; obtain ⟨hE, rfl⟩ := hu; exact ⟨_, _, _, rfl, hE⟩
    | true => rw [ho] at hu; obtain ⟨_, rfl, hE, _, _, rfl, _⟩ := hu; exact ⟨_, _, _, rfl, hE⟩
  clear hu
  replace hM := hM.ext hE6
  refine gg ?_
  refine R1_call2 (transpose_ok _ r 1 len _ w6 hM (by decide)) ?_
  intro u w7 hu
  obtain ⟨A7, m7, c7, rfl, hE7, _⟩ := hu.nm
  replace hM := hM.ext hE7
  have hE07 := hE04.trans (hE4'.trans (hE5.trans (hE6.trans hE7)))
  have bt : ((okM r len) == okM r len) = true := beq_self_eq_true _
  have hq : eqM r r len len (fun _ _ => 0) (fun _ _ => 0) ↔ okM r len = true := by
    unfold eqM; rw [okAdd_self]; exact ⟨fun h => h.1, fun h => ⟨h, fun _ _ _ _ => rfl⟩⟩
  generalize okM r len = ok at *
  refine gg ?_
  rw [bt]
  refine gg ?_
  rw [bt]
  refine gg ?_
  rw [bt]
  refine gg ?_
  rw [hm5, bt]
  refine gg ?_
  refine R1_call2 (equal_ok _ _ r r 1 len len _ _ w7 hM hM (by decide)) ?_
  rintro _ w8 ⟨hE8, b, rfl, hb⟩
  obtain rfl : b = ok := by
    have := hb.trans hq
    cases b <;> cases ok <;> simp_all
  refine gg ?_
  rw [bt]
  refine gg ?_
  refine R1_call2 (awake_ok w8) ?_
  rintro _ w9 ⟨hE9, rfl⟩
  refine gg ?_
  exact ret1 (v := .bool _) rfl rfl ⟨hE07.trans (hE8.trans hE9), rfl⟩
end Go.Proofs.Ytpldkdjflkckpaa
