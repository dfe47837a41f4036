/- Joined: Lwk. -/
import Derived.Test.YtpldkdjflkckpaaQr
import Derived.Test.YtpldkdjflkckpaaQo
/- The laws MatrixFits and MatrixConverts. -/
namespace Go.Proofs.Ytpldkdjflkckpaa
open Go Go.Eng Go.Num Go.Proofs

theorem matZ_nil (w : World) (len : Nat → Nat) (M : Nat → Nat → Int) : MatZ w (.slice none 0 0) 0 len M := ⟨none, 0, rfl, Nat.le_refl _, by omega, fun i hi => absurd hi (by omega)⟩
theorem RZB.nm {w w' : World} {ok : Bool} {r c : Nat} {M : Nat → Nat → Int} {v : Value} (h : RZB w ok r c M v w') (hM : ok = true → ∀ i j, i < r → j < c → -9223372036854775808 ≤ M i j ∧ M i j < 9223372036854775808) (hr : ok = true → r < 9223372036854775808 ∧ c < 9223372036854775808) :
    Ext w w' ∧ ∃ A cp, v = .tuple #[.slice A (if ok then r else 0) cp, .bool ok] ∧ MatZ w' (.slice A (if ok then r else 0) cp) (if ok then r else 0) (fun _ => c) M := by
  unfold RZB at h
  cases ok
  · obtain ⟨hE, rfl⟩ := h; exact ⟨hE, _, _, rfl, matZ_nil _ _ _⟩
  · obtain ⟨u, rfl, hE, gO, gs, rfl, _, _, hZ⟩ := h
    exact ⟨hE, _, _, rfl, hZ.read (hM rfl) (hr rfl).1 (hr rfl).2⟩
theorem okF_rng {r : Nat} {len : Nat → Nat} {M : Nat → Nat → Int} (h : okF r len M = true) : okM r len = true ∧ ∀ i j, i < r → j < len 0 → -9223372036854775808 ≤ M i j ∧ M i j < 9223372036854775808 := by
  unfold okF at h
  rw [Bool.and_eq_true] at h
  exact ⟨h.1, fun i j hi hj => fits_rng (allFit_iff.1 h.2 i j hi hj)⟩

set_option maxHeartbeats 16000000 in
theorem lawFits {va : Value} {r1 : Nat} {len1 : Nat → Nat} {Y : Nat → Nat → Int} {L1 : Nat → Nat → Nat} {w : World} (ha : MatL w va r1 len1 Y L1) :
    Meets Try.prog 3 #[va] w (Law w) := by
  refine fn_W (n := 40) Try.func3 rfl rfl (by kernel_rfl) (by simp) ?_
  refine gg ?_
  refine W_seq ?_
  refine gg ?_
  refine R1_call2 (large_ok va r1 len1 Y L1 w ha) ?_
  rintro _ _ ⟨rfl, b1, rfl, hb1⟩
  rcases b1 with _ | _
  rotate_left
  · refine gg ?_
    refine R1_call2 (awake_ok w) ?_
    rintro _ w3 ⟨hE3, rfl⟩
    refine gg ?_
    exact ret1 (v := .bool _) rfl rfl ⟨hE3, rfl⟩
  have hSa := (hb1 rfl).e ha
  have hrng := fun h : okF r1 len1 Y = true => okF_rng h
  have hsz : okF r1 len1 Y = true → r1 < 9223372036854775808 ∧ len1 0 < 9223372036854775808 := fun h => by have := (okM_iff.1 (hrng h).1).1; omega
  refine gg ?_
  refine R1_call2 (toInts_ok va r1 600 len1 Y w hSa (by decide)) ?_
  intro u w2 hu
  obtain ⟨hE2, A2, c2, rfl, hZ2⟩ := hu.nm (fun h => (hrng h).2) hsz
  refine gg ?_
  refine R1_call2 (rtoInts_ok va r1 600 len1 Y w2 (hSa.ext hE2) (by decide)) ?_
  intro u w3 hu3
  obtain ⟨hE3, A3, c3, rfl, hZ3⟩ := hu3.nm (fun h => (hrng h).2) hsz
  obtain ⟨k, hk⟩ : ∃ k, k = if okF r1 len1 Y then r1 else 0 := ⟨_, rfl⟩
  rw [← hk] at hZ2 hZ3 ⊢
  have hZ2 := hZ2.ext hE3
  refine gg ?_
  rw [show (okF r1 len1 Y == okF r1 len1 Y) = true from beq_self_eq_true _]
  refine gg ?_
  refine R1_call2 (rof_ok _ k (fun _ => len1 0) Y w3 hZ2) ?_
  intro u w4 hu4
  obtain ⟨A4, m4, c4, rfl, hE4, hN4⟩ := hu4.nm
  refine gg ?_
  refine R1_call2 (rof_ok _ k (fun _ => len1 0) Y w4 (hZ3.ext hE4)) ?_
  intro u w5 hu5
  obtain ⟨A5, m5, c5, rfl, hE5, hN5⟩ := hu5.nm
  have hkk : okM k (fun _ => len1 0) = true → okF r1 len1 Y = true := fun h => by
    cases hq : okF r1 len1 Y with
    | true => rfl
    | false => rw [hq] at hk; have := (okM_iff.1 h).1; simp at hk; omega
  have hkr : okM k (fun _ => len1 0) = true → k = r1 := fun h => by rw [hk, hkk h]; rfl
  refine gg ?_
  refine R1_call2 (same_nm (N := 2) (hN4.ext hE5) hN5 (fun h i j hi hj => by have := (hrng (hkk h)).2 i j (by rw [← hkr h]; exact hi) hj; exact bd_i64 this.1 this.2) (fun h => by have := hsz (hkk h); rw [hkr h]; exact this.1) (fun h => (hsz (hkk h)).2) (by decide)) ?_
  rintro _ w6 ⟨hE6, rfl⟩
  refine gg ?_
  refine R1_call2 (awake_ok w6) ?_
  rintro _ w7 ⟨hE7, rfl⟩
  refine gg ?_
  exact ret1 (v := .bool _) rfl rfl ⟨hE2.trans (hE3.trans (hE4.trans (hE5.trans (hE6.trans hE7)))), rfl⟩

set_option maxHeartbeats 16000000 in
theorem lawConverts {vl : Value} {r : Nat} {len : Nat → Nat} {M : Nat → Nat → Int} {w : World} (hl : MatZ w vl r len M) :
    Meets Try.prog 5 #[vl] w (Law w) := by
  obtain ⟨Al, capl, rfl, _⟩ := id hl
  refine fn_W (n := 91) Try.func5 rfl rfl (by kernel_rfl) (by simp) ?_
  refine gg ?_
  refine W_seq ?_
  by_cases hr40 : 40 < r
  · refine gg ?_
    refine R1_call2 (awake_ok w) ?_
    rintro _ w3 ⟨hE3, rfl⟩
    refine gg ?_
    exact ret1 (v := .bool _) rfl rfl ⟨hE3, rfl⟩
  refine gg ?_
  refine R1_call2 (fromInts_ok _ r len M w hl) ?_
  intro u w1 hu
  obtain ⟨A1, m1, c1, rfl, hE1, hN1⟩ := hu.nm
  refine gg ?_
  refine R1_call2 (rfromInts_ok _ r len M w1 (hl.ext hE1)) ?_
  intro u w2 hu2
  obtain ⟨A2, m2, c2, rfl, hE2, hN2⟩ := hu2.nm
  have hrng : ∀ i j, i < r → j < len i → -9223372036854775808 ≤ M i j ∧ M i j < 9223372036854775808 := fun i j hi hj => by
    obtain ⟨A, cap, e, _, _, hrow⟩ := hl
    obtain ⟨ad, u, _, _, Ai, capi, _, _, _, hent⟩ := hrow i hi
    obtain ⟨_, _, _, h1, h2⟩ := hent j hj
    exact ⟨h1, h2⟩
  have hE02 := hE1.trans hE2
  clear hu hu2
  have hN1 := hN1.ext hE2
  refine gg ?_
  refine W_seq ?_
  refine gg ?_
  rw [show (okM r len != okM r len) = false by cases okM r len <;> rfl]
  refine gg ?_
  refine R1_call2 (same_nm (N := 2) hN1 hN2 (fun h i j hi hj => by have := hrng i j hi (by rw [(okM_iff.1 h).2 i hi]; exact hj); exact bd_i64 this.1 this.2) (fun h => by have := (okM_iff.1 h).1; omega) (fun h => by have := (okM_iff.1 h).1; omega) (by decide)) ?_
  rintro _ w3 ⟨hE3, rfl⟩
  have hE03 := hE02.trans hE3
  cases hok : okM r len with
  | false =>
    rw [hok] at hN1
    unfold NM at hN1
    rw [if_neg (by decide)] at hN1
    injection hN1 with e1 e2 e3
    subst e1 e2 e3
    refine gg ?_
    refine R1_call2 (toInts_ok _ 0 2 (fun _ => 0) (fun _ _ => 0) w3 (matC_nil w3 2 _ _).ei (by decide)) ?_
    intro u w4 hu
    have hokF : okF 0 (fun _ => 0) (fun _ _ => 0) = false := rfl
    rw [hokF] at hu
    unfold RZB at hu
    rw [if_neg (by decide)] at hu
    obtain ⟨hE4, rfl⟩ := hu
    refine gg ?_
    refine W_seq ?_
    refine gg ?_
    refine W_seq ?_
    refine gg ?_
    refine W_loop (fun m f w' => m = 0 ∧ f 50 = .int .i64 ((0 : Nat) : Int) ∧ f 51 = .int .i64 ((0 : Nat) : Int) ∧ Ext w w') 0 ⟨rfl, rfl, rfl, hE03.trans hE4⟩ ?_
    rintro m f w5 ⟨rfl, hf50, hf51, hE⟩
    rw [ui hf50, ui hf51]
    clear hf50 hf51
    refine gg ?_
    refine R1_call2 (awake_ok w5) ?_
    rintro _ w6 ⟨hE6, rfl⟩
    refine gg ?_
    exact ret1 (v := .bool _) rfl rfl ⟨hE.trans hE6, rfl⟩
  | true =>
    obtain ⟨⟨hr1, hr2, hl1, hl2⟩, hlen⟩ := okM_iff.1 hok
    rw [hok] at hN1
    unfold NM at hN1
    rw [if_pos rfl] at hN1
    obtain ⟨gA, gsA, e, hO⟩ := hN1
    injection e with e1 e2 e3
    replace e2 := e2.symm
    replace e3 := e3.symm
    subst e1 e2 e3
    obtain ⟨c, hcc⟩ : ∃ c, c = len 0 := ⟨_, rfl⟩
    have hrng' : ∀ i j, i < r → j < c → -9223372036854775808 ≤ M i j ∧ M i j < 9223372036854775808 := fun i j hi hj => hrng i j hi (by rw [hlen i hi, ← hcc]; exact hj)
    rw [← hcc] at hO hl1 hl2
    have hlz := hl.sq (c := c) (fun i hi => by rw [hlen i hi, hcc])
    refine gg ?_
    refine R1_call2 (toInts_ok _ r 2 (fun _ => c) M w3 ((hO.ext hE3).rd (fun i j hi hj => bd_i64 (hrng' i j hi hj).1 (hrng' i j hi hj).2) (by decide) (by omega) (by omega)) (by decide)) ?_
    intro u w4 hu
    have hokF : okF r (fun _ => c) M = true := by
      unfold okF; rw [okM_const hr1 hr2 hl1 hl2, Bool.true_and]
      exact allFit_iff.2 fun i j hi hj => (fits_t (hrng' i j hi hj).1 (hrng' i j hi hj).2).1
    rw [hokF] at hu
    unfold RZB at hu
    rw [if_pos rfl] at hu
    obtain ⟨u, rfl, hE4, gO, gs, rfl, _, _, hZ⟩ := hu
    have hZ : ZMat w4 gO gs r c M := hZ
    have hE04 := hE03.trans hE4
    refine gg ?_
    refine W_seq ?_
    refine gg ?_
    obtain ⟨A', cap', e, _, _, hrow⟩ := hlz
    injection e with e1 _ e3
    subst e1 e3
    obtain ⟨al, u0, rfl, _⟩ := hrow 0 (by omega)
    refine W_seqM (fun f w' => Ext w w') ?_ ?_
    · refine gg ?_
      refine W_loop (fun m f w' => ∃ i, m = r - i ∧ i ≤ r ∧ f 0 = .slice (some al) r capl ∧ f 7 = .slice (some ⟨gO, 0, none⟩) r r ∧ f 50 = .int .i64 ((r : Nat) : Int) ∧ f 51 = .int .i64 ((i : Nat) : Int) ∧ Ext w4 w') r ⟨0, rfl, Nat.zero_le _, rfl, rfl, rfl, rfl, Ext.refl _⟩ ?_
      rintro m f w5 ⟨i, rfl, hi, hf0, hf7, hf50, hf51, hE⟩
      rw [ui hf0, ui hf7, ui hf50, ui hf51]
      clear hf0 hf7 hf50 hf51
      by_cases hlt : i < r
      · obtain ⟨al', u, e, hx, hru⟩ := hrow i hlt
        obtain rfl : al = al' := Option.some.inj e
        have hru : RowZ w u c (M i) := hru
        obtain ⟨Ai, capi, rfl, hci, hcapi, hri⟩ := id hru
        refine gg ?_
        refine W_seq ?_
        refine W_seqD [(0, 3), (1, 3), (2, 3), (3, 0), (4, 3), (5, 3), (6, 3), (7, 3), (8, 0), (9, 3), (10, 3)] mixed (by kernel_rfl) (fun w6 hE6 _ => ?_)
        have k1 := (hZ.ext (hE.trans hE6)).at hlt
        have k2 := cell_ext (hE04.trans (hE.trans hE6)) hx
        refine gg ?_
        refine W_loop (fun m f w' => ∃ j, m = c - j ∧ j ≤ c ∧ f 0 = .slice (some al) r capl ∧ f 7 = .slice (some ⟨gO, 0, none⟩) r r ∧ f 50 = .int .i64 ((r : Nat) : Int) ∧ f 51 = .int .i64 ((i : Nat) : Int) ∧ f 9 = .int .i64 ((i : Nat) : Int) ∧ f 69 = .int .i64 ((c : Nat) : Int) ∧ f 70 = .int .i64 ((j : Nat) : Int) ∧ Ext w4 w') c ⟨0, rfl, Nat.zero_le _, rfl, rfl, rfl, rfl, rfl, rfl, rfl, hE.trans hE6⟩ ?_
        clear k1 k2 hE6
        clear hE
        rintro m f w7 ⟨j, rfl, hj, hf0, hf7, hf50, hf51, hf9, hf69, hf70, hE⟩
        rw [ui hf0, ui hf7, ui hf50, ui hf51, ui hf9, ui hf69, ui hf70]
        clear hf0 hf7 hf50 hf51 hf9 hf69 hf70
        by_cases hjl : j < c
        · obtain ⟨ae, rfl, hz, _, _⟩ := hri j hjl
          refine gg ?_
          refine W_seqD [(0, 3), (1, 3), (2, 3), (3, 0), (4, 3), (5, 3), (6, 0), (7, 3), (8, 3), (9, 3), (10, 0), (11, 3), (12, 3), (13, 0), (14, 3)] mixed (by kernel_rfl) (fun w8 hE8 _ => ?_)
          have k1 := (hZ.ext (hE.trans hE8)).at hlt
          have k2 := cell_ext (hE04.trans (hE.trans hE8)) hx
          have k3 := RowW.at ((hZ.ext (hE.trans hE8)).row i hlt) hjl
          have k4 := cell_ext (hE04.trans (hE.trans hE8)) hz
          refine gg ?_
          refine ⟨_, ?_, j + 1, rfl, by omega, rfl, rfl, rfl, rfl, rfl, rfl, rfl, hE.trans hE8⟩
          omega
        · refine gg ?_
          refine ⟨_, ?_, i + 1, rfl, by omega, rfl, rfl, rfl, rfl, hE⟩
          omega
      · refine gg ?_
        exact hE04.trans hE
    rintro f w5 hE
    refine gg ?_
    refine R1_call2 (awake_ok w5) ?_
    rintro _ w6 ⟨hE6, rfl⟩
    refine gg ?_
    exact ret1 (v := .bool _) rfl rfl ⟨hE.trans hE6, rfl⟩
end Go.Proofs.Ytpldkdjflkckpaa
