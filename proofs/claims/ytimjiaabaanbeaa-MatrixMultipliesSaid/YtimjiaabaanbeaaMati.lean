/- matrix.determinant. -/
import Derived.Test.YtimjiaabaanbeaaMath
namespace Go.Proofs.Ytimjiaabaanbeaa
open Go Go.Eng Go.Num Go.Proofs

theorem swp_self {α : Type} (k : Nat) (M : Nat → α) : swp k k M = M := by
  funext i; simp only [swp]; split
  · rename_i h; rw [h]
  · rfl
/-- rows exchanged in memory -/
theorem WMat.swap {w w' : World} {gO r c k p : Nat} {gs : Nat → Nat} {cn : Bool} {b : Nat} {M : Nat → Nat → Int} (h : WMat w gO gs r c cn (fun _ _ => b) M) (hk : k < r) (hp : p < r) (hC : Ch (fun b => b = gO) w w') (hkp : Kp w w')
    (hO : Outer 53 w' gO r r c (swp k p gs)) : WMat w' gO (swp k p gs) r c cn (fun _ _ => b) (swp k p M) := by
  have key : ∀ i, i < r → ∃ j, j < r ∧ swp k p gs i = gs j ∧ swp k p M i = M j ∧ j = swp k p id i := fun i hi => by
    simp only [swp]
    split
    · exact ⟨p, hp, rfl, rfl, rfl⟩
    · split
      · exact ⟨k, hk, rfl, rfl, rfl⟩
      · exact ⟨i, hi, rfl, rfl, rfl⟩
  refine ⟨hO.full, fun i hi => ?_, fun i hi => ?_, fun i j hi hj e => ?_⟩
  · obtain ⟨j, hj, e1, e2, _⟩ := key i hi
    rw [e1, e2]
    exact (h.row j hj).kp hkp hC (h.ne j hj)
  · obtain ⟨j, hj, e1, e2, _⟩ := key i hi
    rw [e1]; exact h.ne j hj
  · obtain ⟨a, ha, e1, _, e3⟩ := key i hi
    obtain ⟨b, hb, f1, _, f3⟩ := key j hj
    rw [e1, f1] at e
    have := h.inj a b ha hb e
    subst this
    rw [e3] at f3
    simp only [swp, id] at f3
    split at f3 <;> split at f3 <;> (try split at f3) <;> (try split at f3) <;> omega

set_option maxHeartbeats 16000000 in
theorem determinant_ok (v : Value) (n N : Nat) (M : Nat → Nat → Int) (w : World) (h : MatE (EI N) w v n (fun _ => n) M) (hn : 1 ≤ n) (hn2 : n ≤ 16) (hN1 : 1 ≤ N) (hN : N < 1048576) :
    Meets Try.prog 57 #[v] w (RI w (detB n M)) := by
  obtain ⟨A, cap, rfl, hrc, hcap, hrow⟩ := h
  refine fn_W (n := 149) Try.func57 rfl rfl (by kernel_rfl) (by simp) ?_
  refine gg ?_
  refine R1_alloc (.inl rfl) z_Int ?_
  intro w1 hB1 hE1 hs1
  have hR1 : Bx w1 w.heap.size 1 true 0 := Bx.zero true hB1
  clear hB1
  refine gg ?_
  refine R1_make sl_sInt (.inl rfl) rfl rfl (Nat.le_refl _) (by omega) (by omega) ?_
  intro w2 hB2 hE2 hs2
  obtain ⟨gR, hgR⟩ : ∃ g, g = w.heap.size := ⟨_, rfl⟩
  obtain ⟨gO, hgO⟩ : ∃ g, g = w1.heap.size := ⟨_, rfl⟩
  rw [← hgR] at hR1 ⊢
  rw [← hgO] at hB2 ⊢
  have hRO : gR < gO := by omega
  have hO2 : Outer 53 w2 gO n 0 n (fun _ => 0) := outer_made hB2
  have hR2 := hR1.ext hE2
  have hE := hE1.trans hE2
  clear hB2 hR1 hE1 hE2
  refine gg ?_
  refine W_seqM (fun f w' => ∃ gs, f 2 = .pointer (some ⟨gR, 0, none⟩) ∧ f 3 = .int .i64 ((n : Nat) : Int) ∧ f 4 = .slice (some ⟨gO, 0, none⟩) n n ∧ Ext w w' ∧ Bx w' gR 1 true 0 ∧ WMat w' gO gs n n false (fun _ _ => N) M ∧ ∀ k, k < n → gO < gs k) ?_ ?_
  · refine gg ?_
    refine W_loop (fun m f w' => ∃ i gs, m = n - i ∧ i ≤ n ∧ f 2 = .pointer (some ⟨gR, 0, none⟩) ∧ f 3 = .int .i64 ((n : Nat) : Int) ∧ f 4 = .slice (some ⟨gO, 0, none⟩) n n ∧ f 19 = .slice A n cap ∧ f 20 = .int .i64 ((n : Nat) : Int) ∧ f 21 = .int .i64 ((i : Nat) : Int) ∧
      Ext w w' ∧ Bx w' gR 1 true 0 ∧ Outer 53 w' gO n i n gs ∧ (∀ k, k < i → RowB w' (gs k) n false (fun _ => N) (M k) ∧ gO < gs k) ∧ (∀ k k', k < i → k' < i → gs k = gs k' → k = k'))
      n ⟨0, fun _ => 0, rfl, Nat.zero_le _, rfl, rfl, rfl, rfl, rfl, rfl, hE, hR2, hO2, fun k hk => absurd hk (by omega), fun k k' hk => absurd hk (by omega)⟩ ?_
    clear hO2 hE hR2 hs2
    rintro m f w1 ⟨i, gs, rfl, hi, hf2, hf3, hf4, hf19, hf20, hf21, hE, hR, hO, hrows, hinj⟩
    rw [ui hf2, ui hf3, ui hf4, ui hf19, ui hf20, ui hf21]
    clear hf2 hf3 hf4 hf19 hf20 hf21
    by_cases hlt : i < n
    · obtain ⟨ad, u, rfl, hx, hru⟩ := hrow i hlt
      obtain ⟨Ai, capi, rfl, hri⟩ := id hru
      have hx1 := cell_ext hE hx
      refine gg ?_
      refine R1_make sl_Int (.inl rfl) rfl rfl (Nat.le_refl _) (by omega) (by omega) ?_
      intro w2 hB2 hE2 hs2
      have hrow2 := rowB_made false 0 hB2
      obtain ⟨g, hg⟩ : ∃ g, g = w1.heap.size := ⟨_, rfl⟩
      rw [← hg] at hrow2 ⊢
      have hgO' := hO.lt
      refine gg ?_
      refine R1_storeRow (one_of rfl) (.inl rfl) rfl rfl (hO.ext hE2) hlt ?_
      intro w3 ⟨_, hO3⟩ hC3 hk3 hs3
      have hO3 := hO3 rfl
      have hx3 := hO3.at (k := i) (by omega) hlt
      rw [show setN gs i g i = g by simp [setN]] at hx3
      have hrow3 := hrow2.kp hk3 hC3 (by omega)
      have hE3 : Ext w w3 := hC3.ext_of (hE.trans hE2) (fun b hb => by omega)
      refine gg ?_
      refine R1_copyE rfl rfl hrow3 (hru.ext hE3) (by omega) ?_
      intro w4 hrow4 hC4 hk4 hs4
      have hE4 : Ext w w4 := hC4.ext_of hE3 (fun b hb => by omega)
      refine gg ?_
      refine ⟨_, ?_, i + 1, setN gs i g, rfl, by omega, rfl, rfl, rfl, rfl, rfl, rfl, hE4, ((hR.ext hE2).kp hk3 hC3 (by omega)).kp hk4 hC4 (by omega), hO3.kp hC4 (by omega), fun k hk => ?_, fun k k' hk hk' e => ?_⟩
      · omega
      · by_cases e : k = i
        · subst e
          simp only [setN, if_true]
          exact ⟨hrow4, by omega⟩
        · simp only [setN, if_neg e]
          obtain ⟨h1, h2⟩ := hrows k (by omega)
          have := h1.lt
          exact ⟨((h1.ext hE2).kp hk3 hC3 (by omega)).kp hk4 hC4 (by omega), h2⟩
      · have hl : ∀ k, k < i → gs k < w1.heap.size := fun k hk => (hrows k hk).1.lt
        simp only [setN] at e
        split at e <;> split at e
        · omega
        · have := hl k' (by omega); omega
        · have := hl k (by omega); omega
        · exact hinj k k' (by omega) (by omega) e
    · refine gg ?_
      have : i = n := by omega
      subst this
      exact ⟨gs, rfl, rfl, rfl, hE, hR, ⟨hO.full, fun k hk => (hrows k hk).1, fun k hk => by have := (hrows k hk).2; omega, hinj⟩, fun k hk => (hrows k hk).2⟩
  clear hO2 hE hR2 hs2
  rintro f w1 ⟨gs, hf2, hf3, hf4, hE, hR, hW, hgs⟩
  rw [ui hf2, ui hf3, ui hf4]
  clear hf2 hf3 hf4
  refine gg ?_
  refine R1_call2 (small_ok 1 w1 (by omega) (by omega)) ?_
  rintro _ w2 ⟨hE2, x, y, rfl, hcv⟩
  refine gg ?_
  refine R1_alloc (.inl rfl) z_Int ?_
  intro w3 hB3 hE3 hs3
  have hL3 : Bx w3 w2.heap.size 1 false 0 := Bx.zero false hB3
  obtain ⟨gL, hgL⟩ : ∃ g, g = w2.heap.size := ⟨_, rfl⟩
  rw [← hgL] at hL3 ⊢
  refine gg ?_
  refine R1_storeBx (.inl rfl) rfl rfl hL3 ((hcv.ext hE3).ev false (N := N) (Bd.mono (N := 1) (show (1 : Int).natAbs < B ^ 1 by decide) hN1)) ?_
  intro w4 hL4 hC4 hk4 hs4
  have hW2 := hW.ext hE2
  have hgsL : ∀ k, k < n → gs k < gL := fun k hk => by have := (hW2.row k hk).lt; omega
  have hOL : gO < gL := by have := hW2.lt; omega
  have hW4 := (hW2.ext hE3).kp hk4 hC4 (by omega) (fun k hk => by have := hgsL k hk; omega)
  have hR4 := ((hR.ext hE2).ext hE3).kp hk4 hC4 (by omega)
  have hE4 : Ext w w4 := hC4.ext_of (hE.trans (hE2.trans hE3)) (fun b hb => by omega)
  have hgs2 : ∀ k, k < n → gO < gs k ∧ gs k < gL := fun k hk => ⟨hgs k hk, hgsL k hk⟩
  clear hgsL hgs hW hW2 hR hE2 hE3 hcv hB3 hL3 hC4 hk4 hs4 hs3 hgL hE w1 w2 w3
  refine gg ?_
  refine W_seqM (fun f w' => ∃ neg last, f 2 = .pointer (some ⟨gR, 0, none⟩) ∧ f 7 = .bool neg ∧ f 8 = .pointer (some ⟨gL, 0, none⟩) ∧ Ext w w' ∧ Bx w' gR 1 true 0 ∧ Bx w' gL (Nb N n) false last ∧ (if neg then -last else last) = detB n M) ?_ ?_
  · refine gg ?_
    refine W_loop (fun m f w' => ∃ k gs Mk neg last, m = n - k ∧ k ≤ n ∧ f 2 = .pointer (some ⟨gR, 0, none⟩) ∧ f 3 = .int .i64 ((n : Nat) : Int) ∧ f 4 = .slice (some ⟨gO, 0, none⟩) n n ∧ f 7 = .bool neg ∧ f 8 = .pointer (some ⟨gL, 0, none⟩) ∧ f 39 = .int .i64 ((n : Nat) : Int) ∧ f 40 = .int .i64 ((k : Nat) : Int) ∧
      Ext w w' ∧ Bx w' gR 1 true 0 ∧ Bx w' gL (Nb N k) false last ∧ last ≠ 0 ∧ WMat w' gO gs n n false (fun _ _ => Nb N k) Mk ∧ (∀ i, i < n → gO < gs i ∧ gs i < gL) ∧ detGo n (n - k) k Mk neg last = detB n M)
      n ⟨0, gs, M, false, 1, rfl, Nat.zero_le _, rfl, rfl, rfl, rfl, rfl, rfl, rfl, hE4, hR4, hL4, by decide, hW4, hgs2, rfl⟩ ?_
    clear hE4 hR4 hL4 hW4 hgs2 w4 gs
    rintro m f w1 ⟨k, gs, Mk, neg, last, rfl, hk, hf2, hf3, hf4, hf7, hf8, hf39, hf40, hE, hR, hL, hl0, hW, hgs, hdet⟩
    rw [ui hf2, ui hf3, ui hf4, ui hf7, ui hf8, ui hf39, ui hf40]
    clear hf2 hf3 hf4 hf7 hf8 hf39 hf40
    have hNk : Nb N k < 68719476736 := Nb_big hN (by omega)
    by_cases hlt : k < n
    · refine gg ?_
      refine W_seqM (fun f w' => ∃ p, k ≤ p ∧ p ≤ n ∧ f 2 = .pointer (some ⟨gR, 0, none⟩) ∧ f 3 = .int .i64 ((n : Nat) : Int) ∧ f 4 = .slice (some ⟨gO, 0, none⟩) n n ∧ f 7 = .bool neg ∧ f 8 = .pointer (some ⟨gL, 0, none⟩) ∧ f 9 = .int .i64 ((k : Nat) : Int) ∧ f 10 = .int .i64 ((p : Nat) : Int) ∧ f 39 = .int .i64 ((n : Nat) : Int) ∧ f 40 = .int .i64 ((k : Nat) : Int) ∧ Ext w1 w' ∧ p = pivot n k Mk ∧ (p < n → Mk p k ≠ 0)) ?_ ?_
      · refine gg ?_
        refine W_loop (fun m f w' => ∃ p, m = n - p ∧ k ≤ p ∧ p ≤ n ∧ f 2 = .pointer (some ⟨gR, 0, none⟩) ∧ f 3 = .int .i64 ((n : Nat) : Int) ∧ f 4 = .slice (some ⟨gO, 0, none⟩) n n ∧ f 7 = .bool neg ∧ f 8 = .pointer (some ⟨gL, 0, none⟩) ∧ f 9 = .int .i64 ((k : Nat) : Int) ∧ f 10 = .int .i64 ((p : Nat) : Int) ∧ f 39 = .int .i64 ((n : Nat) : Int) ∧ f 40 = .int .i64 ((k : Nat) : Int) ∧ Ext w1 w' ∧ findP n k Mk (n - p) p = pivot n k Mk)
          (n - k) ⟨k, rfl, Nat.le_refl _, hk, rfl, rfl, rfl, rfl, rfl, rfl, rfl, rfl, rfl, Ext.refl _, rfl⟩ ?_
        rintro m f w2 ⟨p, rfl, hkp, hpn, hf2, hf3, hf4, hf7, hf8, hf9, hf10, hf39, hf40, hE2, hp⟩
        rw [ui hf2, ui hf3, ui hf4, ui hf7, ui hf8, ui hf9, ui hf10, ui hf39, ui hf40]
        clear hf2 hf3 hf4 hf7 hf8 hf9 hf10 hf39 hf40
        by_cases hpl : p < n
        · have hx := (hW.ext hE2).at hpl
          obtain ⟨x, y, hx1, hx2, hv⟩ := ((hW.ext hE2).row p hpl).at hlt
          refine W_seq ?_
          refine gg ?_
          refine R1_call2 (sign_ok _ _ _ _ w2 hv.1 (by omega)) ?_
          rintro _ w3 ⟨hE3, rfl⟩
          by_cases hz : Mk p k = 0
          · have hs : (Mk p k).sign = 0 := by rw [hz]; rfl
            refine gg ?_
            refine ⟨_, ?_, p + 1, rfl, by omega, by omega, rfl, rfl, rfl, rfl, rfl, rfl, rfl, rfl, rfl, hE2.trans hE3, ?_⟩
            · omega
            · rw [← findP_step ⟨hpl, hz⟩]; exact hp
          · have hs : ¬ (Mk p k).sign = 0 := fun e => hz (Int.sign_eq_zero_iff_zero.1 e)
            refine gg ?_
            refine ⟨p, hkp, hpn, rfl, rfl, rfl, rfl, rfl, rfl, rfl, rfl, rfl, hE2.trans hE3, ?_, fun _ => hz⟩
            rw [← hp, findP_stop (fun h => hz h.2)]
        · refine W_seq ?_
          refine gg ?_
          refine ⟨p, hkp, hpn, rfl, rfl, rfl, rfl, rfl, rfl, rfl, rfl, rfl, hE2, ?_, fun h => absurd h hpl⟩
          rw [← hp, findP_stop (fun h => hpl h.1)]
      rintro f w2 ⟨p, hkp, hpn, hf2, hf3, hf4, hf7, hf8, hf9, hf10, hf39, hf40, hE2, hp, hpz⟩
      rw [ui hf2, ui hf3, ui hf4, ui hf7, ui hf8, ui hf9, ui hf10, ui hf39, ui hf40]
      clear hf2 hf3 hf4 hf7 hf8 hf9 hf10 hf39 hf40
      have hdet' := hdet
      rw [show n - k = (n - (k + 1)) + 1 by omega, detGo, ← hp] at hdet'
      refine W_seq ?_
      by_cases hpn' : p = n
      · rw [if_pos hpn'] at hdet'
        refine gg ?_
        refine R1_bld0 b0_Int ?_
        refine gg ?_
        refine R1_storeBx (N' := 1) (.inl rfl) rfl rfl (hR.ext hE2) ((CV.zero w2).ev true (Bd.zero 1)) ?_
        intro w3 hR3 hC3 hk3 hs3
        refine gg ?_
        obtain ⟨x, y, hB, hv⟩ := hR3
        refine retC rfl agg_Int rfl hB ⟨hC3.ext_of (hE.trans hE2) (fun b hb => by omega), x, y, rfl, ?_⟩
        rw [← hdet']; exact hv.2 rfl
      rw [if_neg hpn'] at hdet'
      have hpl : p < n := by omega
      have hE' := hE.trans hE2
      have hR' := hR.ext hE2
      have hL' := hL.ext hE2
      have hW' := hW.ext hE2
      clear hR hL hW hE hE2 hdet w1
      refine gg ?_
      refine W_seqM (fun f w' => ∃ gs', f 2 = .pointer (some ⟨gR, 0, none⟩) ∧ f 3 = .int .i64 ((n : Nat) : Int) ∧ f 4 = .slice (some ⟨gO, 0, none⟩) n n ∧ f 7 = .bool (neg != decide (p ≠ k)) ∧ f 8 = .pointer (some ⟨gL, 0, none⟩) ∧ f 9 = .int .i64 ((k : Nat) : Int) ∧ f 39 = .int .i64 ((n : Nat) : Int) ∧ f 40 = .int .i64 ((k : Nat) : Int) ∧
        Ext w w' ∧ Bx w' gR 1 true 0 ∧ Bx w' gL (Nb N k) false last ∧ WMat w' gO gs' n n false (fun _ _ => Nb N k) (swp k p Mk) ∧ (∀ i, i < n → gO < gs' i ∧ gs' i < gL)) ?_ ?_
      · refine W_seq ?_
        by_cases hpk : p = k
        · refine gg ?_
          refine ⟨gs, rfl, rfl, rfl, ?_, rfl, rfl, rfl, rfl, hE', hR', hL', ?_, hgs⟩
          · show Value.bool neg = _
            simp [hpk]
          · rw [hpk, swp_self]; exact hW'
        · refine gg ?_
          refine W_seqD [(0, 3), (1, 3), (2, 3), (3, 3), (4, 3), (5, 3), (6, 3), (7, 0), (8, 3), (9, 3), (10, 3), (11, 0), (12, 3), (13, 2), (14, 3), (15, 2)] mixed (by kernel_rfl) (fun w3 hE3 _ => ?_)
          have hW3 := hW'.ext hE3
          have hxp := hW3.at hpl
          have hxk := hW3.at hlt
          have hO3 := outer_full hW3.outer
          refine gg ?_
          refine R1_storeRow (one_of rfl) (.inl rfl) rfl rfl hO3 hlt ?_
          intro w4 ⟨hO4, _⟩ hC4 hk4 hs4
          refine gg ?_
          refine R1_storeRow (one_of rfl) (.inl rfl) rfl rfl hO4 hpl ?_
          intro w5 ⟨hO5, _⟩ hC5 hk5 hs5
          have hC45 := hC4.trans hC5
          have hk45 := hk4.trans hk5
          have e : setN (setN gs k (gs p)) p (gs k) = swp k p gs := by
            funext i
            simp only [setN, swp]
            by_cases h1 : i = p
            · rw [if_pos h1]
              by_cases h2 : i = k
              · omega
              · rw [if_neg h2, if_pos h1]
            · rw [if_neg h1]
              by_cases h2 : i = k
              · rw [if_pos h2, if_pos h2]
              · rw [if_neg h2, if_neg h2, if_neg h1]
          rw [e] at hO5
          have hW5 := hW3.swap hlt hpl hC45 hk45 hO5
          refine gg ?_
          refine ⟨swp k p gs, rfl, rfl, rfl, ?_, rfl, rfl, rfl, rfl, hC45.ext_of (hE'.trans hE3) (fun b hb => by omega), (hR'.ext hE3).kp hk45 hC45 (by omega), (hL'.ext hE3).kp hk45 hC45 (by omega), hW5, fun i hi => ?_⟩
          · show Value.bool (!neg) = _
            simp [hpk]
          · simp only [swp]
            split
            · exact hgs p hpl
            · split
              · exact hgs k hlt
              · exact hgs i hi
      clear hW' hL' hR' hE' hgs w2 gs
      rintro f w1 ⟨gs, hf2, hf3, hf4, hf7, hf8, hf9, hf39, hf40, hE, hR, hL, hW, hgs⟩
      rw [ui hf2, ui hf3, ui hf4, ui hf7, ui hf8, ui hf9, ui hf39, ui hf40]
      clear hf2 hf3 hf4 hf7 hf8 hf9 hf39 hf40
      obtain ⟨Ms, hMs⟩ : ∃ Ms, Ms = swp k p Mk := ⟨_, rfl⟩
      rw [← hMs] at hW hdet'
      have hpiv : Ms k k ≠ 0 := by rw [hMs]; simp only [swp, if_true]; exact hpz hpl
      have hx := hW.at hlt
      obtain ⟨x, y, hx1, hx2, hv⟩ := (hW.row k hlt).at hlt
      refine gg ?_
      refine R1_alloc (.inl rfl) z_Int ?_
      intro w3 hB3 hE3 hs3
      have hP3 : Bx w3 w1.heap.size 1 false 0 := Bx.zero false hB3
      obtain ⟨gP, hgP⟩ : ∃ g, g = w1.heap.size := ⟨_, rfl⟩
      rw [← hgP] at hP3 ⊢
      refine gg ?_
      refine R1_storeBx (.inl rfl) rfl rfl hP3 (hv.ext hE3) ?_
      intro w4 hP4 hC4 hk4 hs4
      have hLP : gL < gP := by have := hL.lt; omega
      have hE4 : Ext w w4 := hC4.ext_of (hE.trans hE3) (fun b hb => by have := hE.size; omega)
      have hR4 := (hR.ext hE3).kp hk4 hC4 (by omega)
      have hL4 := (hL.ext hE3).kp hk4 hC4 (by omega)
      have hW4 := (hW.ext hE3).kp hk4 hC4 (by omega) (fun i hi => by have := hgs i hi; omega)
      have hRw : w.heap.size ≤ gR := by omega
      clear hP3 hB3 hx hx1 hx2 hv hR hL hW hE hE3 hC4 hk4 hs4 hs3 hgP w1 w3
      refine gg ?_
      refine W_seqM (fun f w' => f 2 = .pointer (some ⟨gR, 0, none⟩) ∧ f 3 = .int .i64 ((n : Nat) : Int) ∧ f 4 = .slice (some ⟨gO, 0, none⟩) n n ∧ f 7 = .bool (neg != decide (p ≠ k)) ∧ f 8 = .pointer (some ⟨gL, 0, none⟩) ∧ f 11 = .pointer (some ⟨gP, 0, none⟩) ∧ f 39 = .int .i64 ((n : Nat) : Int) ∧ f 40 = .int .i64 ((k : Nat) : Int) ∧
        Ext w w' ∧ Bx w' gR 1 true 0 ∧ Bx w' gL (Nb N k) false last ∧ Bx w' gP (Nb N k) false (Ms k k) ∧ WMat w' gO gs n n false (fun _ _ => Nb N (k + 1)) (elim k last Ms)) ?_ ?_
      · refine gg ?_
        refine W_loop (fun m f w' => ∃ i, m = n - i ∧ k < i ∧ i ≤ n ∧ f 2 = .pointer (some ⟨gR, 0, none⟩) ∧ f 3 = .int .i64 ((n : Nat) : Int) ∧ f 4 = .slice (some ⟨gO, 0, none⟩) n n ∧ f 7 = .bool (neg != decide (p ≠ k)) ∧ f 8 = .pointer (some ⟨gL, 0, none⟩) ∧ f 9 = .int .i64 ((k : Nat) : Int) ∧ f 11 = .pointer (some ⟨gP, 0, none⟩) ∧ f 12 = .int .i64 ((i : Nat) : Int) ∧ f 39 = .int .i64 ((n : Nat) : Int) ∧ f 40 = .int .i64 ((k : Nat) : Int) ∧
          Ext w w' ∧ Bx w' gR 1 true 0 ∧ Bx w' gL (Nb N k) false last ∧ Bx w' gP (Nb N k) false (Ms k k) ∧ WMat w' gO gs n n false (fun a b => if k < a ∧ k < b ∧ a < i then Nb N (k + 1) else Nb N k) (fun a b => if k < a ∧ k < b ∧ a < i then elim k last Ms a b else Ms a b))
          (n - (k + 1)) ⟨k + 1, rfl, by omega, by omega, rfl, rfl, rfl, rfl, rfl, rfl, rfl, rfl, rfl, rfl, hE4, hR4, hL4, hP4, hW4.congr (fun a b ha hb => ⟨by rw [if_neg (by omega)]; exact Nat.le_refl _, by rw [if_neg (by omega)]⟩)⟩ ?_
        clear hE4 hR4 hL4 hP4 hW4 w4
        rintro m f w1 ⟨i, rfl, hki, hin, hf2, hf3, hf4, hf7, hf8, hf9, hf11, hf12, hf39, hf40, hE, hR, hL, hP, hW⟩
        rw [ui hf2, ui hf3, ui hf4, ui hf7, ui hf8, ui hf9, ui hf11, ui hf12, ui hf39, ui hf40]
        clear hf2 hf3 hf4 hf7 hf8 hf9 hf11 hf12 hf39 hf40
        refine W_seq ?_
        by_cases hil : i < n
        · refine gg ?_
          refine W_loop (fun m f w' => ∃ j, m = n - j ∧ k < j ∧ j ≤ n ∧ f 2 = .pointer (some ⟨gR, 0, none⟩) ∧ f 3 = .int .i64 ((n : Nat) : Int) ∧ f 4 = .slice (some ⟨gO, 0, none⟩) n n ∧ f 7 = .bool (neg != decide (p ≠ k)) ∧ f 8 = .pointer (some ⟨gL, 0, none⟩) ∧ f 9 = .int .i64 ((k : Nat) : Int) ∧ f 11 = .pointer (some ⟨gP, 0, none⟩) ∧ f 12 = .int .i64 ((i : Nat) : Int) ∧ f 13 = .int .i64 ((j : Nat) : Int) ∧ f 39 = .int .i64 ((n : Nat) : Int) ∧ f 40 = .int .i64 ((k : Nat) : Int) ∧
            Ext w w' ∧ Bx w' gR 1 true 0 ∧ Bx w' gL (Nb N k) false last ∧ Bx w' gP (Nb N k) false (Ms k k) ∧ WMat w' gO gs n n false (fun a b => if k < a ∧ k < b ∧ (a < i ∨ a = i ∧ b < j) then Nb N (k + 1) else Nb N k) (fun a b => if k < a ∧ k < b ∧ (a < i ∨ a = i ∧ b < j) then elim k last Ms a b else Ms a b))
            (n - (k + 1)) ⟨k + 1, rfl, by omega, by omega, rfl, rfl, rfl, rfl, rfl, rfl, rfl, rfl, rfl, rfl, rfl, hE, hR, hL, hP, hW.congr (fun a b ha hb => ⟨?_, ?_⟩)⟩ ?_
          · by_cases h1 : k < a ∧ k < b ∧ a < i
            · rw [if_pos h1, if_pos (by omega)]; exact Nat.le_refl _
            · rw [if_neg h1, if_neg (by omega)]; exact Nat.le_refl _
          · by_cases h1 : k < a ∧ k < b ∧ a < i
            · rw [if_pos h1, if_pos (by omega)]
            · rw [if_neg h1, if_neg (by omega)]
          clear hE hR hL hP hW w1
          rintro m f w1 ⟨j, rfl, hkj, hjn, hf2, hf3, hf4, hf7, hf8, hf9, hf11, hf12, hf13, hf39, hf40, hE, hR, hL, hP, hW⟩
          rw [ui hf2, ui hf3, ui hf4, ui hf7, ui hf8, ui hf9, ui hf11, ui hf12, ui hf13, ui hf39, ui hf40]
          clear hf2 hf3 hf4 hf7 hf8 hf9 hf11 hf12 hf13 hf39 hf40
          refine W_seq ?_
          by_cases hjl : j < n
          · refine gg ?_
            refine W_seqG [(0, 0), (1, 3), (2, 3), (3, 3), (4, 0), (5, 3), (6, 3), (7, 0), (9, 3), (10, 3), (11, 3), (12, 0), (13, 3), (14, 3), (15, 0), (16, 3), (17, 3), (18, 3), (19, 0), (20, 3), (21, 3), (22, 0)] [(8, [], []), (25, [], []), (23, [], [8]), (24, [], [8, 23])] [(26, 2)] mixed (by kernel_rfl) (fun w2 hE2 _ => ?_)
            have hW2 := hW.ext hE2
            have hoi := hW2.at hil
            have hok := hW2.at hlt
            obtain ⟨px, py, hPB, hPv⟩ := hP.ext hE2
            obtain ⟨hp1, hp2⟩ := blkP hPB
            obtain ⟨x1, y1, hx1, hy1, hv1⟩ := (hW2.row i hil).at hjl
            obtain ⟨x2, y2, hx2, hy2, hv2⟩ := (hW2.row i hil).at hlt
            obtain ⟨x3, y3, hx3, hy3, hv3⟩ := (hW2.row k hlt).at hjl
            simp only at hv1 hv2 hv3
            rw [if_neg (by omega), if_neg (by omega)] at hv1 hv2 hv3
            refine gg ?_
            refine Rg_float [(8, []), (23, []), (24, [])] [fA 25 14 35 (.agg #[.bool false, .slice none 0 0])] [112, 127, 128, 14] (by kernel_rfl) (fun a ha f' w' _ _ => by
              rcases List.mem_singleton.1 ha with rfl
              exact flt_alloc z_Int rfl f' w') ?_
            refine Rc_cons (fun w3 hE3 => ?_)
            refine gg ?_
            refine R1_call1 (mul_ok _ _ _ _ _ _ (Nb N k) w3 (hPv.ext hE3).1 (hv1.ext hE3).1 (by omega)) ?_
            rintro _ w4 ⟨hE4, a1, b1, rfl, hc1⟩
            refine ⟨hE4, ?_⟩
            refine gg ?_
            refine Rc_cons (fun w5 hE5 => ?_)
            have hE35 := (hE3.trans hE4).trans hE5
            refine gg ?_
            refine R1_call1 (mul_ok _ _ _ _ _ _ (Nb N k) w5 (hv2.ext hE35).1 (hv3.ext hE35).1 (by omega)) ?_
            rintro _ w6 ⟨hE6, a2, b2, rfl, hc2⟩
            refine ⟨hE6, ?_⟩
            refine gg ?_
            refine Rc_cons (fun w7 hE7 => ?_)
            have m1 := (hPv.bd).mul hv1.bd
            have m2 := (hv2.bd).mul hv3.bd
            refine gg ?_
            refine R1_call1 (sub_ok _ _ _ _ _ _ (Nb N k + Nb N k) w7 ((hc1.ext ((hE5.trans hE6).trans hE7)).iv m1) ((hc2.ext hE7).iv m2) (by omega)) ?_
            rintro _ w8 ⟨hE8, a3, b3, rfl, hc3⟩
            refine ⟨hE8, ?_⟩
            have m3 := m1.sub m2
            have e3 : Nb N k + Nb N k + 1 = Nb N (k + 1) := by simp only [Nb]; omega
            rw [e3] at m3
            refine gg ?_
            refine Rc_nil (fun w9 hE9 bs hbs _ => ?_)
            obtain ⟨hge, hBM⟩ := hbs _ List.mem_cons_self
            have hM9 : Bx w9 (bs 14) 1 false 0 := Bx.zero false hBM
            have hge : w2.heap.size ≤ bs 14 := hge
            have hE29 : Ext w2 w9 := hE35.trans (hE6.trans (hE7.trans (hE8.trans hE9)))
            show Ro _ _ _ _ _ _ (upd _ 14 (.pointer (some ⟨bs 14, 0, none⟩))) _
            generalize bs 14 = gM at *
            refine gg ?_
            refine R1_storeBx (.inl rfl) rfl rfl hM9 ((hc3.ext hE9).ev false m3) ?_
            intro w10 hM10 hC10 hk10 hs10
            have hEw2 := hE.trans hE2
            have hw2 := hEw2.size
            have hlt1 := (hP.ext hE2).lt
            have hW10 := (hW2.ext hE29).kp hk10 hC10 (by have := hW2.lt; omega) (fun a ha => by have := (hW2.row a ha).lt; omega)
            have hR10 := (hR.ext (hE2.trans hE29)).kp hk10 hC10 (by omega)
            have hL10 := (hL.ext (hE2.trans hE29)).kp hk10 hC10 (by omega)
            have hP10 := (hP.ext (hE2.trans hE29)).kp hk10 hC10 (by omega)
            have hE10 : Ext w w10 := hC10.ext_of (hEw2.trans hE29) (fun b hb => by omega)
            refine gg ?_
            refine W_regD [(0, 3), (1, 3), (2, 3), (3, 0), (4, 3), (5, 0), (6, 0), (7, 1), (8, 3), (9, 3), (10, 3), (11, 3), (12, 3), (13, 2)] mixed (by kernel_rfl) (fun w11 hE11 _ => ?_)
            have hW11 := hW10.ext hE11
            have hoi := hW11.at hil
            obtain ⟨mx, my, hMB, hMv⟩ := hM10.ext hE11
            obtain ⟨hm1, hm2⟩ := blkP hMB
            obtain ⟨lx, ly, hLB, hLv⟩ := hL10.ext hE11
            obtain ⟨hl1, hl2⟩ := blkP hLB
            have hNk1 : Nb N (k + 1) < 68719476736 := Nb_big hN (by omega)
            refine gg ?_
            refine R1_call1 (divMod_ok _ _ _ _ _ _ (Nb N (k + 1)) w11 hMv.1 (hLv.mono (Nb_mono N k)).1 (by omega) hl0) ?_
            rintro _ w12 ⟨hE12, qx, qy, rx, ry, rfl, hq, hr⟩
            refine ⟨hE12, ?_⟩
            refine gg ?_
            refine R1_storeE (.inl rfl) rfl rfl ((hW11.ext hE12).row i hil) hjl (hq.ev false (N := Nb N (k + 1)) m3.ediv) ?_
            intro w13 hR13 hC13 hk13 hs13
            have hW13 := (hW11.ext hE12).put hil hR13 hC13 hk13
            have hgi := hgs i hil
            refine gg ?_
            refine ⟨_, ?_, j + 1, rfl, by omega, by omega, rfl, rfl, rfl, rfl, rfl, rfl, rfl, rfl, rfl, rfl, rfl, hC13.ext_of (hE10.trans (hE11.trans hE12)) (fun b hb => by omega), (hR10.ext (hE11.trans hE12)).kp hk13 hC13 (by omega), (hL10.ext (hE11.trans hE12)).kp hk13 hC13 (by omega), (hP10.ext (hE11.trans hE12)).kp hk13 hC13 (by omega), hW13.congr (fun a b ha hb => ⟨?_, ?_⟩)⟩
            · omega
            · simp only [set2]
              by_cases e : a = i ∧ b = j
              · rw [if_pos e, if_pos (by omega)]; exact Nat.le_refl _
              · rw [if_neg e]
                by_cases h1 : k < a ∧ k < b ∧ (a < i ∨ a = i ∧ b < j)
                · rw [if_pos h1, if_pos (by omega)]; exact Nat.le_refl _
                · rw [if_neg h1, if_neg (by omega)]; exact Nat.le_refl _
            · simp only [set2]
              by_cases e : a = i ∧ b = j
              · obtain ⟨rfl, rfl⟩ := e
                rw [if_pos ⟨rfl, rfl⟩, if_pos (by omega), elim, if_pos ⟨hki, hkj⟩]
              · rw [if_neg e]
                by_cases h1 : k < a ∧ k < b ∧ (a < i ∨ a = i ∧ b < j)
                · rw [if_pos h1, if_pos (by omega)]
                · rw [if_neg h1, if_neg (by omega)]
          · refine gg ?_
            refine ⟨_, ?_, i + 1, rfl, by omega, by omega, rfl, rfl, rfl, rfl, rfl, rfl, rfl, rfl, rfl, rfl, hE, hR, hL, hP, hW.congr (fun a b ha hb => ⟨?_, ?_⟩)⟩
            · omega
            · by_cases h1 : k < a ∧ k < b ∧ a < i + 1
              · rw [if_pos (by omega), if_pos h1]; exact Nat.le_refl _
              · rw [if_neg (by omega), if_neg h1]; exact Nat.le_refl _
            · by_cases h1 : k < a ∧ k < b ∧ a < i + 1
              · rw [if_pos (by omega), if_pos h1]
              · rw [if_neg (by omega), if_neg h1]
        · refine gg ?_
          refine ⟨rfl, rfl, rfl, rfl, rfl, rfl, rfl, rfl, hE, hR, hL, hP, hW.congr (fun a b ha hb => ⟨?_, ?_⟩)⟩
          · have := Nb_mono N k
            split <;> omega
          · by_cases h1 : k < a ∧ k < b ∧ a < i
            · rw [if_pos h1]
            · rw [if_neg h1, elim, if_neg (by omega)]
      · clear hE4 hR4 hL4 hP4 hW4 w4
        rintro f w1 ⟨hf2, hf3, hf4, hf7, hf8, hf11, hf39, hf40, hE, hR, hL, hP, hW⟩
        rw [ui hf2, ui hf3, ui hf4, ui hf7, ui hf8, ui hf11, ui hf39, ui hf40]
        clear hf2 hf3 hf4 hf7 hf8 hf11 hf39 hf40
        obtain ⟨x, y, hPB, hPv⟩ := hP
        obtain ⟨hx1, hx2⟩ := blkP hPB
        refine gg ?_
        refine R1_storeBx (.inl rfl) rfl rfl hL (hPv.mono (Nb_mono N k)) ?_
        intro w2 hL2 hC2 hk2 hs2
        refine gg ?_
        refine ⟨_, ?_, k + 1, gs, elim k last Ms, neg != decide (p ≠ k), Ms k k, rfl, by omega, rfl, rfl, rfl, rfl, rfl, rfl, rfl, hC2.ext_of hE (fun b hb => by omega), hR.kp hk2 hC2 (by omega), hL2, hpiv, hW.kp hk2 hC2 (by omega) (fun i hi => by have := hgs i hi; omega), hgs, hdet'⟩
        omega
    · refine gg ?_
      have : k = n := by omega
      subst this
      rw [Nat.sub_self, detGo] at hdet
      exact ⟨neg, last, rfl, rfl, rfl, hE, hR, hL, hdet⟩
  clear hE4 hR4 hL4 hW4 hgs2 w4 gs
  rintro f w1 ⟨neg, last, hf2, hf7, hf8, hE, hR, hL, hdet⟩
  rw [ui hf2, ui hf7, ui hf8]
  clear hf2 hf7 hf8
  have hNn : Nb N n < 68719476736 := Nb_big hN hn2
  obtain ⟨x, y, hLB, hLv⟩ := hL
  obtain ⟨hx1, hx2⟩ := blkP hLB
  refine W_seq ?_
  cases neg with
  | true =>
    refine gg ?_
    refine R1_call2 (neg_ok _ _ _ _ w1 hLv.1 (by omega)) ?_
    rintro _ w2 ⟨hE2, x', y', rfl, hcv⟩
    refine gg ?_
    refine R1_storeBx (N' := Nb N n) (.inl rfl) rfl rfl (hR.ext hE2) (hcv.ev true hLv.bd.neg) ?_
    intro w3 hR3 hC3 hk3 hs3
    refine gg ?_
    obtain ⟨x, y, hB, hv⟩ := hR3
    refine retC rfl agg_Int rfl hB ⟨hC3.ext_of (hE.trans hE2) (fun b hb => by omega), x, y, rfl, ?_⟩
    rw [← hdet]; exact hv.2 rfl
  | false =>
    refine gg ?_
    refine R1_call2 (normalize_ok _ _ _ _ w1 hLv.1 (by omega)) ?_
    rintro _ w2 ⟨hE2, x', y', rfl, hcv⟩
    refine gg ?_
    refine R1_storeBx (N' := Nb N n) (.inl rfl) rfl rfl (hR.ext hE2) (hcv.ev true hLv.bd) ?_
    intro w3 hR3 hC3 hk3 hs3
    refine gg ?_
    obtain ⟨x, y, hB, hv⟩ := hR3
    refine retC rfl agg_Int rfl hB ⟨hC3.ext_of (hE.trans hE2) (fun b hb => by omega), x, y, rfl, ?_⟩
    rw [← hdet]; exact hv.2 rfl
end Go.Proofs.Ytimjiaabaanbeaa
