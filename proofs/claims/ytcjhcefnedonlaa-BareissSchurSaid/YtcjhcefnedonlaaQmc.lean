/- Joined: Ldb. -/
import Derived.Test.YtcjhcefnedonlaaQma
import Derived.Test.YtcjhcefnedonlaaQt
/- bareiss.Leading; the law BareissLeading. -/
namespace Go.Proofs.Ytcjhcefnedonlaa
open Go Go.Eng Go.Num Go.Proofs
open Go.Det (stg)

theorem stg_ld2 {M : Nat → Nat → Int} : ∀ k, (∀ q, q < k → stg M q 0 0 ≠ 0) → stg M k 0 0 = ldM M k := by
  intro k
  induction k using Nat.strongRecOn with
  | _ k ih =>
    intro h
    refine stg_ld fun q hq => ?_
    rw [← ih q hq fun p hp => h p (by omega)]
    exact h q hq
theorem RowB.rowC {w : World} {g c N : Nat} {M : Nat → Int} (h : RowB w g c true (fun _ => N) M) (hc : c < 9223372036854775808) : RowE (EC N) w (.slice (some ⟨g, 0, none⟩) c c) c M :=
  ⟨_, _, rfl, Nat.le_refl _, hc, fun j hj => by
    obtain ⟨x, y, e1, e2, hv⟩ := h.at hj
    exact ⟨_, x, y, rfl, by rw [add_lit]; exact e1, by rw [add_lit]; exact e2, hv.2 rfl, hv.bd⟩⟩
theorem asc_id {c n : Nat} (h : c ≤ n) : asc c (fun j => ((j : Nat) : Int)) n := fun j hj => by dsimp only; omega
/-- what Leading leaves -/
def RLb (w : World) (ok : Bool) (n N : Nat) (M : Nat → Nat → Int) (v : Value) (w' : World) : Prop :=
  Ext w w' ∧ ((ok = false ∧ v = .tuple #[.slice none 0 0, .bool false]) ∨ (ok = true ∧ ∃ g, v = .tuple #[.slice (some ⟨g, 0, none⟩) n n, .bool true] ∧ RowB w' g n true (fun _ => Nb N 16) (ldM M)))

set_option maxHeartbeats 16000000 in
theorem leading_ok (va : Value) (r N : Nat) (len : Nat → Nat) (M : Nat → Nat → Int) (w : World) (ha : MatE (EI N) w va r len M) (hN1 : 1 ≤ N) (hN : N < 1048576) :
    Meets Try.prog 37 #[va] w (RLb w (okS r len) r N M) := by
  refine fn_W (n := 64) Try.func37 rfl rfl (by kernel_rfl) (by simp) ?_
  refine gg ?_
  refine R1_call2 (square_ok _ va r len M w ha) ?_
  rintro _ _ ⟨rfl, n, rfl, hn⟩
  by_cases hok : okS r len = true
  rotate_left
  · have hok' : okS r len = false := by simpa using hok
    rw [hok']
    refine gg ?_
    refine W_seq ?_
    refine gg ?_
    exact ret2 (v := .slice _ _ _) (v' := .bool _) rfl rfl rfl ⟨Ext.refl _, .inl ⟨rfl, rfl⟩⟩
  obtain rfl := hn hok
  obtain ⟨hr1, hr2, hlen⟩ := okS_iff.1 hok
  rw [hok]
  clear hn
  have hM := ha.sq hlen
  have hbM : ∀ i j, i < n → j < n → Bd N (M i j) := fun i j hi hj => hM.bd hi hj
  obtain ⟨Aa, capa, hva, _⟩ := id hM
  subst hva
  refine gg ?_
  refine W_seq ?_
  refine gg ?_
  refine R1_make sl_Int (.inl rfl) rfl rfl (Nat.le_refl _) (by omega) (by omega) ?_
  intro w1 hB1 hE1 hs1
  have hR1 : RowB w1 w.heap.size n true (fun _ => Nb N 16) (fun _ => 0) := rowB_made true _ hB1
  obtain ⟨gM, hgM⟩ : ∃ g, g = w.heap.size := ⟨_, rfl⟩
  rw [← hgM] at hR1 ⊢
  clear hB1
  refine gg ?_
  refine R1_call2 (stagesF_ok _ n N len M w1 (ha.ext hE1) hN1 hN) ?_
  rintro _ w2 ⟨hE2, hcase⟩
  replace hR1 := hR1.ext hE2
  have hE02 := hE1.trans hE2
  rcases hcase with ⟨hp, rfl⟩ | ⟨hp, u, gos, ges, rfl, hSt, hfre⟩
  rotate_left
  · obtain ⟨gl, cp, rfl, hcell⟩ := hSt.list (by omega)
    have hsep : ∀ q, q < n → gos q ≠ gM ∧ ges q ≠ gM := fun q hq => by have := hfre q hq; omega
    have hv : ∀ k, k < n → stg M k 0 0 = ldM M k := fun k hk => stg_ld2 k fun q hq => hp.2 q (by omega)
    have hgl : gl ≠ gM := by
      rintro rfl
      rcases hSt.1 with ⟨h0, _⟩ | ⟨g', cap', e, _, _, hB⟩
      · omega
      · injection e with e1 _ _
        injection e1 with e1
        injection e1 with e1
        subst e1
        obtain ⟨_, hb, _⟩ := hR1
        have := hB.symm.trans hb
        injection this with this
        injection this with _ t
        exact absurd t (by decide)
    refine gg ?_
    refine W_seq ?_
    refine gg ?_
    refine W_seqM (fun f w' => f 6 = .slice (some ⟨gM, 0, none⟩) n n ∧ Ext w w' ∧ RowB w' gM n true (fun _ => Nb N 16) (ldM M)) ?_ ?_
    · refine gg ?_
      refine R1_len sl_ssInt rfl ?_
      refine gg ?_
      refine W_loop (fun m f w' => ∃ k Z, m = n - k ∧ k ≤ n ∧ f 6 = .slice (some ⟨gM, 0, none⟩) n n ∧ f 27 = .slice (some ⟨gl, 0, none⟩) n cp ∧ f 28 = .int .i64 ((n : Nat) : Int) ∧ f 29 = .int .i64 ((k : Nat) : Int) ∧ Ch (fun b => b = gM) w2 w' ∧ Kp w2 w' ∧ RowB w' gM n true (fun _ => Nb N 16) Z ∧ ∀ q, q < k → Z q = ldM M q)
        n ⟨0, _, rfl, Nat.zero_le _, rfl, rfl, rfl, rfl, (Ext.refl w2).mono (fun _ _ h => h.elim), Kp.refl _, hR1, fun q hq => absurd hq (by omega)⟩ ?_
      rintro m f w3 ⟨k, Z, rfl, hk, hf6, hf27, hf28, hf29, hC, hkp, hR, hZ⟩
      rw [ui hf6, ui hf27, ui hf28, ui hf29]
      clear hf6 hf27 hf28 hf29
      by_cases hlt : k < n
      rotate_left
      · refine gg ?_
        exact ⟨rfl, hC.ext_of hE02 (fun b hb => by omega), hR.congr fun j hj => ⟨Nat.le_refl _, hZ j (by omega)⟩⟩
      have hT := (hSt.2 k hlt).kp hkp hC (hsep k hlt).1 (hsep k hlt).2
      have k1 := (cell_ch hC (World.block_lt_of_cell? _ _ (hcell k hlt)) hgl).trans (hcell k hlt)
      have k2 := hT.at (i := 0) (by omega)
      obtain ⟨x0, y0, p0, p0', hv0⟩ := hT.entry (i := 0) (j := 0) (by omega) (by omega)
      rw [hv k hlt] at hv0
      refine gg ?_
      refine R1_indexB sl_ssInt rfl rfl (by omega) ?_
      refine gg ?_
      refine R1_index0B sl_Int rfl (by omega) ?_
      refine gg ?_
      refine R1_storeE (.inl rfl) rfl rfl hR hlt (hv0.mono (Nb_le16 N k (by omega))) ?_
      intro w4 hR4 hC4 hk4 hs4
      refine gg ?_
      refine ⟨_, ?_, k + 1, _, rfl, by omega, rfl, rfl, rfl, rfl, hC.trans hC4, hkp.trans hk4, hR4.congr (fun q _ => ⟨by simp only [setN]; split <;> exact Nat.le_refl _, rfl⟩), fun q hq => ?_⟩
      · omega
      · simp only [setZ]
        by_cases e : q = k
        · rw [if_pos e, e]
        · rw [if_neg e]; exact hZ q (by omega)
    rintro f w3 ⟨hf6, hE3, hR3⟩
    rw [ui hf6]
    refine gg ?_
    exact ret2 (v := .slice _ _ _) (v' := .bool _) rfl rfl rfl ⟨hE3, .inr ⟨rfl, gM, rfl, hR3⟩⟩
  refine gg ?_
  refine W_seq ?_
  refine gg ?_
  refine W_seqM (fun f w' => f 6 = .slice (some ⟨gM, 0, none⟩) n n ∧ Ext w w' ∧ RowB w' gM n true (fun _ => Nb N 16) (ldM M)) ?_ ?_
  · refine gg ?_
    refine W_loop (fun q f w' => ∃ k v Z, q = n - k ∧ k ≤ n ∧ f 0 = .slice Aa n capa ∧ f 6 = .slice (some ⟨gM, 0, none⟩) n n ∧ f 10 = v ∧ f 44 = .int .i64 ((n : Nat) : Int) ∧ f 45 = .int .i64 ((k : Nat) : Int) ∧ Ext w w' ∧ RowB w' gM n true (fun _ => Nb N 16) Z ∧ (∀ q, q < k → Z q = ldM M q) ∧ Gr1 3 (.int .i64 0) w' v k (fun j => .int .i64 ((j : Nat) : Int)) ∧ ∀ b, some b = v.ownBlock → w.heap.size ≤ b ∧ b ≠ gM)
      n ⟨0, .slice none 0 0, _, rfl, Nat.zero_le _, rfl, rfl, rfl, rfl, rfl, hE02, hR1, fun q hq => absurd hq (by omega), Gr1.nil, fun b hb => by cases hb⟩ ?_
    clear hR1
    rintro q f w3 ⟨k, v, Z, rfl, hk, hf0, hf6, hf10, hf44, hf45, hE, hR, hZ, hG, hown⟩
    rw [ui hf0, ui hf6, ui hf10, ui hf44, ui hf45]
    clear hf0 hf6 hf10 hf44 hf45
    by_cases hlt : k < n
    rotate_left
    · refine gg ?_
      exact ⟨rfl, hE, hR.congr fun j hj => ⟨Nat.le_refl _, hZ j (by omega)⟩⟩
    have hRl := hR.lt
    refine gg ?_
    refine R1_build1 (v0 := .int .i64 ((k : Nat) : Int)) sl_int rfl (.inl rfl) rfl rfl ?_
    intro w4 hB4 hE4 hs4
    have hc4 := blkS hB4
    refine gg ?_
    refine R1_app1 sl_int rfl (.inl rfl) rfl rfl (hG.ext hE4) hc4 rfl (by omega) (by decide) (fun _ _ _ => by simp) (fun _ => by simp) ?_
    intro v' w5 hG5 hk5 hC5 hv5
    have hs := (hE.trans hE4).size
    have hE5 := hC5.ext_of (hE.trans hE4) (fun b hb => (hown b hb).1)
    have hR5 := (hR.ext hE4).kp hk5 hC5 (fun hb => (hown _ hb).2 rfl)
    have hG5' : Gr1 3 (.int .i64 0) w5 v' (k + 1) (fun j => .int .i64 ((j : Nat) : Int)) := hG5.congr fun j _ => by
      by_cases e : j = k
      · rw [if_pos e, e]
      · rw [if_neg e]
    have hown5 : ∀ b, some b = v'.ownBlock → w.heap.size ≤ b ∧ b ≠ gM := fun b hb => by
      rcases hv5 with e | e
      · rw [e] at hb; exact hown b hb
      · rw [e] at hb; injection hb with hb; exact ⟨by omega, by omega⟩
    have hI : IntsE w5 v' (k + 1) (fun j => ((j : Nat) : Int)) := hG5'.ints fun _ _ => rfl
    refine gg ?_
    refine R1_call2 (minor_ok _ v' v' n N (k + 1) (k + 1) len M _ _ w5 (ha.ext hE5) hI hI hN1 hN) ?_
    rintro _ w6 ⟨hE6, b, x, y, rfl, hb, hcv⟩
    have hmin : okMin n len (k + 1) (k + 1) (fun j => ((j : Nat) : Int)) (fun j => ((j : Nat) : Int)) := by
      have h0 := hlen 0 (by omega)
      have hokM : okM n len = true := okM_iff.2 ⟨⟨hr1, hr2, by omega, by omega⟩, fun i hi => by rw [hlen i hi, h0]⟩
      exact ⟨hokM, rfl, by omega, asc_id (by omega), asc_id (by omega)⟩
    obtain rfl := hb.2 hmin
    have e : detB (k + 1) (minM M (fun j => ((j : Nat) : Int)) (fun j => ((j : Nat) : Int))) = ldM M k := by
      rw [detB_det]
      exact Go.Det.det_congr fun i j _ _ => by unfold minM; rw [Int.toNat_natCast, Int.toNat_natCast]
    rw [if_pos rfl, e] at hcv
    have hbd := ldM_bd hN1 hlt hr2 hbM
    refine gg ?_
    refine R1_storeE (.inl rfl) rfl rfl (hR5.ext hE6) hlt (hcv.ev true hbd) ?_
    intro w7 hR7 hC7 hk7 hs7
    refine gg ?_
    refine ⟨_, ?_, k + 1, v', _, rfl, by omega, rfl, rfl, rfl, rfl, rfl, hC7.ext_of (hE5.trans hE6) (fun b hb => by omega), hR7.congr (fun q _ => ⟨by simp only [setN]; split <;> exact Nat.le_refl _, rfl⟩), fun q hq => ?_, (hG5'.ext hE6).ch hC7 (fun b hb => (hown5 b hb).2), hown5⟩
    · omega
    · simp only [setZ]
      by_cases e : q = k
      · rw [if_pos e, e]
      · rw [if_neg e]; exact hZ q (by omega)
  rintro f w3 ⟨hf6, hE3, hR3⟩
  rw [ui hf6]
  refine gg ?_
  exact ret2 (v := .slice _ _ _) (v' := .bool _) rfl rfl rfl ⟨hE3, .inr ⟨rfl, gM, rfl, hR3⟩⟩
end Go.Proofs.Ytcjhcefnedonlaa
