/- Joined: Rfa, Rfb. -/
import Derived.Test.YtcjhcefnedonlaaQw
import Derived.Test.YtcjhcefnedonlaaQn
import Derived.Test.YtcjhcefnedonlaaQk
import Derived.Test.YtcjhcefnedonlaaQh
/- quadformref04: first, Leading, Symmetric. -/
namespace Go.Proofs.Ytcjhcefnedonlaa
open Go Go.Eng Go.Num Go.Proofs

/-- 0 .. k - 1, and m -/
def firstF (k m : Nat) : Nat → Nat := fun j => if j < k then j else m
set_option maxHeartbeats 8000000 in
theorem first_ok (k m : Nat) (w : World) (hk : k ≤ 1000) (_hm : m ≤ 1000) :
    Meets Try.prog 53 #[.int .i64 ((k : Nat) : Int), .int .i64 ((m : Nat) : Int)] w fun v w' => Ext w w' ∧ IntsN w' v (k + 1) (firstF k m) := by
  refine fn_W (n := 20) Try.func53 rfl rfl (by kernel_rfl) (by simp) ?_
  refine gg ?_
  refine W_seqM (fun f w' => ∃ v, f 1 = .int .i64 ((m : Nat) : Int) ∧ f 5 = v ∧ Ext w w' ∧ Gr1 3 (.int .i64 0) w' v k (fun j => .int .i64 ((j : Nat) : Int)) ∧ ∀ b, some b = v.ownBlock → w.heap.size ≤ b) ?_ ?_
  · refine gg ?_
    refine W_loop (fun q f w' => ∃ i v, q = k - i ∧ i ≤ k ∧ f 0 = .int .i64 ((k : Nat) : Int) ∧ f 1 = .int .i64 ((m : Nat) : Int) ∧ f 5 = v ∧ f 6 = .int .i64 ((i : Nat) : Int) ∧ Ext w w' ∧ Gr1 3 (.int .i64 0) w' v i (fun j => .int .i64 ((j : Nat) : Int)) ∧ ∀ b, some b = v.ownBlock → w.heap.size ≤ b)
      k ⟨0, .slice none 0 0, rfl, Nat.zero_le _, rfl, rfl, rfl, rfl, Ext.refl _, Gr1.nil, fun b hb => by cases hb⟩ ?_
    rintro q f w1 ⟨i, v, rfl, hi, hf0, hf1, hf5, hf6, hE, hG, hown⟩
    rw [ui hf0, ui hf1, ui hf5, ui hf6]
    clear hf0 hf1 hf5 hf6
    refine W_seq ?_
    by_cases hlt : i < k
    · refine gg ?_
      refine R1_build1 (v0 := .int .i64 ((i : Nat) : Int)) sl_int rfl (.inl rfl) rfl rfl ?_
      intro w2 hB2 hE2 hs2
      have hc2 := blkS hB2
      refine gg ?_
      refine R1_app1 sl_int rfl (.inl rfl) rfl rfl (hG.ext hE2) hc2 rfl (by omega) (by decide) (fun _ _ _ => by simp) (fun _ => by simp) ?_
      intro v' w3 hG3 hk3 hC3 hv3
      have hs := (hE.trans hE2).size
      refine gg ?_
      refine ⟨_, ?_, i + 1, v', rfl, by omega, rfl, rfl, rfl, rfl, hC3.ext_of (hE.trans hE2) hown, hG3.congr fun j _ => ?_, fun b hb => ?_⟩
      · omega
      · by_cases e : j = i
        · rw [if_pos e, e]
        · rw [if_neg e]
      · rcases hv3 with e | e
        · rw [e] at hb; exact hown b hb
        · rw [e] at hb; injection hb with hb; omega
    · refine gg ?_
      obtain rfl : i = k := by omega
      exact ⟨v, rfl, rfl, hE, hG, hown⟩
  rintro f w1 ⟨v, hf1, hf5, hE, hG, hown⟩
  rw [ui hf1, ui hf5]
  refine gg ?_
  refine R1_build1 (v0 := .int .i64 ((m : Nat) : Int)) sl_int rfl (.inl rfl) rfl rfl ?_
  intro w2 hB2 hE2 hs2
  have hc2 := blkS hB2
  refine gg ?_
  refine R1_app1 sl_int rfl (.inl rfl) rfl rfl (hG.ext hE2) hc2 rfl (by omega) (by decide) (fun _ _ _ => by simp) (fun _ => by simp) ?_
  intro v' w3 hG3 hk3 hC3 hv3
  obtain ⟨A, c, rfl, h1, h2⟩ := hG3.slice
  refine gg ?_
  refine ret1 (v := .slice _ _ _) rfl rfl ⟨hC3.ext_of (hE.trans hE2) hown, A, c, rfl, h1, h2, fun j hj => ?_⟩
  obtain ⟨g, cap, e, hc⟩ := hG3.at hj
  injection e with e _ _
  refine ⟨_, e, ?_⟩
  rw [add_lit, hc]
  unfold firstF
  dsimp only
  by_cases e : j = k
  · rw [if_pos e, if_neg (by omega)]
  · rw [if_neg e, if_pos (by omega)]

end Go.Proofs.Ytcjhcefnedonlaa

/- quadformref04: Leading, Definite. -/
namespace Go.Proofs.Ytcjhcefnedonlaa
open Go Go.Eng Go.Num Go.Proofs

/-- the leading minors -/
def ldM (M : Nat → Nat → Int) : Nat → Int := fun k => Go.Det.det (k + 1) M
theorem first_det (k : Nat) (M : Nat → Nat → Int) : detB (k + 1) (fun i j => M (firstF k k i) (firstF k k j)) = ldM M k := by
  rw [detB_det]
  refine Go.Det.det_congr fun i j hi hj => ?_
  have e : ∀ i, i < k + 1 → firstF k k i = i := fun i hi => by unfold firstF; split <;> omega
  rw [e i hi, e j hj]
/-- what Leading leaves -/
def RLd (w : World) (ok : Bool) (n N : Nat) (M : Nat → Nat → Int) (v : Value) (w' : World) : Prop :=
  Ext w w' ∧ ((ok = false ∧ v = .tuple #[.slice none 0 0, .bool false]) ∨ (ok = true ∧ ∃ u, v = .tuple #[u, .bool true] ∧ GrowB w' u n true (Nb N 16) (ldM M)))
theorem ldM_bd {n N k : Nat} {M : Nat → Nat → Int} (hN : 1 ≤ N) (hk : k < n) (hn : n ≤ 16) (h : ∀ i j, i < n → j < n → Bd N (M i j)) : Bd (Nb N 16) (ldM M k) := by
  unfold ldM
  rw [← detB_det]
  exact (detB_bd hN fun i j hi hj => h i j (by omega) (by omega)).mono (Nb_le16 N _ (by omega))

set_option maxHeartbeats 16000000 in
theorem rleading_ok (va : Value) (r N : Nat) (len : Nat → Nat) (M : Nat → Nat → Int) (w : World) (ha : MatE (EI N) w va r len M) (hN1 : 1 ≤ N) (hN : N < 1048576) :
    Meets Try.prog 11 #[va] w (RLd w (okS r len) r N M) := by
  refine fn_W (n := 33) Try.func11 rfl rfl (by kernel_rfl) (by simp) ?_
  refine gg ?_
  refine R1_call2 (rsquare_ok _ va r len M w ha) ?_
  rintro _ w1 ⟨hE1, rfl⟩
  obtain ⟨n, en, hn⟩ := sqV_cases r len
  rw [en]
  by_cases hok : okS r len = true
  rotate_left
  · have hok' : okS r len = false := by simpa using hok
    rw [hok']
    refine gg ?_
    refine W_seq ?_
    refine gg ?_
    exact ret2 (v := .slice _ _ _) (v' := .bool _) rfl rfl rfl ⟨hE1, .inl ⟨rfl, rfl⟩⟩
  rw [hok, if_pos rfl] at hn
  obtain rfl : r = n := hn.symm
  obtain ⟨hr1, hr2, hlen⟩ := okS_iff.1 hok
  rw [hok]
  have hM := (ha.sq hlen).ext hE1
  have hbM : ∀ i j, i < r → j < r → Bd N (M i j) := fun i j hi hj => hM.bd hi hj
  obtain ⟨Aa, capa, hva, _⟩ := id hM
  subst hva
  clear en hn
  refine gg ?_
  refine W_seq ?_
  refine gg ?_
  refine W_seqM (fun f w' => ∃ v, f 6 = v ∧ Ext w w' ∧ GrowB w' v r true (Nb N 16) (ldM M)) ?_ ?_
  · refine gg ?_
    refine W_loop (fun m f w' => ∃ k v, m = r - k ∧ k ≤ r ∧ f 0 = .slice Aa r capa ∧ f 4 = .int .i64 ((r : Nat) : Int) ∧ f 6 = v ∧ f 7 = .int .i64 ((k : Nat) : Int) ∧ Ext w1 w' ∧ GrowB w' v k true (Nb N 16) (ldM M) ∧ ∀ b, some b = v.ownBlock → w1.heap.size ≤ b)
      r ⟨0, .slice none 0 0, rfl, Nat.zero_le _, rfl, rfl, rfl, rfl, Ext.refl _, GrowB.nil, fun b hb => by cases hb⟩ ?_
    rintro m f w2 ⟨k, v, rfl, hk, hf0, hf4, hf6, hf7, hE, hG, hown⟩
    rw [ui hf0, ui hf4, ui hf6, ui hf7]
    clear hf0 hf4 hf6 hf7
    refine W_seq ?_
    by_cases hlt : k < r
    · refine gg ?_
      refine R1_call2 (first_ok k k w2 (by omega) (by omega)) ?_
      rintro v1 w3 ⟨hE3, hv1⟩
      refine gg ?_
      refine R1_call2 (first_ok k k w3 (by omega) (by omega)) ?_
      rintro v2 w4 ⟨hE4, hv2⟩
      have hf : ∀ j, j < k + 1 → firstF k k j < r := fun j hj => by unfold firstF; split <;> omega
      have hE14 := hE.trans (hE3.trans hE4)
      refine gg ?_
      refine R1_call2 (rselect_ok _ v1 v2 r r (k + 1) (k + 1) N _ _ M w4 (hM.ext hE14) (hv1.ext hE4) hv2 hf hf (by omega) (by omega)) ?_
      rintro v3 w5 ⟨hE5, hS⟩
      refine gg ?_
      refine R1_call2 (rdet_ok v3 (k + 1) N _ w5 hS (by omega) hN1 hN) ?_
      rintro _ w6 ⟨hE6, x, y, rfl, hcv⟩
      rw [first_det] at hcv
      have hbd := ldM_bd hN1 hlt hr2 hbM
      refine gg ?_
      refine R1_sliceE1 (.inl rfl) rfl ?_
      intro w7 hB7 hE7 hs7
      obtain ⟨p1, p2⟩ := blkP hB7
      have hE27 := hE3.trans (hE4.trans (hE5.trans (hE6.trans hE7)))
      refine gg ?_
      refine R1_appE (.inl rfl) rfl rfl (hG.ext hE27) p1 p2 ((hcv.ext hE7).ev true hbd) (by omega) ?_
      intro v' w8 hG8 hk8 hC8 hv8
      have hs := (hE.trans hE27).size
      refine gg ?_
      refine ⟨_, ?_, k + 1, v', rfl, by omega, rfl, rfl, rfl, rfl, hC8.ext_of (hE.trans hE27) hown, hG8.congr fun q _ => ?_, fun b hb => ?_⟩
      · omega
      · split
        · rename_i e; rw [e]
        · rfl
      · rcases hv8 with e | e
        · rw [e] at hb; exact hown b hb
        · rw [e] at hb; injection hb with hb; omega
    · refine gg ?_
      obtain rfl : k = r := by omega
      exact ⟨v, rfl, hE1.trans hE, hG⟩
  rintro f w2 ⟨v, hf6, hE, hG⟩
  rw [ui hf6]
  clear hf6
  refine gg ?_
  exact ret2 (v := v) (v' := .bool _) rfl rfl rfl ⟨hE, .inr ⟨rfl, v, rfl, hG⟩⟩

/-- positive definite, by the leading minors -/
def okDf (r : Nat) (len : Nat → Nat) (M : Nat → Nat → Int) : Prop := okS r len = true ∧ (∀ i j, i < r → j < i → M i j = M j i) ∧ ∀ q, q < r → 0 < ldM M q

end Go.Proofs.Ytcjhcefnedonlaa
