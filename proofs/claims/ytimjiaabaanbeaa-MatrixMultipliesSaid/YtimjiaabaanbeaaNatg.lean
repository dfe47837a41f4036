/- The program's natural numbers: divNat. -/
import Derived.Test.YtimjiaabaanbeaaNatf
namespace Go.Proofs.Ytimjiaabaanbeaa
open Go Go.Eng Go.Num Go.Proofs

theorem natV_nil (w : World) : NatV w (.slice none 0 0) 0 := ⟨none, [], 0, rfl, Nat.le_refl _, by omega, Mag.nil _ _, Trimd.nil, rfl⟩
theorem trimd_last {l : List Nat} (h : Trimd l) (hl : 0 < l.length) : 0 < l.getD (l.length - 1) 0 := by
  have hne : l ≠ [] := by rintro rfl; simp at hl
  have := h hne
  rw [List.getLast_eq_getElem] at this
  have hlt : l.length - 1 < l.length := by omega
  have e : l.getD (l.length - 1) 0 = l[l.length - 1] := by simp [List.getD, hlt]
  rw [e]; omega
theorem NatV.ext {w w' : World} {v : Value} {m : Nat} (h : NatV w v m) (hE : Ext w w') : NatV w' v m := by
  obtain ⟨A, l, c, e, h1, h2, h3, h4, h5⟩ := h
  exact ⟨A, l, c, e, h1, h2, h3.ext hE, h4, h5⟩
theorem natV_clone {w : World} {v : Value} {l : List Nat} {n base : Nat} (hl : Lim l) (ht : Trimd l) (hn : l.length = n) (h : (v = .slice none 0 0 ∧ l = []) ∨ ∃ g c', v = .slice (some ⟨g, 0, none⟩) n c' ∧ base ≤ g ∧ n ≤ c' ∧ c' ≤ 9223372036854775807 ∧ Lb w g l) : NatV w v (val l) := by
  rcases h with ⟨rfl, rfl⟩ | ⟨g, c', rfl, hg, h1, h2, h3⟩
  · exact natV_nil w
  · exact ⟨_, l, c', by rw [hn], by omega, by omega, h3.mag hl, ht, rfl⟩

set_option maxHeartbeats 16000000 in
theorem divNat_ok (A1 A2 : Option Addr) (n1 n2 c1 c2 : Nat) (l1 l2 : List Nat) (w : World) (h1 : Mag w A1 l1) (h2 : Mag w A2 l2) (hn1 : l1.length = n1) (hn2 : l2.length = n2) (hl1 : n1 < 1099511627776) (hl2 : n2 < 1099511627776) (t1 : Trimd l1) (t2 : Trimd l2) (hpos : 0 < val l2) :
    Meets Try.prog 105 #[.slice A1 n1 c1, .slice A2 n2 c2] w fun v w' => ∃ q r, v = .tuple #[q, r] ∧ Ext w w' ∧ NatV w' q (val l1 / val l2) ∧ NatV w' r (val l1 % val l2) := by
  subst hn1 hn2
  refine fn_W (n := 104) Try.func105 rfl rfl (by kernel_rfl) (by simp) ?_
  have h20 : 0 < l2.length := by
    rcases Nat.eq_zero_or_pos l2.length with h | h
    · rw [List.eq_nil_of_length_eq_zero h] at hpos; simp [val] at hpos
    · exact h
  refine gg ?_
  refine R1_call2 (compareNat_ok _ _ _ _ _ _ _ _ w h1 h2 rfl rfl hl1 hl2 t1 t2) ?_
  rintro _ w1 ⟨hE1, rfl⟩
  by_cases hlt : val l1 < val l2
  · have ec : cmpZ (val l1) (val l2) = -1 := by rw [cmpZ, if_pos hlt]
    rw [ec]
    refine gg ?_
    refine R1_call2 (clone_ok _ _ _ _ w1 (h1.ext hE1) rfl hl1 h1.none_len) ?_
    rintro v w2 ⟨hE2, hv⟩
    refine gg ?_
    refine ret2 (v := .slice _ _ _) (v' := v) rfl rfl rfl ⟨_, _, rfl, hE1.trans hE2, ?_, ?_⟩
    · rw [Nat.div_eq_of_lt hlt]; exact natV_nil _
    · rw [Nat.mod_eq_of_lt hlt]; exact natV_clone h1.lim t1 rfl hv
  have ec : ¬ cmpZ (val l1) (val l2) < 0 := by rw [cmpZ, if_neg hlt]; split <;> omega
  generalize cmpZ (val l1) (val l2) = cz at *
  have hlen : l2.length ≤ l1.length := by
    rcases Nat.lt_or_ge l1.length l2.length with h | h
    · exact absurd (val_lt_len h1.lim t2 h) hlt
    · exact h
  by_cases hs2 : l1.length ≤ 2
  · refine gg ?_
    refine R1_call2 (word_ok _ _ _ _ w1 (h1.ext hE1) rfl (by omega)) ?_
    rintro _ _ ⟨rfl, rfl⟩
    refine gg ?_
    refine R1_call2 (word_ok _ _ _ _ w1 (h2.ext hE1) rfl (by omega)) ?_
    rintro _ _ ⟨rfl, rfl⟩
    refine gg ?_
    have b1 : val l1 < 18446744073709551616 := by
      have := val_lt l1 h1.lim
      exact Nat.lt_of_lt_of_le this (Nat.le_trans (Nat.pow_le_pow_right (by decide) hs2) (by decide))
    refine W_seqD [(0, 3), (1, 3), (2, 3), (4, 3), (5, 3), (6, 3), (3, 1), (7, 1), (8, 3), (9, 3)] mixed (by kernel_rfl) (fun w2 hE2 _ => ?_)
    refine gg ?_
    refine R1_quo_u64 rfl rfl b1 hpos ?_
    refine gg ?_
    refine R1_rem_u64 rfl rfl hpos ?_
    refine gg ?_
    refine R1_call1 (fromWord_ok _ w2 (Nat.lt_of_le_of_lt (Nat.div_le_self _ _) b1)) ?_
    rintro vq w3 ⟨hE3, hq⟩
    refine ⟨hE3, ?_⟩
    refine gg ?_
    refine R1_call1 (fromWord_ok _ w3 (Nat.lt_of_le_of_lt (Nat.mod_le _ _) b1)) ?_
    rintro vr w4 ⟨hE4, hr⟩
    refine ⟨hE4, ?_⟩
    refine gg ?_
    exact ret2 (v := vq) (v' := vr) rfl rfl rfl ⟨_, _, rfl, ((hE1.trans hE2).trans hE3).trans hE4, hq.ext hE4, hr⟩
  by_cases hs1 : l2.length = 1
  · refine gg ?_
    refine R1_call2 (clone_ok _ _ _ _ w1 (h1.ext hE1) rfl hl1 h1.none_len) ?_
    rintro v w2 ⟨hE2, hv⟩
    rcases hv with ⟨_, rfl⟩ | ⟨g, c', rfl, hg, hc1, hc2, hL⟩
    · simp at hs2
    refine gg ?_
    obtain ⟨ad, rfl, hc⟩ := (h2.ext (hE1.trans hE2)).at (j := 0) (by omega)
    have hx := hc 0 (by omega)
    have bx := h2.lim.getD 0
    have hvx : val l2 = l2.getD 0 0 := by
      match l2, hs1 with
      | [x], _ => simp [val]
    refine R1_index sl_u32 (j := 0) rfl rfl (by omega) ?_
    refine gg ?_
    refine R1_call2 (divideByLimb_ok _ _ _ _ _ w2 hL h1.lim rfl hl1 (by omega) bx) ?_
    rintro _ w3 ⟨r, L', rfl, hC3, hs3, hL3, hlen3, hlim3, hv3, hr3⟩
    have hE3 : Ext w w3 := hC3.ext_of (hE1.trans hE2) (fun b hb => by have := hE1.size; omega)
    refine gg ?_
    refine R1_call2 (trim_ok _ _ _ _ w3 (hL3.mag hlim3) hlen3 hc1 (by omega)) ?_
    rintro v w4 ⟨rfl, m, hm4, rfl, htr, hval⟩
    refine gg ?_
    refine R1_call2 (fromWord_ok _ w3 (by omega)) ?_
    rintro vr w5 ⟨hE5, hr⟩
    refine gg ?_
    rw [← hvx] at hv3 hr3
    have hu := div_uniq hv3 hr3
    refine ret2 (v := .slice _ _ _) (v' := vr) rfl rfl rfl ⟨_, _, rfl, hE3.trans hE5, ?_, ?_⟩
    · rw [← hu.1]; exact (natV_trim (hL3.mag hlim3) hm4 (by omega) (by omega) htr hval rfl).ext hE5
    · rw [← hu.2]; exact hr
  · obtain ⟨k, hk⟩ : ∃ k, l2.length = k + 2 := ⟨l2.length - 2, by omega⟩
    have hlast := trimd_last t2 h20
    have bl := h2.lim.getD (l2.length - 1)
    refine gg ?_
    obtain ⟨ad, rfl, hc⟩ := (h2.ext hE1).at (j := l2.length - 1) (by omega)
    have hx := hc (l2.length - 1) (by omega)
    refine gg ?_
    refine R1_call2 (leadingZeros_ok _ w1 bl hlast) ?_
    rintro _ _ ⟨rfl, s, rfl, hs, hs31, hs32⟩
    refine gg ?_
    refine R1_call2 (shiftLeft_ok _ _ _ _ _ w1 (h2.ext hE1) rfl hl2 hs) ?_
    rintro _ w2 ⟨LD, rfl, hE2, hBD, hlD, hlimD, hvD, _⟩
    refine gg ?_
    refine R1_call2 (shiftLeft_ok _ _ _ _ _ w2 (h1.ext (hE1.trans hE2)) rfl hl1 hs) ?_
    rintro _ w3 ⟨R0, rfl, hE3, hBR, hlR, hlimR, hvR, htopR⟩
    refine gg ?_
    refine R1_make sl_u32 (.inl rfl) rfl rfl (Nat.le_refl _) (by omega) (by omega) ?_
    intro w4 hBQ hE4 hs4
    rw [cells_made] at hBQ
    have z2 := hE2.size
    have z3 := hE3.size
    have y2 : w1.heap.size < w2.heap.size := hBD.lt
    have y3 : w2.heap.size < w3.heap.size := hBR.lt
    have y1 := hE1.size
    rw [show l2.length - 1 = k + 1 by omega] at hs31 hs32
    have hsh := shifted_top l2 k s h2.lim hk hs hs31 hs32
    have hVt := take_of_lt (l := LD) (k := k + 2) (by omega) (by rw [hvD]; exact hsh.1)
    have hVlen : (LD.take (k + 2)).length = k + 2 := by rw [List.length_take]; omega
    have hVlim := hlimD.take (k + 2)
    have hVval : val (LD.take (k + 2)) = val l2 * 2 ^ s := hVt.1.trans hvD
    have hnorm : 2147483648 ≤ (LD.take (k + 2)).getD (k + 1) 0 := top_ge hVlim hVlen (by rw [hVval]; exact hsh.2)
    have hmagD : Mag w4 (some ⟨w1.heap.size, 0, none⟩) (LD.take (k + 2)) := ((mag_of_blk hBD hlimD).take (k + 2)).ext (hE3.trans hE4)
    clear hVt hsh hBD hlimD hvD
    generalize LD.take (k + 2) = V at *
    have hstart : val (R0.drop (l1.length - l2.length + 1)) < val V := by
      refine first_rem R0 V _ k hlimR (by omega) hVlen ?_
      rw [show l1.length - l2.length + 1 + (k + 1) = l1.length by omega]
      have : 2 ^ s ≤ 2147483648 := Nat.pow_le_pow_right (n := 2) (by decide) (show s ≤ 31 by omega)
      omega
    have hEA : Ext w w4 := ((hE1.trans hE2).trans hE3).trans hE4
    have hLR : Lb w4 w2.heap.size R0 := (Lb.of hBR).ext hE4
    refine gg ?_
    refine W_seqM (fun f w' => ∃ R Q, f 4 = .slice (some ⟨w3.heap.size, 0, none⟩) (l1.length - l2.length + 1) (l1.length - l2.length + 1) ∧ f 9 = .int .i64 ((s : Nat) : Int) ∧ f 11 = .slice (some ⟨w2.heap.size, 0, none⟩) (l1.length + 1) (l1.length + 1) ∧
      Ext w w' ∧ Lb w' w2.heap.size R ∧ R.length = l1.length + 1 ∧ Lim R ∧ Blk w' w3.heap.size 54 (cells Q) ∧ Q.length = l1.length - l2.length + 1 ∧ Lim Q ∧ val R < val V ∧ val R0 = val Q * val V + val R) ?_ ?_
    · refine gg ?_
      refine W_loop (fun m f w' => ∃ R Q, m ≤ l1.length - l2.length + 1 ∧ f 1 = .slice (some ad) l2.length c2 ∧ f 4 = .slice (some ⟨w3.heap.size, 0, none⟩) (l1.length - l2.length + 1) (l1.length - l2.length + 1) ∧ f 9 = .int .i64 ((s : Nat) : Int) ∧ f 10 = .slice (some ⟨w1.heap.size, 0, none⟩) l2.length (l2.length + 1) ∧ f 11 = .slice (some ⟨w2.heap.size, 0, none⟩) (l1.length + 1) (l1.length + 1) ∧ f 12 = .int .i64 ((m : Int) - 1) ∧
        Ext w w' ∧ Mag w' (some ⟨w1.heap.size, 0, none⟩) V ∧ Lb w' w2.heap.size R ∧ R.length = l1.length + 1 ∧ Lim R ∧ Blk w' w3.heap.size 54 (cells Q) ∧ Q.length = l1.length - l2.length + 1 ∧ Lim Q ∧ val (R.drop m) < val V ∧ val R0 = val (Q.drop m) * (B ^ m * val V) + val R)
        (l1.length - l2.length + 1) ⟨R0, _, Nat.le_refl _, rfl, rfl, rfl, rfl, rfl, ?_, hEA, hmagD, hLR, hlR, hlimR, hBQ, by simp, lim_replicate _, hstart, by simp [val]⟩ ?_
      · show Value.int .i64 _ = _
        congr 1; omega
      clear hx hc hBQ hLR hEA hmagD hs4 hE4 hBR hlR hlimR hvR htopR hstart
      rintro m f w5 ⟨R, Q, hm, hf1, hf4, hf9, hf10, hf11, hf12, hE, hM, hL, hlR, hlimR, hBQ, hlQ, hlimQ, hrem, hval⟩
      rw [ui hf1, ui hf4, ui hf9, ui hf10, ui hf11]
      clear hf1 hf4 hf9 hf10 hf11
      rcases m with _ | j
      · rw [ui hf12]
        refine W_seq ?_
        refine gg ?_
        refine ⟨R, Q, rfl, rfl, rfl, hE, hL, hlR, hlimR, hBQ, hlQ, hlimQ, by simpa using hrem, by simpa using hval⟩
      · have e12 : (((j + 1 : Nat) : Int) - 1) = (j : Int) := by omega
        rw [e12] at hf12
        rw [ui hf12]
        clear hf12
        refine W_seq ?_
        refine gg ?_
        refine R1_sliceLHB sl_u32 rfl rfl rfl (by omega) (by omega) (by omega) ?_
        refine gg ?_
        refine R1_call2 (divideStep_ok w2.heap.size j k _ _ _ _ _ R V w5 hL hlimR hM ?_ hVlen hk ?_ (by omega) (by omega) hnorm ?_) ?_
        · show w1.heap.size ≠ w2.heap.size; omega
        · omega
        · have hdrop : val (R.drop j) = R.getD j 0 + B * val (R.drop (j + 1)) := by rw [drop_cons R j (by omega), val]
          have h1 : B * val (R.drop (j + 1)) + B ≤ B * val V := by rw [← Nat.mul_succ]; exact Nat.mul_le_mul_left _ hrem
          have hb : R.getD j 0 < B := hlimR.getD j
          have h3 : val (seg R j (k + 3)) ≤ val (R.drop j) := by
            have := val_split (R.drop j) (k + 3) (by rw [List.length_drop]; omega)
            unfold seg; omega
          omega
        rintro _ w6 ⟨q, R', rfl, hq, hC6, hs6, hL6, hlR6, hlimR6, hsame6, hdiv6, hrem6⟩
        refine gg ?_
        have hBQ6 : Blk w6 w3.heap.size 54 (cells Q) := hBQ.ch hC6 (show ¬ w3.heap.size = w2.heap.size by omega)
        refine R1_storeI (one_of rfl) (.inl rfl) rfl rfl hBQ6 (by rw [cells_size]; omega) ?_
        intro w7 hB7 hC7 hs7
        rw [cells_set] at hB7
        refine gg ?_
        have hst := ld_step hlimR (by omega) hlR6 hVlen hVlim (by omega) hrem hval hsame6 hdiv6 hrem6
        have hE7 : Ext w w7 := Ch.ext_of (hC6.ext_of hE (fun b hb => by omega)) hC7 (fun b hb => by omega)
        obtain ⟨sp, hBL⟩ := hL6
        refine ⟨j, by omega, R', Q.set j q, by omega, rfl, rfl, rfl, rfl, rfl, rfl, hE7, ?_, ⟨sp, hBL.ch hC7 (show ¬ w2.heap.size = w3.heap.size by omega)⟩, by omega, hlimR6, hB7, by simpa using hlQ, hlimQ.set hq, hst.1, hst.2⟩
        refine (hM.ch hC6 ?_).ch hC7 ?_
        · intro a e; injection e with e; subst e; show ¬ w1.heap.size = w2.heap.size; omega
        · intro a e; injection e with e; subst e; show ¬ w1.heap.size = w3.heap.size; omega
    · clear hx hc hBQ hLR hEA hmagD hs4 hE4 hBR hlR hlimR htopR hstart
      rintro f w5 ⟨R, Q, hf4, hf9, hf11, hE, hL, hlR, hlimR, hBQ, hlQ, hlimQ, hrem, hval⟩
      rw [ui hf4, ui hf9, ui hf11]
      clear hf4 hf9 hf11
      refine gg ?_
      refine R1_call2 (shiftRight_ok w2.heap.size _ _ _ R w5 hL hlimR hlR (by omega) hs) ?_
      rintro _ w6 ⟨hC6, hs6, hL6⟩
      have hE6 : Ext w w6 := hC6.ext_of hE (fun b hb => by omega)
      have hBQ6 : Blk w6 w3.heap.size 54 (cells Q) := hBQ.ch hC6 (show ¬ w3.heap.size = w2.heap.size by omega)
      refine gg ?_
      refine R1_call2 (trim_ok _ _ _ _ w6 (mag_of_blk hBQ6 hlimQ) hlQ (Nat.le_refl _) (by omega)) ?_
      rintro _ _ ⟨rfl, m, hm, rfl, htr, htv⟩
      refine gg ?_
      refine R1_call2 (trim_ok _ _ _ _ w6 (hL6.mag (sr_lim s R hlimR)) (by rw [sr_len]; exact hlR) (Nat.le_refl _) (by omega)) ?_
      rintro _ _ ⟨rfl, m', hm', rfl, htr', htv'⟩
      refine gg ?_
      rw [hvR, hVval] at hval
      rw [hVval] at hrem
      have hld := long_div hval hrem
      refine ret2 (v := .slice _ _ _) (v' := .slice _ _ _) rfl rfl rfl ⟨_, _, rfl, hE6, ?_, ?_⟩
      · rw [← hld.1]; exact natV_trim (mag_of_blk hBQ6 hlimQ) hm (by omega) (by omega) htr htv rfl
      · rw [← hld.2, ← sr_val s hs R hlimR]; exact natV_trim (hL6.mag (sr_lim s R hlimR)) hm' (by rw [sr_len]; omega) (by omega) htr' htv' rfl
end Go.Proofs.Ytimjiaabaanbeaa
